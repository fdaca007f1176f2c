/- A part. -/
import Derived.Test.YtkjmpcfikenlbaaGreatDoorQ3
set_option linter.all false
namespace Go.Tx
open Go Go.Ev
set_option maxRecDepth 100000
set_option maxHeartbeats 8000000
def lV(a:cG):bj:=a.ay++[58,32]++a.bL.bc++(if a.has then(if a.gk.zero then [32,61]else [32,61,32]++a.gk.bc)else [])
def ke(f:cu):bj:=nc f.since f.dr f.inl [105,110,108,105,110,101]++[102,117,110,99,32]++f.ay++g6 (f.dB.map iz)++[40]++cU [44,32] (f.args.map lV)++[41,58,32]++f.eW.bc++(if f.has then [32,61,32]++f.body.bc else [])++[59,10]
def xC(a:cG):Nat:=20+a.ay.length+a.bL.bc.length+a.gk.pq
def wA(f:cu):Nat:=100+f.ay.length+(bD (f.dB.map iz)+2*f.dB.length)+(f.args.map xC).sum+f.eW.bc.length+f.body.pq
theorem aoH(a:cG)(h:a.gk.b0):(lV a).length+2<=xC a:=by
 have:=ai.FB a.gk h;unfold lV xC;simp only[List.length_append,List.length_cons,List.length_nil];split
 .split<;>simp only[List.length_append,List.length_cons,List.length_nil]<;>omega
 .simp only[List.length_nil];omega
theorem ahH(l:List cG)(h:∀a∈l,a.gk.b0):bD (l.map lV)+2*l.length<=(l.map xC).sum:=by
 induction l with
 |nil=>simp[bD]
 |cons a l bQ=>have:=bQ λx M=>h x (by simp[M]);have:=aoH a (h a (by simp));rw[List.map_cons,Az,List.map_cons,List.sum_cons,List.length_cons];omega
def alp{a:cG}{l:List cG}(h:a∈l):xC a<=(l.map xC).sum:=by
 induction l with
 |nil=>cases h
 |cons b l bQ=>
  rw[gg,List.sum_cons];rcases hS.1 h with rfl|h
  .omega
  .have:=bQ h;omega
theorem BS(n:Nat)(p m:Bool)(w:bj)(aD:n<9223372036854775808):(nc n p m w).length<=37+w.length:=by have:=UH (n:=n) (by omega);unfold nc;simp only[List.length_append];split<;>split<;>split<;>simp only[List.length_append,List.length_cons,List.length_nil]<;>omega
theorem Xm(f:cu)(a1:f.ok):(ke f).length<=wA f:=by obtain⟨f1,f2,f3,f4,f5,rf,K1,K5⟩:=a1;have D:=BS f.since f.dr f.inl [105,110,108,105,110,101] f1;have F:=Cs (f.dB.map iz);have aq:=ahH f.args λa aC=>(rf a aC).2.2;have aL:=Ak [44,32] (f.args.map lV);have bO:=ai.FB f.body K5;rw[List.length_map]at F aL;unfold ke wA;simp only[List.length_append,List.length_cons,List.length_nil]at D aL ⊢;split<;>simp only[List.length_append,List.length_cons,List.length_nil]<;>omega
attribute [local irreducible] eo eA bU eE eJ eN cU eX
section
variable{C:Nat->cE}{ext:Nat->Option eS}{Q:e9}(aa:Env C ext Q)
include aa
def alK(f:cu)(a1:f.ok)(aI:zm f)(cw:wA f<100000000000000000):dz C 86 [.J (.agg f.row)] λv=>v=.str (ke f):=by
 have aB:=Xm f a1;have⟨f1,f2,f3,f4,f5,rf,K1,K5⟩:=a1;have⟨_,_,_,_,oI,_,Rz⟩:=aI;have hm:(f.args.map cG.row).length=f.args.length:=bW;unfold wA at cw aB;refine aa.z 86 (gK [(0,[4,5,10,11,12],[⟨false,3,0,900,9,1⟩],[1,900])]) rfl rfl ?_;refine N ?_;refine hs cG.row f.args 9 (λ_ (_:Unit)=>[(3,.bD 900)]) (λd _=>[(1,.box 49 20 (.cb f.row)),(900,.bF 9 1 ((d.map lV).map b6) true)]) (λ_ _=>True) ⟨(),trivial,by kernel_rfl⟩ (λd b x r ba aw be ag a7 bt=>?_) (λb ba a7=>?_)
 .have M:x∈f.args:=by simp[aw]
  have B:=rf x M;have asQ:20+x.ay.length+x.bL.bc.length+x.gk.pq<=(f.args.map xC).sum:=alp M;have⟨cL,dP,fW⟩:=B;have cA:=Rz x M;have vu:d.length<100:=I;have cl:((d.map lV).map b6).length=d.length:=by simp
  have ajc:=wV aa x.bL dP I;have x3:=QU aa x.gk;have ap0:=ai.FB x.gk fW;have jT:∀s,s=lV x->((d++[x]).map lV).map b6=(d.map lV).map b6++[[.str s]]:=by intro s ap;subst ap;simp[b6]
  clear aB aw f4 rf oI Rz;unfold cG.row at ag;refine dk ?_;refine bw ?_;refine dW ajc ?_;refine eO (λh=>?_) (λh=>?_)
  .refine N ?_;refine bn x3 ?_;refine eO (λD=>?_) (λD=>?_)
   .refine bw ?_;exact bt () _ _ trivial (by rw[jT (x.ay++[58,32]++x.bL.bc++[32,61]) (by unfold lV;rw[h,D];rfl)];rfl)
   .have ajb:x.gk.oC:=by
     rcases cA.2.2 with F|F
     .rw[F]at D;cases D
     .exact F.2
    refine N ?_;refine .yes h ?_;refine bw ?_;refine dW (Y7 aa x.gk fW ajb I) ?_;exact bt () _ _ trivial (by rw[jT (x.ay++[58,32]++x.bL.bc++([32,61,32]++x.gk.bc)) (by unfold lV;rw[h,D];rfl)];rfl)
  .refine N ?_;refine .no h ?_;refine bw ?_;exact bt () _ _ trivial (by rw[jT (x.ay++[58,32]++x.bL.bc) (by unfold lV;rw[h];simp)];rfl)
 .have asa:=Gt aa f.since f.dr f.inl [105,110,108,105,110,101] f1 af;unfold ke at aB;simp only[fP,lM,md]at aB;have Fm:=Cs (f.dB.map iz);rw[ex]at Fm;have Qg:=ad4 aa f.aj f.dB f3 f4 I (λx M=>by have:=Wo (List.mem_map_of_mem (f:=iz) M);omega);have ark:=λg=>EC aa g (f.args.map lV) [44,32] (by rw[ex];omega) I;have aij:=wV aa f.eW K1 I;have ap0:=ai.FB f.body K5;have af2:=λh=>Y7 aa f.body K5 (oI h) I;unfold ke;clear f4 rf oI Rz;refine dd ?_;refine dW asa ?_;refine dW Qg ?_;refine dW (ark _) ?_;refine dW aij ?_;refine eO (λh=>?_) (λh=>?_)
  .rw[ev h]at aB ⊢;simp only[fP,lM,md]at aB;refine bw ?_;refine dW (af2 h) ?_;exact⟨rfl,rfl⟩
  .rw[cO (by rw[h];decide)]at aB ⊢;rw[kE];refine bw ?_;exact⟨rfl,rfl⟩
end
def de{α:Type}(f:α->bj)(l:List α):bj:=(l.map f).flatten
def abf{α:Type}(f:α->bj)(d:List α)(x:α):de f (d++[x])=de f d++f x:=by simp[de]
def xp{α:Type}(bB:bj)(f:α->bj):bB++de f []=bB:=kE bB
def wP{α:Type}(f:α->bj){l d r:List α}{x:α}(h:l=d++x::r):(de f l).length=(de f d).length+(f x).length+(de f r).length:=by subst h;simp[de];omega
def ue{α:Type}(bB:bj)(f:α->bj)(d:List α)(x:α):bB++de f (d++[x])=bB++de f d++f x:=by rw[abf,k9]
def yw(bB a9:bj):(bB++a9).length=bB.length+a9.length:=fP
def Ka{s gS:bj}{T:List bj}(h:s∈T):s.length<=(cU gS T).length:=by obtain⟨d,r,rfl⟩:=List.append_of_mem h;have:=(KV gS s r d).1;omega
theorem alP{g : c3}{l : List c3}(h : g ∈ l) : (iz g).length ≤ (g6 (l.map iz)).length := by
  have D := Ka (gS := [44, 32]) (List.mem_map_of_mem (f := iz) h)
  cases a0 : l.map iz with
  | nil => rw [a0]at D; have F : (cU [44, 32] ([] : List bj)).length = 0 := by simp[cU]
           omega
  | cons a s => rw [a0]at D; show _ ≤ (91 :: (cU [44, 32] (a :: s) ++ [93])).length; simp only [List.length_cons, List.length_append]; omega
def n6(i:hM):bj:=[105,109,112,111,114,116,32]++i.ay++[32]++mx i.rel++[59,10]
def n7(f:eT):bj:=[32,32]++nc 0 f.dr false []++f.ay++[58,32]++f.bL.bc++[59,10]
def qc(x:dX):bj:=nc x.since x.dr x.e6 [102,114,111,122,101,110]++[115,116,114,117,99,116,32]++x.ay++g6 x.params++[32,123,10]
def jL(x:dX):bj:=qc x++de n7 x.fields++[125,10]
def mH(c:fl):bj:=[32,32]++nc 0 false c.ind [105,110,100,105,114,101,99,116]++c.ay++(if 0<c.gL.length then [40]++cU [44,32] (c.gL.map al.bc)++[41]else [])++[59,10]
def qn(x:dV):bj:=nc x.since x.dr x.e6 [102,114,111,122,101,110]++[117,110,105,111,110,32]++x.ay++g6 x.params++[32,123,10]
def kl(x:dV):bj:=qn x++de mH x.cases++[125,10]
def lU(m:fS):bj:=[32,32,102,117,110,99,32]++m.ay++[40]++cU [44,32] (m.args.map al.bc)++[41,58,32]++m.eW.bc++(if m.gk=[]then []else [32,100,101,102,97,117,108,116,32]++m.gk)++[59,10]
def pn(x:eG):bj:=nc x.since x.dr x.pV [115,101,97,108,101,100]++[116,114,97,105,116,32]++x.ay++[32,123,10]
def kw(x:eG):bj:=pn x++de lU x.eu++[125,10]
def pt(b:ko):bj:=[32,32]++b.Cj++[32,61,32]++b.func++[59,10]
def re(c:em):bj:=[99,111,110,102,111,114,109,32]++c.rx++g6 (c.dB.map iz)++[32,102,111,114,32]++c.bL.bc++[32,123,10]
def kc(c:em):bj:=re c++de pt c.binds++[125,10]
def oH(x:cZ):bj:=if x.kind=1 then [108,105,98,114,97,114,121,32]++x.ay++[32,114,101,108,101,97,115,101,32]++mx x.rel++[59,10]else if x.kind=2 then [99,108,105,101,110,116,32]++x.ay++[59,10]else [105,110,116,101,114,102,97,99,101,32]++x.ay++[32,114,101,108,101,97,115,101,32]++mx x.rel++[59,10]
def m1(x:cZ):bj:=oH x++de n6 x.fA++de jL x.dJ++de kl x.d9++de kw x.e2++de kc x.dn++de ke x.funcs
def afy{fL a9 C h jc P es aT c n E A ce bJ}(s:bj)(D:fL λfe bE=>bE=A/\∃a b c,fe=j9 (j9 (j9 (j9 E 14 (.J c)) 15 (.J a)) 16 (.J b)) 3 (.J (.str s)))(F:∀a b c,a9 (j9 (j9 (j9 (j9 E 14 (.J c)) 15 (.J a)) 16 (.J b)) 3 (.J (.str s))) A):GS (lG C h jc P es aT c n E A ce bJ) fL a9:=.join _ D (by rintro fe bE ⟨rfl,a,b,c,rfl⟩;exact F a b c)
section
variable{C:Nat->cE}{ext:Nat->Option eS}{Q:e9}(aa:Env C ext Q)
include aa
theorem aoJ(x : cZ)(M : x.ok)(aI : ∀ f ∈ x.funcs, zm f)(cw : ∀ f ∈ x.funcs, wA f < 100000000000000000)(aB : (m1 x).length < 100000000000000000) : dz C 32 [.J (.agg x.cells)] λv => v = .str (m1 x) := by
  refine aa.z 32 (ja [(1,[4,20],[1]),(3,[5,6,24,25,26,27,28],[1]),(5,[6,28],[1]),(7,[7,8,32,33,34,35,36,37],[1]),(9,[8,36,37],[1]),(11,[9,10,41,42,43,44,45,46],[1]),(13,[10,45,46],[1]),(15,[11,12,50,51,52,53,54],[1]),(17,[12,54],[1]),(19,[13,58],[1])]) rfl rfl ?_
  obtain⟨ar, nv, l5, g3, e5, cH, cT, cq, cN, c9, el, eg, e0, fJ, gB⟩ := id M
  have tm : (x.fA.map hM.row).length = x.fA.length := List.length_map ..
  have er : (x.dJ.map dX.row).length = x.dJ.length := List.length_map ..
  have f8 : (x.d9.map dV.row).length = x.d9.length := List.length_map ..
  have jy : (x.e2.map eG.row).length = x.e2.length := List.length_map ..
  have lj : (x.dn.map em.row).length = x.dn.length := List.length_map ..
  have ny : (x.funcs.map cu.row).length = x.funcs.length := List.length_map ..
  have x3 := N5 aa x.rel (by omega)
  have bx := LU (n := x.rel) (by omega)
  have asw : (oH x).length < 2000 := by
    unfold oH
    split <;> (try split) <;> simp only [List.length_append, List.length_cons, List.length_nil] <;> omega
  unfold m1 at aB ⊢
  simp only [List.length_append]at aB
  (conv => whnf)
  refine afy (oH x) ?_ λa b c => ?_
  · refine N ?_
    refine ch (λh => ?_) (λh => ?_)
    · refine bw ?_
      refine dW x3 ?_
      exact ⟨rfl, _, _, _, by unfold oH; rw [if_pos h]; rfl⟩
    refine N ?_
    refine ch (λD => ?_) (λD => ?_)
    · refine bw ?_
      exact ⟨rfl, _, _, _, by unfold oH; rw [if_neg h, if_pos D]; rfl⟩
    · refine bw ?_
      refine dW x3 ?_
      exact ⟨rfl, _, _, _, by unfold oH; rw [if_neg h, if_neg D]; rfl⟩
  generalize oH x = lm at *
  refine N ?_
  refine fu hM.row x.fA 19 (λd => [(3, .J (.str (lm ++ de n6 d)))]) (λ_ => True) ⟨trivial, by rw [xp]; rfl, rfl⟩ (λd y r ba aw be ag a7 bt => ?_) (λba a7 => ?_)
  · have aE := e5 y (by simp[aw])
    unfold hM.ok at aE
    have Y := wP n6 aw
    have aP : (n6 y).length = (n6 y).length := rfl
    conv at aP => rhs; rw [n6]
    simp only [List.length_append, List.length_cons, List.length_nil]at aP
    have att := LU (n := y.rel) (by omega)
    unfold hM.row at ag
    clear e5 cT cN el e0 gB M aI cw
    refine dk ?_
    refine bw ?_
    refine dW (N5 aa y.rel (by omega)) ?_
    exact bt _ _ trivial (by rw [ue, n6]; rfl) rfl
  have eZ := yw lm (de n6 x.fA)
  generalize lm ++ de n6 x.fA = se at *
  refine dd ?_
  refine fu dX.row x.dJ 23 (λd => [(3, .J (.str (se ++ de jL d)))]) (λ_ => True) ⟨trivial, by rw [xp]; rfl, rfl⟩ (λd y r ba aw be ag a7 bt => ?_) (λba a7 => ?_)
  · obtain⟨gx, s2, oV, qy, wU, Co⟩ := cT y (by simp[aw])
    have Y := wP jL aw
    have aP : (jL y).length = (qc y).length + (de n7 y.fields).length + 2 := by unfold jL; simp only [List.length_append, List.length_cons, List.length_nil]
    have a3 : (qc y).length = (qc y).length := rfl
    conv at a3 => rhs; rw [qc]
    simp only [List.length_append, List.length_cons, List.length_nil]at a3
    have QF : (y.fields.map eT.row).length = y.fields.length := List.length_map ..
    have ap : jL y = qc y ++ de n7 y.fields ++ [125, 10] := rfl
    clear e5 cT cN el e0 gB M aI cw x3
    unfold dX.row at ag
    refine dk ?_
    refine bw ?_
    refine dW (Gt aa y.since y.dr y.e6 [102, 114, 111, 122, 101, 110] gx (by decide)) ?_
    refine dW (Q7 aa y.aj y.params (by omega) (by omega)) ?_
    have mB : (se ++ de jL d ++ qc y).length = se.length + (de jL d).length + (qc y).length := by simp only [List.length_append]
    refine fu eT.row y.fields 27 (λd2 => [(3, .J (.str (se ++ de jL d ++ qc y ++ de n7 d2)))]) (λ_ => True) ⟨trivial, by rw [xp]; rfl, rfl⟩ (λd2 z b3 gl fb ft ct dq fj => ?_) (λgl dq => ?_)
    · have jw := wP n7 fb
      generalize se ++ de jL d ++ qc y = a9 at *
      obtain⟨gV, gA⟩ := Co z (by simp[fb])
      have cW : (n7 z).length = (n7 z).length := rfl
      conv at cW => rhs; rw [n7]
      simp only [List.length_append, List.length_cons, List.length_nil]at cW
      unfold eT.row at ct
      have be := ft
      have ag := ct
      refine dk ?_
      refine bw ?_
      refine dW (Gt aa 0 z.dr false [] (by decide) (by decide)) ?_
      refine dW (wV aa z.bL gA (by omega)) ?_
      exact fj _ _ trivial (by rw [ue, n7]; rfl) rfl
    · have kV := yw (se ++ de jL d ++ qc y) (de n7 y.fields)
      refine dd ?_
      refine bw ?_
      exact bt _ _ trivial (by rw [ue, ap]; simp only [List.append_assoc]; rfl) rfl
  have eZ := yw (se) (de jL x.dJ)
  generalize se ++ de jL x.dJ = Ag at *
  refine dd ?_
  refine fu dV.row x.d9 31 (λd => [(3, .J (.str (Ag ++ de kl d)))]) (λ_ => True) ⟨trivial, by rw [xp]; rfl, rfl⟩ (λd y r ba aw be ag a7 bt => ?_) (λba a7 => ?_)
  · obtain⟨gx, s2, oV, qy, wU, Co⟩ := cN y (by simp[aw])
    have Y := wP kl aw
    have aP : (kl y).length = (qn y).length + (de mH y.cases).length + 2 := by unfold kl; simp only [List.length_append, List.length_cons, List.length_nil]
    have a3 : (qn y).length = (qn y).length := rfl
    conv at a3 => rhs; rw [qn]
    simp only [List.length_append, List.length_cons, List.length_nil]at a3
    have QF : (y.cases.map fl.row).length = y.cases.length := List.length_map ..
    have ap : kl y = qn y ++ de mH y.cases ++ [125, 10] := rfl
    clear e5 cT cN el e0 gB M aI cw x3
    unfold dV.row at ag
    refine dk ?_
    refine bw ?_
    refine dW (Gt aa y.since y.dr y.e6 [102, 114, 111, 122, 101, 110] gx (by decide)) ?_
    refine dW (Q7 aa y.aj y.params (by omega) (by omega)) ?_
    have mB : (Ag ++ de kl d ++ qn y).length = Ag.length + (de kl d).length + (qn y).length := by simp only [List.length_append]
    refine fu fl.row y.cases 35 (λd2 => [(3, .J (.str (Ag ++ de kl d ++ qn y ++ de mH d2)))]) (λ_ => True) ⟨trivial, by rw [xp]; rfl, rfl⟩ (λd2 z b3 gl fb ft ct dq fj => ?_) (λgl dq => ?_)
    · have jw := wP mH fb
      generalize Ag ++ de kl d ++ qn y = a9 at *
      have be := ft
      have ag := ct
      obtain⟨gV, gA, yj⟩ := Co z (by simp[fb])
      have amg : (z.gL.map al.row).length = z.gL.length := List.length_map ..
      have aad := Gt aa 0 false z.ind [105, 110, 100, 105, 114, 101, 99, 116] (by decide) (by decide)
      have asx := BS 0 false z.ind [105, 110, 100, 105, 114, 101, 99, 116] (by decide)
      have wx := RK aa z.g z.gL (by omega)
      unfold fl.row at ag
      rcases Nat.eq_zero_or_pos z.gL.length with bq | bq
      · have vN : mH z = [32, 32] ++ nc 0 false z.ind [105, 110, 100, 105, 114, 101, 99, 116] ++ z.ay ++ [59, 10] := by unfold mH; rw [if_neg (by omega), List.append_nil]
        have cW := congrArg List.length vN
        simp only [List.length_append, List.length_cons, List.length_nil]at cW
        refine dk ?_
        refine bw ?_
        refine dW aad ?_
        refine eh (λh => absurd h (by omega)) (λ_ => ?_)
        refine bw ?_
        exact fj _ _ trivial (by rw [ue, vN]; simp only [List.append_assoc]; rfl) rfl
      · have vN : mH z = [32, 32] ++ nc 0 false z.ind [105, 110, 100, 105, 114, 101, 99, 116] ++ z.ay ++ ([40] ++ cU [44, 32] (z.gL.map al.bc) ++ [41]) ++ [59, 10] := by unfold mH; rw [if_pos bq]
        have cW := congrArg List.length vN
        simp only [List.length_append, List.length_cons, List.length_nil]at cW
        have wx := wx (λt au => wV aa t (yj t au) (by have := Ka (gS := [44, 32]) (List.mem_map_of_mem (f := al.bc) au); omega)) (by omega)
        refine dk ?_
        refine bw ?_
        refine dW aad ?_
        refine eh (λ_ => ?_) (λh => absurd h (by omega))
        refine bw ?_
        refine dW wx ?_
        exact fj _ _ trivial (by rw [ue, vN]; simp only [List.append_assoc]; rfl) rfl
    · have kV := yw (Ag ++ de kl d ++ qn y) (de mH y.cases)
      refine dd ?_
      refine bw ?_
      exact bt _ _ trivial (by rw [ue, ap]; simp only [List.append_assoc]; rfl) rfl
  have eZ := yw Ag (de kl x.d9)
  generalize Ag ++ de kl x.d9 = z5 at *
  refine dd ?_
  refine fu eG.row x.e2 40 (λd => [(3, .J (.str (z5 ++ de kw d)))]) (λ_ => True) ⟨trivial, by rw [xp]; rfl, rfl⟩ (λd y r ba aw be ag a7 bt => ?_) (λba a7 => ?_)
  · obtain⟨gx, s2, wU, Co⟩ := el y (by simp[aw])
    have Y := wP kw aw
    have aP : (kw y).length = (pn y).length + (de lU y.eu).length + 2 := by unfold kw; simp only [List.length_append, List.length_cons, List.length_nil]
    have a3 : (pn y).length = (pn y).length := rfl
    conv at a3 => rhs; rw [pn]
    simp only [List.length_append, List.length_cons, List.length_nil]at a3
    have QF : (y.eu.map fS.row).length = y.eu.length := List.length_map ..
    have ap : kw y = pn y ++ de lU y.eu ++ [125, 10] := rfl
    clear e5 cT cN el e0 gB M aI cw x3
    unfold eG.row at ag
    refine dk ?_
    refine bw ?_
    refine dW (Gt aa y.since y.dr y.pV [115, 101, 97, 108, 101, 100] gx (by decide)) ?_
    have mB : (z5 ++ de kw d ++ pn y).length = z5.length + (de kw d).length + (pn y).length := by simp only [List.length_append]
    refine fu fS.row y.eu 44 (λd2 => [(3, .J (.str (z5 ++ de kw d ++ pn y ++ de lU d2)))]) (λ_ => True) ⟨trivial, by rw [xp]; rfl, rfl⟩ (λd2 z b3 gl fb ft ct dq fj => ?_) (λgl dq => ?_)
    · have jw := wP lU fb
      generalize z5 ++ de kw d ++ pn y = a9 at *
      have be := ft
      have ag := ct
      obtain⟨gV, gA, yj, Rf, alN⟩ := Co z (by simp[fb])
      have amg : (z.args.map al.row).length = z.args.length := List.length_map ..
      have wx := RK aa z.g z.args (by omega)
      unfold fS.row at ag
      by_cases bq : z.gk = []
      · have vN : lU z = [32, 32, 102, 117, 110, 99, 32] ++ z.ay ++ [40] ++ cU [44, 32] (z.args.map al.bc) ++ [41, 58, 32] ++ z.eW.bc ++ [59, 10] := by unfold lU; rw [if_pos bq, List.append_nil]
        have cW := congrArg List.length vN
        simp only [List.length_append, List.length_cons, List.length_nil]at cW
        have wx := wx (λt au => wV aa t (yj t au) (by have := Ka (gS := [44, 32]) (List.mem_map_of_mem (f := al.bc) au); omega)) (by omega)
        refine dk ?_
        refine bw ?_
        refine dW wx ?_
        refine dW (wV aa z.eW Rf (by omega)) ?_
        refine eQ ?_
        refine cQ (λ_ => ?_) (λh => absurd bq h)
        refine bw ?_
        exact fj _ _ trivial (by rw [ue, vN]; simp only [List.append_assoc]; rfl) rfl
      · have vN : lU z = [32, 32, 102, 117, 110, 99, 32] ++ z.ay ++ [40] ++ cU [44, 32] (z.args.map al.bc) ++ [41, 58, 32] ++ z.eW.bc ++ ([32, 100, 101, 102, 97, 117, 108, 116, 32] ++ z.gk) ++ [59, 10] := by unfold lU; rw [if_neg bq]
        have cW := congrArg List.length vN
        simp only [List.length_append, List.length_cons, List.length_nil]at cW
        have wx := wx (λt au => wV aa t (yj t au) (by have := Ka (gS := [44, 32]) (List.mem_map_of_mem (f := al.bc) au); omega)) (by omega)
        refine dk ?_
        refine bw ?_
        refine dW wx ?_
        refine dW (wV aa z.eW Rf (by omega)) ?_
        refine eQ ?_
        refine cQ (λh => absurd h bq) (λ_ => ?_)
        refine bw ?_
        exact fj _ _ trivial (by rw [ue, vN]; simp only [List.append_assoc]; rfl) rfl
    · have kV := yw (z5 ++ de kw d ++ pn y) (de lU y.eu)
      refine dd ?_
      refine bw ?_
      exact bt _ _ trivial (by rw [ue, ap]; simp only [List.append_assoc]; rfl) rfl
  have eZ := yw z5 (de kw x.e2)
  generalize z5 ++ de kw x.e2 = AO at *
  refine dd ?_
  refine fu em.row x.dn 49 (λd => [(3, .J (.str (AO ++ de kc d)))]) (λ_ => True) ⟨trivial, by rw [xp]; rfl, rfl⟩ (λd y r ba aw be ag a7 bt => ?_) (λba a7 => ?_)
  · obtain⟨gx, s2, oV, qy, wU, Co⟩ := e0 y (by simp[aw])
    have Y := wP kc aw
    have aP : (kc y).length = (re y).length + (de pt y.binds).length + 2 := by unfold kc; simp only [List.length_append, List.length_cons, List.length_nil]
    have a3 : (re y).length = (re y).length := rfl
    conv at a3 => rhs; rw [re]
    simp only [List.length_append, List.length_cons, List.length_nil]at a3
    have QF : (y.binds.map ko.row).length = y.binds.length := List.length_map ..
    have ap : kc y = re y ++ de pt y.binds ++ [125, 10] := rfl
    clear e5 cT cN el e0 gB M aI cw x3
    unfold em.row at ag
    refine dk ?_
    have Fm := Cs (y.dB.map iz)
    rw [List.length_map]at Fm
    have Qg := ad4 aa y.aj y.dB s2 oV (by omega) (λx M => by have D := Ka (gS := [44, 32]) (List.mem_map_of_mem (f := iz) M); have F := alP M; omega)
    refine bw ?_
    refine dW Qg ?_
    refine dW (wV aa y.bL qy (by omega)) ?_
    have mB : (AO ++ de kc d ++ re y).length = AO.length + (de kc d).length + (re y).length := by simp only [List.length_append]
    refine fu ko.row y.binds 53 (λd2 => [(3, .J (.str (AO ++ de kc d ++ re y ++ de pt d2)))]) (λ_ => True) ⟨trivial, by rw [xp]; rfl, rfl⟩ (λd2 z b3 gl fb ft ct dq fj => ?_) (λgl dq => ?_)
    · have jw := wP pt fb
      generalize AO ++ de kc d ++ re y = a9 at *
      have be := ft
      have ag := ct
      obtain⟨gV, gA⟩ := Co z (by simp[fb])
      have cW : (pt z).length = (pt z).length := rfl
      conv at cW => rhs; rw [pt]
      simp only [List.length_append, List.length_cons, List.length_nil]at cW
      unfold ko.row at ag
      refine dk ?_
      refine bw ?_
      exact fj _ _ trivial (by rw [ue, pt]; rfl) rfl
    · have kV := yw (AO ++ de kc d ++ re y) (de pt y.binds)
      refine dd ?_
      refine bw ?_
      exact bt _ _ trivial (by rw [ue, ap]; simp only [List.append_assoc]; rfl) rfl
  have eZ := yw AO (de kc x.dn)
  generalize AO ++ de kc x.dn = aga at *
  refine dd ?_
  refine fu cu.row x.funcs 57 (λd => [(3, .J (.str (aga ++ de ke d)))]) (λ_ => True) ⟨trivial, by rw [xp]; rfl, rfl⟩ (λd y r ba aw be ag a7 bt => ?_) (λba a7 => ?_)
  · have hm : y ∈ x.funcs := by simp[aw]
    have dv := alK aa y (gB y hm) (aI y hm) (cw y hm)
    have Y := wP ke aw
    clear e5 cT cN el e0 gB M aI cw x3
    unfold cu.row at ag dv
    simp only [List.cons_append, List.nil_append]at ag dv
    refine dk ?_
    refine dW dv ?_
    exact bt _ _ trivial (by rw [ue]; rfl) rfl
  refine dd ?_
  exact ⟨rfl, rfl⟩
end
def akd:sr Go.Proofs.Tryz.prog 67=some false:=by kernel_rfl
def aiz:sr Go.Proofs.Tryz.prog 147=some true:=by kernel_rfl
attribute [local irreducible] sr
def aa6{A x y}{a bz:bj}{b ep:Nat}:rp wC A .neq 67 x y (.J (.agg [.str a,.int 3 b])) (.J (.agg [.str bz,.int 3 ep]))=some (.J (.bool (!(iA a bz&&Nat.beq b ep)))):=by have e:∀u v,rp wC A .neq 67 x y u v=Lr (sr Go.Proofs.Tryz.prog 67) .neq u v:=λ_ _=>rfl;rw[e,akd];rfl
def aeG{A x y}{a bz b ep:bj}:rp wC A .neq 147 x y (.J (.agg [.str a,.str b])) (.J (.agg [.str bz,.str ep]))=some (.J (.bool (!(iA a bz&&iA b ep)))):=by have e:∀u v,rp wC A .neq 147 x y u v=Lr (sr Go.Proofs.Tryz.prog 147) .neq u v:=λ_ _=>rfl;rw[e,aiz];rfl
section
variable{C:Nat->cE}{ext:Nat->Option eS}{Q:e9}(aa:Env C ext Q)
include aa
open Classical in
def aou(aj an:Nat)(a b:List hM)(aC:a.length<1000000)(aB:b.length<1000000):dz C 34 [.J (.aH aj (a.map hM.row)),.J (.aH an (b.map hM.row))] λv=>v=.bool (decide (a=b)):=by
 refine aa.z 34 (gK [(0,[3,7,8],[],[])]) rfl rfl ?_;have hm:(a.map hM.row).length=a.length:=bW;have aD:(b.map hM.row).length=b.length:=bW;refine N ?_;refine eQ ?_;refine ch (λh=>?_) (λh=>?_);rotate_left
 .refine N ?_;exact⟨rfl,by rw[pU];intro e;subst e;exact h rfl⟩
 .refine N ?_;refine kA hM.row a 6 (λd (_:Unit)=>[]) (λd _=>[]) (λd _=>d<+:b) ⟨(),List.nil_prefix,rfl⟩ (λd _ x r ba aw be ag a7 bt=>?_) (λ_ ba a7=>?_)
  .have⟨t,au⟩:=a7;have Y:a.length=b.length:=I;rcases t with _|⟨y,b3⟩
   .rw[kE]at au;subst au;rw[aw]at Y;simp at Y
   .have ct:fT (b.map hM.row) d.length=hM.row y:=by rw[<-au];exact fu.k6 hM.row d y b3
    unfold hM.row at ag ct;refine dk ?_;refine bV.mk I (dU.mk _ ct ?_);refine N ?_;rw[aa6];refine N ?_;refine eQ ?_;refine eO (λh=>?_) (λh=>?_);rotate_left
    .refine N ?_;exact⟨rfl,by rw[pU];intro e;rw[aw,<-au]at e;simp at e;rw[e.1]at h;simp[iA]at h⟩
    .refine N ?_;have gG:x=y:=by cases x;cases y;simp[iA]at h;simp[h]
     subst gG;exact bt () _ _ ⟨b3,by rw[<-au];simp⟩ rfl
  .refine dd ?_;exact⟨rfl,by rw[r7];exact a7.eq_of_length I⟩
open Classical in
def ao6(aj an:Nat)(a b:List ko)(aC:a.length<1000000)(aB:b.length<1000000):dz C 96 [.J (.aH aj (a.map ko.row)),.J (.aH an (b.map ko.row))] λv=>v=.bool (decide (a=b)):=by
 refine aa.z 96 (gK [(0,[3,7,8],[],[])]) rfl rfl ?_;have hm:(a.map ko.row).length=a.length:=bW;have aD:(b.map ko.row).length=b.length:=bW;refine N ?_;refine eQ ?_;refine ch (λh=>?_) (λh=>?_);rotate_left
 .refine N ?_;exact⟨rfl,by rw[pU];intro e;subst e;exact h rfl⟩
 .refine N ?_;refine kA ko.row a 6 (λd (_:Unit)=>[]) (λd _=>[]) (λd _=>d<+:b) ⟨(),List.nil_prefix,rfl⟩ (λd _ x r ba aw be ag a7 bt=>?_) (λ_ ba a7=>?_)
  .have⟨t,au⟩:=a7;have Y:a.length=b.length:=I;rcases t with _|⟨y,b3⟩
   .rw[kE]at au;subst au;rw[aw]at Y;simp at Y
   .have ct:fT (b.map ko.row) d.length=ko.row y:=by rw[<-au];exact fu.k6 ko.row d y b3
    unfold ko.row at ag ct;refine dk ?_;refine bV.mk I (dU.mk _ ct ?_);refine N ?_;rw[aeG];refine N ?_;refine eQ ?_;refine eO (λh=>?_) (λh=>?_);rotate_left
    .refine N ?_;exact⟨rfl,by rw[pU];intro e;rw[aw,<-au]at e;simp at e;rw[e.1]at h;simp[iA]at h⟩
    .refine N ?_;have gG:x=y:=by cases x;cases y;simp[iA]at h;simp[h]
     subst gG;exact bt () _ _ ⟨b3,by rw[<-au];simp⟩ rfl
  .refine dd ?_;exact⟨rfl,by rw[r7];exact a7.eq_of_length I⟩
end
def em.aA(c:em):em:=⟨c.rx,0,c.dB.map c3.aA,c.bL.aA,0,c.binds⟩
def cZ.aA(m:cZ):cZ:=⟨m.kind,m.ay,m.rel,0,m.fA,0,m.dJ.map dX.aA,0,m.d9.map dV.aA,0,m.e2.map eG.aA,0,m.dn.map em.aA,0,m.funcs.map cu.aA⟩
section
variable{C:Nat->cE}{ext:Nat->Option eS}{Q:e9}(aa:Env C ext Q)
include aa
open Classical in
def agv(a b:em)(aC:a.ok)(aB:b.ok):dz C 42 [.J (.agg a.row),.J (.agg b.row)] λv=>v=.bool (decide (a.aA=b.aA)):=by
 unfold em.ok at aC aB;have cT:=th aa 94 95 c3.row c3.aA ((qk aa).2.2.2.2.2.2.2.2.2.2.2.1) a.aj b.aj a.dB b.dB I I (λx M y aE=>Yk aa x y (aC.2.2.1 x M) (aB.2.2.1 y aE));have cN:=z2 aa a.bL aC.2.2.2.1 b.bL aB.2.2.2.1;have el:=ao6 aa a.an b.an a.binds b.binds I I;have e:a.aA=b.aA↔a.rx=b.rx/\a.dB.map c3.aA=b.dB.map c3.aA/\a.bL.aA=b.bL.aA/\a.binds=b.binds:=by cases a;cases b;simp[em.aA]
 clear aC aB;unfold em.row;refine aa.z 42 ff rfl rfl ?_;refine dY λbr=>?_;refine N ?_;refine bn cT ?_;refine dY λD=>?_;refine N ?_;refine bn cN ?_;refine dY λF=>?_;refine N ?_;refine bn el ?_;refine⟨rfl,sf ?_⟩;rw[e];simp only[mz]at D F;simp[br,D,F]
open Classical in
def Hj(a b:cZ)(aC:a.ok)(aB:b.ok):dz C 11 [.J (.agg a.cells),.J (.agg b.cells)] λv=>v=.bool (decide (a.aA=b.aA)):=by
 have⟨_,_,_,g3,e5,cH,cT,cq,cN,c9,el,eg,e0,fJ,gB⟩:=id aC;have⟨_,_,_,tm,oq,er,dR,f8,du,jy,gq,lj,fN,ny,kF⟩:=id aB;have DX:=aou aa a.aj b.aj a.fA b.fA I I;have en:=th aa 35 36 dX.row dX.aA ((qk aa).2.2.1) a.an b.an a.dJ b.dJ I I (λx M y aE=>arH aa x y (cT x M) (dR y aE));have gI:=th aa 37 38 dV.row dV.aA ((qk aa).2.2.2.1) a.aM b.aM a.d9 b.d9 I I (λx M y aE=>afN aa x y (cN x M) (du y aE));have l3:=th aa 39 40 eG.row eG.aA ((qk aa).2.2.2.2.1) a.bs b.bs a.e2 b.e2 I I (λx M y aE=>afq aa x y (el x M) (gq y aE));have tz:=th aa 41 42 em.row em.aA ((qk aa).2.2.2.2.2.1) a.cp b.cp a.dn b.dn I I (λx M y aE=>agv aa x y (e0 x M) (fN y aE));have KN:=th aa 43 44 cu.row cu.aA ((qk aa).2.2.2.2.2.2.1) a.dj b.dj a.funcs b.funcs I I (λx M y aE=>aig aa x y (gB x M) (kF y aE));have e:a.aA=b.aA↔a.kind=b.kind/\a.ay=b.ay/\a.rel=b.rel/\a.fA=b.fA/\a.dJ.map dX.aA=b.dJ.map dX.aA/\a.d9.map dV.aA=b.d9.map dV.aA/\a.e2.map eG.aA=b.e2.map eG.aA/\a.dn.map em.aA=b.dn.map em.aA/\a.funcs.map cu.aA=b.funcs.map cu.aA:=by cases a;cases b;simp[cZ.aA]
 clear aC aB e5 cT cN el e0 gB oq dR du gq fN kF;refine aa.z 11 ff rfl rfl ?_;refine dY λbr=>?_;refine dY λD=>?_;refine dY λF=>?_;refine N ?_;refine bn DX ?_;refine dY λaq=>?_;refine N ?_;refine bn en ?_;refine dY λaL=>?_;refine N ?_;refine bn gI ?_;refine dY λbO=>?_;refine N ?_;refine bn l3 ?_;refine dY λcr=>?_;refine N ?_;refine bn tz ?_;refine dY λfK=>?_;refine N ?_;refine bn KN ?_;refine⟨rfl,sf ?_⟩;rw[e];simp only[mz]at aq aL bO cr fK;simp[br,D,F,aq,aL,bO,cr,fK]
open Classical in
def aiL(a b:em)(aC:a.ok)(aB:b.ok):dz C 102 [.J (.agg a.row),.J (.agg b.row)] λv=>v=.bool (decide (a.aA=b.aA)):=by
 unfold em.ok at aC aB;have cT:=Xd aa a.aj b.aj a.dB b.dB I I aC.2.2.1 aB.2.2.1;have cN:=z6 aa a.bL aC.2.2.2.1 b.bL aB.2.2.2.1;have c4:(a.binds.map ko.row).length=a.binds.length:=bW;have cl:(b.binds.map ko.row).length=b.binds.length:=bW;have cH:a.binds.length<100:=aC.2.2.2.2.1;have cq:b.binds.length<100:=aB.2.2.2.2.1;have e:a.aA=b.aA↔a.rx=b.rx/\a.dB.map c3.aA=b.dB.map c3.aA/\a.bL.aA=b.bL.aA/\a.binds=b.binds:=by cases a;cases b;simp[em.aA]
 clear aC aB;refine aa.z 102 (gK [(0,[7,8],[],[2,3])]) rfl rfl ?_;unfold em.row;refine dY λbr=>?_;refine N ?_;refine bn cT ?_;refine dY λD=>?_;refine N ?_;refine bn cN ?_;refine dY λF=>?_;refine dY λaq=>?_;refine N ?_;refine kA ko.row a.binds 5 (λd (_:Unit)=>[]) (λd _=>[(2,.box 86 5 (.cb a.row)),(3,.box 86 5 (.cb b.row))]) (λd _=>d<+:b.binds) ⟨(),List.nil_prefix,rfl⟩ (λd _ x r ba aw be ag a7 bt=>?_) (λ_ ba a7=>?_)
 .have⟨t,au⟩:=a7;have Y:a.binds.length=b.binds.length:=I;rcases t with _|⟨y,b3⟩
  .rw[kE]at au;rw[<-au,aw]at Y;simp at Y
  .have ct:fT (b.binds.map ko.row) d.length=ko.row y:=by rw[<-au];exact fu.k6 ko.row d y b3
   unfold ko.row at ag ct;refine dk ?_;refine bV.mk I (dU.mk _ ct ?_);refine N ?_;rw[aeG];refine N ?_;refine eQ ?_;refine eO (λh=>?_) (λh=>?_);rotate_left
   .refine N ?_;exact⟨rfl,lN λz=>by rw[e]at z;have z:=z.2.2.2;rw[aw,<-au]at z;simp at z;rw[z.1]at h;simp[iA]at h⟩
   .refine N ?_;have gG:x=y:=by cases x;cases y;simp[iA]at h;simp[h]
    subst gG;exact bt () _ _ ⟨b3,by rw[<-au];simp⟩ rfl
 .refine dd ?_;have z:a.aA=b.aA:=by rw[e];simp only[mz]at D F;exact⟨br,D,F,a7.eq_of_length I⟩
  exact⟨rfl,by simp[z]⟩
open Classical in
def ajE(a b:cZ)(aC:a.ok)(aB:b.ok):dz C 51 [.J (.agg a.cells),.J (.agg b.cells),.J (.bool false)] λv=>v=.bool (decide (a.aA=b.aA)):=by
 have⟨_,_,_,g3,e5,cH,cT,cq,cN,c9,el,eg,e0,fJ,gB⟩:=id aC;have⟨_,_,_,tm,oq,er,dR,f8,du,jy,gq,lj,fN,ny,kF⟩:=id aB;have e:a.aA=b.aA↔a.kind=b.kind/\a.ay=b.ay/\a.rel=b.rel/\a.fA=b.fA/\a.dJ.map dX.aA=b.dJ.map dX.aA/\a.d9.map dV.aA=b.d9.map dV.aA/\a.e2.map eG.aA=b.e2.map eG.aA/\a.dn.map em.aA=b.dn.map em.aA/\a.funcs.map cu.aA=b.funcs.map cu.aA:=by cases a;cases b;simp[cZ.aA]
 refine aa.z 51 (gK [(0,[13,14],[],[3,4]),(2,[15,16],[],[3,4]),(4,[17,18],[],[3,4]),(6,[19,20],[],[3,4]),(8,[21,22],[],[3,4]),(10,[23,24],[],[3,4])]) rfl rfl ?_;have nQ:(a.fA.map hM.row).length=a.fA.length:=bW;have n0:(b.fA.map hM.row).length=b.fA.length:=bW;have c4:(a.dJ.map dX.row).length=a.dJ.length:=bW;have ic:(b.dJ.map dX.row).length=b.dJ.length:=bW;have cl:(a.d9.map dV.row).length=a.d9.length:=bW;have hF:(b.d9.map dV.row).length=b.d9.length:=bW;have dm:(a.e2.map eG.row).length=a.e2.length:=bW;have oa:(b.e2.map eG.row).length=b.e2.length:=bW;have fp:(a.dn.map em.row).length=a.dn.length:=bW;have uR:(b.dn.map em.row).length=b.dn.length:=bW;have h5:(a.funcs.map cu.row).length=a.funcs.length:=bW;have H0:(b.funcs.map cu.row).length=b.funcs.length:=bW;refine dY λbr=>?_;refine dY λD=>?_;refine dY λF=>?_;refine dY λAI=>?_;refine N ?_;refine eQ ?_;refine ch (λaj=>?_) (λaj=>?_);rotate_left
 .refine N ?_;exact⟨rfl,lN λx=>by rw[e]at x;have:=fr List.length x.2.2.2.2.1;simp at this;omega⟩
 refine N ?_;refine eQ ?_;refine ch (λan=>?_) (λan=>?_);rotate_left
 .refine N ?_;exact⟨rfl,lN λx=>by rw[e]at x;have:=fr List.length x.2.2.2.2.2.1;simp at this;omega⟩
 refine N ?_;refine eQ ?_;refine ch (λaM=>?_) (λaM=>?_);rotate_left
 .refine N ?_;exact⟨rfl,lN λx=>by rw[e]at x;have:=fr List.length x.2.2.2.2.2.2.1;simp at this;omega⟩
 refine N ?_;refine eQ ?_;refine ch (λbs=>?_) (λbs=>?_);rotate_left
 .refine N ?_;exact⟨rfl,lN λx=>by rw[e]at x;have:=fr List.length x.2.2.2.2.2.2.2.1;simp at this;omega⟩
 refine N ?_;refine eQ ?_;refine ch (λcp=>?_) (λcp=>?_);rotate_left
 .refine N ?_;exact⟨rfl,lN λx=>by rw[e]at x;have:=fr List.length x.2.2.2.2.2.2.2.2;simp at this;omega⟩
 refine N ?_;refine kA hM.row a.fA 6 (λd (_:Unit)=>[]) (λd _=>[(3,.box 34 9 (.cb a.cells)),(4,.box 34 9 (.cb b.cells))]) (λd _=>d<+:b.fA) ⟨(),List.nil_prefix,rfl⟩ (λd _ x r ba aw be ag a7 bt=>?_) (λ_ ba a7=>?_)
 .have⟨t,au⟩:=a7;have Y:a.fA.length=b.fA.length:=I;rcases t with _|⟨y,b3⟩
  .rw[kE]at au;rw[<-au,aw]at Y;simp at Y
  .have ct:fT (b.fA.map hM.row) d.length=hM.row y:=by rw[<-au];exact fu.k6 hM.row d y b3
   unfold hM.row at ag ct;clear e5 cT cN el e0 gB oq dR du gq fN kF aC aB;refine dk ?_;refine bV.mk I (dU.mk _ ct ?_);refine N ?_;rw[aa6];refine N ?_;refine eQ ?_;refine eO (λh=>?_) (λh=>?_);rotate_left
   .refine N ?_;exact⟨rfl,lN λz=>by rw[e]at z;have z:=z.2.2.2.1;rw[aw,<-au]at z;simp at z;rw[z.1]at h;simp[iA]at h⟩
   .refine N ?_;have gG:x=y:=by cases x;cases y;simp[iA]at h;simp[h]
    subst gG;exact bt () _ _ ⟨b3,by rw[<-au];simp⟩ rfl
 have fg:a.fA=b.fA:=a7.eq_of_length I;refine dd ?_;refine kA dX.row a.dJ 7 (λd (_:Unit)=>[]) (λd _=>[(3,.box 34 9 (.cb a.cells)),(4,.box 34 9 (.cb b.cells))]) (λd _=>∃cC r,b.dJ=cC++r/\cC.length=d.length/\d.map dX.aA=cC.map dX.aA) ⟨(),⟨[],b.dJ,rfl,rfl,rfl⟩,rfl⟩ (λd _ x r ba aw be ag a7 bt=>?_) (λ_ ba a7=>?_)
 .have⟨cC,s,ap,Y,bl⟩:=a7;rcases s with _|⟨y,b3⟩
  .have gV:=fr List.length aw;have gA:=fr List.length ap;simp at gV gA;omega
  .have ct:fT (b.dJ.map dX.row) d.length=dX.row y:=by rw[ap,<-Y];exact fu.k6 dX.row cC y b3
   have gG:=apm aa x y (cT x (by simp[aw])) (dR y (by simp[ap]));have dv:a.aA=b.aA->x.aA=y.aA:=λz=>by rw[e]at z;have z:=z.2.2.2.2.1;rw[aw,ap]at z;simp at z;have:=List.append_inj z (by simp[Y]);simp at this;exact this.2.1
   unfold dX.row at ag ct gG;clear e5 cT cN el e0 gB oq dR du gq fN kF aC aB;refine dk ?_;refine bV.mk I (dU.mk _ ct ?_);refine N ?_;refine bn gG ?_;refine dY λh=>?_
   .refine N ?_;exact bt () _ _ ⟨cC++[y],b3,by simp[ap],by simp[Y],by simp at h;simp[bl,h]⟩ rfl
 have aP:a.dJ.map dX.aA=b.dJ.map dX.aA:=by
  have⟨cC,s,ap,Y,bl⟩:=a7;have aP:s=[]:=by have gA:=fr List.length ap;simp at gA;exact List.eq_nil_of_length_eq_zero I
  rw[aP,kE]at ap;rw[ap];exact bl
 refine dd ?_;refine kA dV.row a.d9 8 (λd (_:Unit)=>[]) (λd _=>[(3,.box 34 9 (.cb a.cells)),(4,.box 34 9 (.cb b.cells))]) (λd _=>∃cC r,b.d9=cC++r/\cC.length=d.length/\d.map dV.aA=cC.map dV.aA) ⟨(),⟨[],b.d9,rfl,rfl,rfl⟩,rfl⟩ (λd _ x r ba aw be ag a7 bt=>?_) (λ_ ba a7=>?_)
 .have⟨cC,s,ap,Y,bl⟩:=a7;rcases s with _|⟨y,b3⟩
  .have gV:=fr List.length aw;have gA:=fr List.length ap;simp at gV gA;omega
  .have ct:fT (b.d9.map dV.row) d.length=dV.row y:=by rw[ap,<-Y];exact fu.k6 dV.row cC y b3
   have gG:=aq1 aa x y (cN x (by simp[aw])) (du y (by simp[ap]));have dv:a.aA=b.aA->x.aA=y.aA:=λz=>by rw[e]at z;have z:=z.2.2.2.2.2.1;rw[aw,ap]at z;simp at z;have:=List.append_inj z (by simp[Y]);simp at this;exact this.2.1
   unfold dV.row at ag ct gG;clear e5 cT cN el e0 gB oq dR du gq fN kF aC aB;refine dk ?_;refine bV.mk I (dU.mk _ ct ?_);refine N ?_;refine bn gG ?_;refine dY λh=>?_
   .refine N ?_;exact bt () _ _ ⟨cC++[y],b3,by simp[ap],by simp[Y],by simp at h;simp[bl,h]⟩ rfl
 have a3:a.d9.map dV.aA=b.d9.map dV.aA:=by
  have⟨cC,s,ap,Y,bl⟩:=a7;have aP:s=[]:=by have gA:=fr List.length ap;simp at gA;exact List.eq_nil_of_length_eq_zero I
  rw[aP,kE]at ap;rw[ap];exact bl
 refine dd ?_;refine kA eG.row a.e2 9 (λd (_:Unit)=>[]) (λd _=>[(3,.box 34 9 (.cb a.cells)),(4,.box 34 9 (.cb b.cells))]) (λd _=>∃cC r,b.e2=cC++r/\cC.length=d.length/\d.map eG.aA=cC.map eG.aA) ⟨(),⟨[],b.e2,rfl,rfl,rfl⟩,rfl⟩ (λd _ x r ba aw be ag a7 bt=>?_) (λ_ ba a7=>?_)
 .have⟨cC,s,ap,Y,bl⟩:=a7;rcases s with _|⟨y,b3⟩
  .have gV:=fr List.length aw;have gA:=fr List.length ap;simp at gV gA;omega
  .have ct:fT (b.e2.map eG.row) d.length=eG.row y:=by rw[ap,<-Y];exact fu.k6 eG.row cC y b3
   have gG:=arc aa x y (el x (by simp[aw])) (gq y (by simp[ap]));have dv:a.aA=b.aA->x.aA=y.aA:=λz=>by rw[e]at z;have z:=z.2.2.2.2.2.2.1;rw[aw,ap]at z;simp at z;have:=List.append_inj z (by simp[Y]);simp at this;exact this.2.1
   unfold eG.row at ag ct gG;clear e5 cT cN el e0 gB oq dR du gq fN kF aC aB;refine dk ?_;refine bV.mk I (dU.mk _ ct ?_);refine N ?_;refine bn gG ?_;refine dY λh=>?_
   .refine N ?_;exact bt () _ _ ⟨cC++[y],b3,by simp[ap],by simp[Y],by simp at h;simp[bl,h]⟩ rfl
 have cW:a.e2.map eG.aA=b.e2.map eG.aA:=by
  have⟨cC,s,ap,Y,bl⟩:=a7;have aP:s=[]:=by have gA:=fr List.length ap;simp at gA;exact List.eq_nil_of_length_eq_zero I
  rw[aP,kE]at ap;rw[ap];exact bl
 refine dd ?_;refine kA em.row a.dn 10 (λd (_:Unit)=>[]) (λd _=>[(3,.box 34 9 (.cb a.cells)),(4,.box 34 9 (.cb b.cells))]) (λd _=>∃cC r,b.dn=cC++r/\cC.length=d.length/\d.map em.aA=cC.map em.aA) ⟨(),⟨[],b.dn,rfl,rfl,rfl⟩,rfl⟩ (λd _ x r ba aw be ag a7 bt=>?_) (λ_ ba a7=>?_)
 .have⟨cC,s,ap,Y,bl⟩:=a7;rcases s with _|⟨y,b3⟩
  .have gV:=fr List.length aw;have gA:=fr List.length ap;simp at gV gA;omega
  .have ct:fT (b.dn.map em.row) d.length=em.row y:=by rw[ap,<-Y];exact fu.k6 em.row cC y b3
   have gG:=aiL aa x y (e0 x (by simp[aw])) (fN y (by simp[ap]));have dv:a.aA=b.aA->x.aA=y.aA:=λz=>by rw[e]at z;have z:=z.2.2.2.2.2.2.2.1;rw[aw,ap]at z;simp at z;have:=List.append_inj z (by simp[Y]);simp at this;exact this.2.1
   unfold em.row at ag ct gG;clear e5 cT cN el e0 gB oq dR du gq fN kF aC aB;refine dk ?_;refine bV.mk I (dU.mk _ ct ?_);refine N ?_;refine bn gG ?_;refine dY λh=>?_
   .refine N ?_;exact bt () _ _ ⟨cC++[y],b3,by simp[ap],by simp[Y],by simp at h;simp[bl,h]⟩ rfl
 have g5:a.dn.map em.aA=b.dn.map em.aA:=by
  have⟨cC,s,ap,Y,bl⟩:=a7;have aP:s=[]:=by have gA:=fr List.length ap;simp at gA;exact List.eq_nil_of_length_eq_zero I
  rw[aP,kE]at ap;rw[ap];exact bl
 refine dd ?_;refine kA cu.row a.funcs 11 (λd (_:Unit)=>[]) (λd _=>[(3,.box 34 9 (.cb a.cells)),(4,.box 34 9 (.cb b.cells))]) (λd _=>∃cC r,b.funcs=cC++r/\cC.length=d.length/\d.map cu.aA=cC.map cu.aA) ⟨(),⟨[],b.funcs,rfl,rfl,rfl⟩,rfl⟩ (λd _ x r ba aw be ag a7 bt=>?_) (λ_ ba a7=>?_)
 .have⟨cC,s,ap,Y,bl⟩:=a7;rcases s with _|⟨y,b3⟩
  .have gV:=fr List.length aw;have gA:=fr List.length ap;simp at gV gA;omega
  .have ct:fT (b.funcs.map cu.row) d.length=cu.row y:=by rw[ap,<-Y];exact fu.k6 cu.row cC y b3
   have gG:=ajW aa x y (gB x (by simp[aw])) (kF y (by simp[ap]));have dv:a.aA=b.aA->x.aA=y.aA:=λz=>by rw[e]at z;have z:=z.2.2.2.2.2.2.2.2;rw[aw,ap]at z;simp at z;have:=List.append_inj z (by simp[Y]);simp at this;exact this.2.1
   unfold cu.row at ag ct gG;simp only[lJ,ps]at ag ct gG;clear e5 cT cN el e0 gB oq dR du gq fN kF aC aB;refine dk ?_;refine bV.mk I (dU.mk _ ct ?_);refine N ?_;refine bn gG ?_;refine dY λh=>?_
   .refine N ?_;exact bt () _ _ ⟨cC++[y],b3,by simp[ap],by simp[Y],by simp at h;simp[bl,h]⟩ rfl
 have mm:a.funcs.map cu.aA=b.funcs.map cu.aA:=by
  have⟨cC,s,ap,Y,bl⟩:=a7;have aP:s=[]:=by have gA:=fr List.length ap;simp at gA;exact List.eq_nil_of_length_eq_zero I
  rw[aP,kE]at ap;rw[ap];exact bl
 refine dd ?_;have z:a.aA=b.aA:=by rw[e];exact⟨br,D,F,fg,aP,a3,cW,g5,mm⟩
 exact⟨rfl,by simp[z]⟩
open Classical in
def aqZ(a b:cZ)(aC:a.ok)(aB:b.ok):dz C 13 [.J (.agg a.cells),.J (.agg b.cells)] λv=>v=.bool (decide (a.aA=b.aA)):=by refine aa.z 13 ff rfl rfl ?_;refine N ?_;refine bn (ajE aa a b aC aB) ?_;exact⟨rfl,rfl⟩
end
end Go.Tx
