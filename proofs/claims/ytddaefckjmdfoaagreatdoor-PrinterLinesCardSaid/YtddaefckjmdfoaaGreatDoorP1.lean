/- Part of the proof of PrinterLines. -/
import Derived.Test.YtddaefckjmdfoaaGreatDoorP0
import Derived.Test.YtddaefckjmdfoaaGreatDoorS1
set_option linter.all false
namespace Go.Tx
open Go Go.Ev
set_option maxRecDepth 100000
set_option maxHeartbeats 8000000
attribute [local irreducible] jJ mb bj lQ kS nj ie fe
section
variable{C:Nat->cG}{ext:Nat->Option e0}{ab:fD}(Q:Env C ext ab)
include Q
structure Ww(x:eg):Prop where
 aR:iH 16 x.aR
 pl:x.params.length<100
 n7:∀s∈x.params,iH 16 s
 lp:x.cases.length<100
 ub:∀f∈x.cases,iH 16 f.aR/\f.f8.length<100/\∀t∈f.f8,Dk t
abbrev eP.wt(f:eP):Nat:=120+cR ai.wt f.f8
theorem aoW(x )(h : Ww x)(bx : cR eP.wt x.cases + (200 + 20 * x.params.length) < 1000000000000) : bj C [] 62 [.J (.agg x.row)] [] (C4 (2 + x.cases.length) (cR eP.wt x.cases + (200 + 20 * x.params.length))) := by
  refine Q.z 62 (ia [(0, [4, 8], [], [])]) rfl rfl ?_
  obtain ⟨⟨dl, cB⟩, pl, n7, f6, kq⟩ := h
  have m1 : (x.cases.map eP.row).length = x.cases.length := List.length_map ..
  unfold eg.row
  refine b8 ?_
  refine aK (Fv Q _ _ _ _ (by decide) (by simp (disch := decide) only [fq, e2])) ?_
  rintro v A ⟨rfl, eK, rfl, eY, bq⟩
  simp only [List.length_cons, List.length_nil] at bq
  refine b8 ?_
  refine aK (adP Q _ x.params pl n7) ?_
  rintro v A ⟨rfl, s2, rfl, ex, aS⟩
  refine b8 ?_
  refine ko eP.row x.cases 7 (λd (s : bM) => [(3, .J (.str s))]) (λd s => []) (λd s => fe s = 1 + d.length ∧ s.length ≤ cR eP.wt d + (198 + 20 * x.params.length)) ⟨_, ⟨by simp (disch := decide) only [f1, fq, pA, e2, *]; rfl, by simp only [List.length_append, List.length_cons, List.length_nil, cR]; omega⟩, rfl⟩ (λd s y r ba ar aV ad bo bC => ?_) (λs ba bo => ?_)
  · obtain ⟨dD, dQ⟩ := bo
    obtain ⟨⟨gN, gj⟩, hU, iw⟩ := kq y (by simp [ar])
    have e : y.wt = 120 + cR ai.wt y.f8 := rfl
    have ak : cR eP.wt d + (y.wt + 2) ≤ cR eP.wt x.cases := by rw [ar, pL]; simp only [cR]; omega
    have AN : (y.f8.map ai.row).length = y.f8.length := List.length_map ..
    unfold eP.row at ad
    refine tl ?_
    refine aK (Fv Q _ _ _ _ (by decide) (by simp (disch := decide) only [fq, e2])) ?_
    rintro v A ⟨rfl, mR, rfl, kd, bU⟩
    simp only [List.length_cons, List.length_nil] at bU
    refine b8 ?_
    refine aK (aaM Q _ y.f8 (by omega) (by omega) iw) ?_
    rintro v A ⟨rfl, oO, rfl, rT, cU⟩
    refine b8 ?_
    refine cT (Bv Q _ _) ?_
    obtain ⟨vT, yr⟩ := CD (n := (y.f8.map ai.row).length) (w := cR ai.wt y.f8 + 2) (s := [40] ++ oO ++ [41]) (by simp (disch := decide) only [f1, fq, e2, rT]) (by simp only [List.length_append, List.length_cons, List.length_nil]; omega)
    generalize (if (y.f8.map ai.row).length = 0 then [] else [40] ++ oO ++ [41]) = D at *
    refine b8 ?_
    refine bC _ _ _ ⟨?_, ?_⟩ rfl
    · simp (disch := decide) only [f1, fq, pA, e2, List.length_append, List.length_cons, List.length_nil, *]
      omega
    · rw [pL, wR]
      simp only [List.length_append, List.length_cons, List.length_nil]
      omega
  · obtain ⟨dD, dQ⟩ := bo
    refine de ?_
    refine b8 ?_
    refine ⟨rfl, _, rfl, ?_, ?_, s ++ [125], by simp⟩
    · simp (disch := decide) only [f1, fq, pA, e2, *]
      omega
    · simp only [List.length_append, List.length_cons, List.length_nil]
      omega
structure aiV(x:fW):Prop where
 aR:iH 16 x.aR
 iE:x.args.length<100
 lb:∀t∈x.args,Dk t
 fk:Dk x.fk
 vg:iH 33 x.gM
structure abU(x:eX):Prop where
 aR:iH 16 x.aR
 zw:x.fT.length<100
 ua:∀m∈x.fT,aiV m
abbrev fW.wt(f:fW):Nat:=150+cR ai.wt f.args+f.fk.wt
theorem ao6(x )(h : abU x)(bx : cR fW.wt x.fT + 200 < 1000000000000) : bj C [] 64 [.J (.agg x.row)] [] (C4 (2 + x.fT.length) (cR fW.wt x.fT + 200)) := by
  refine Q.z 64 (ia [(0, [4, 8], [], [])]) rfl rfl ?_
  obtain ⟨⟨dl, cB⟩, f6, kq⟩ := h
  have m1 : (x.fT.map fW.row).length = x.fT.length := List.length_map ..
  unfold eX.row
  refine b8 ?_
  refine aK (Fv Q _ _ _ _ (by decide) (by simp (disch := decide) only [fq, e2])) ?_
  rintro v A ⟨rfl, eK, rfl, eY, bq⟩
  simp only [List.length_cons, List.length_nil] at bq
  refine b8 ?_
  refine ko fW.row x.fT 7 (λd (s : bM) => [(3, .J (.str s))]) (λd s => []) (λd s => fe s = 1 + d.length ∧ s.length ≤ cR fW.wt d + 198) ⟨_, ⟨by simp (disch := decide) only [f1, fq, pA, e2, *]; rfl, by simp only [List.length_append, List.length_cons, List.length_nil, cR]; omega⟩, rfl⟩ (λd s y r ba ar aV ad bo bC => ?_) (λs ba bo => ?_)
  · obtain ⟨dD, dQ⟩ := bo
    obtain ⟨⟨gN, gj⟩, hU, iw, jm, mS, ot⟩ := kq y (by simp [ar])
    have e : y.wt = 150 + cR ai.wt y.args + y.fk.wt := rfl
    have ak : cR fW.wt d + (y.wt + 2) ≤ cR fW.wt x.fT := by rw [ar, pL]; simp only [cR]; omega
    unfold fW.row at ad
    refine tl ?_
    refine aK (aaM Q _ y.args (by omega) (by omega) iw) ?_
    rintro v A ⟨rfl, mR, rfl, kd, bU⟩
    refine b8 ?_
    refine aK (xO Q y.fk jm.1 jm.2 (by omega)) ?_
    rintro v A ⟨rfl, oO, rfl, rT, cU⟩
    refine b8 ?_
    refine cT (Bv Q _ _) ?_
    obtain ⟨vT, yr⟩ := CD (n := y.gM.length) (w := 50) (s := [32, 100, 101, 102, 97, 117, 108, 116, 32] ++ y.gM) (by simp (disch := decide) only [f1, fq, e2, mS]) (by simp only [List.length_append, List.length_cons, List.length_nil]; omega)
    generalize (if y.gM.length = 0 then [] else [32, 100, 101, 102, 97, 117, 108, 116, 32] ++ y.gM) = D at *
    refine b8 ?_
    refine bC _ _ _ ⟨?_, ?_⟩ rfl
    · simp (disch := decide) only [f1, fq, pA, e2, List.length_append, List.length_cons, List.length_nil, *]
      omega
    · rw [pL, wR]
      simp only [List.length_append, List.length_cons, List.length_nil]
      omega
  · obtain ⟨dD, dQ⟩ := bo
    refine de ?_
    refine b8 ?_
    refine ⟨rfl, _, rfl, ?_, ?_, s ++ [125], by simp⟩
    · simp (disch := decide) only [f1, fq, pA, e2, *]
      omega
    · simp only [List.length_append, List.length_cons, List.length_nil]
      omega
structure adr(x:fc):Prop where
 dZ:iH 33 x.zO
 gl:x.fg.length<100
 ge:∀g∈x.fg,HX g
 bK:Dk x.bK
 eT:x.binds.length<100
 eD:∀b∈x.binds,iH 16 b.yR/\iH 33 b.func
abbrev i3.wt(f:i3):Nat:=70
theorem am0(x )(h : adr x)(bx : cR i3.wt x.binds + (200 + cR cX.wt x.fg + x.bK.wt) < 1000000000000) : bj C [] 66 [.J (.agg x.row)] [] (C4 (2 + x.binds.length) (cR i3.wt x.binds + (200 + cR cX.wt x.fg + x.bK.wt))) := by
  refine Q.z 66 (ia [(0, [4, 8], [], [])]) rfl rfl ?_
  obtain ⟨⟨dl, cB⟩, gl, ge, bK, f6, kq⟩ := h
  have m1 : (x.binds.map i3.row).length = x.binds.length := List.length_map ..
  unfold fc.row
  refine b8 ?_
  refine aK (WB Q _ x.fg gl ge) ?_
  rintro v A ⟨rfl, eK, rfl, eY, bq⟩
  refine b8 ?_
  refine aK (xO Q x.bK bK.1 bK.2 (by omega)) ?_
  rintro v A ⟨rfl, s2, rfl, ex, aS⟩
  refine b8 ?_
  refine ko i3.row x.binds 7 (λd (s : bM) => [(3, .J (.str s))]) (λd s => []) (λd s => fe s = 1 + d.length ∧ s.length ≤ cR i3.wt d + (198 + cR cX.wt x.fg + x.bK.wt)) ⟨_, ⟨by simp (disch := decide) only [f1, fq, pA, e2, *]; rfl, by simp only [List.length_append, List.length_cons, List.length_nil, cR]; omega⟩, rfl⟩ (λd s y r ba ar aV ad bo bC => ?_) (λs ba bo => ?_)
  · obtain ⟨dD, dQ⟩ := bo
    obtain ⟨⟨gN, gj⟩, hU, iw⟩ := kq y (by simp [ar])
    have e : y.wt = 70 := rfl
    have ak : cR i3.wt d + (y.wt + 2) ≤ cR i3.wt x.binds := by rw [ar, pL]; simp only [cR]; omega
    unfold i3.row at ad
    refine tl ?_
    refine bC _ _ _ ⟨?_, ?_⟩ rfl
    · simp (disch := decide) only [f1, fq, pA, e2, List.length_append, List.length_cons, List.length_nil, *]
      omega
    · rw [pL, wR]
      simp only [List.length_append, List.length_cons, List.length_nil]
      omega
  · obtain ⟨dD, dQ⟩ := bo
    refine de ?_
    refine b8 ?_
    refine ⟨rfl, _, rfl, ?_, ?_, s ++ [125], by simp⟩
    · simp (disch := decide) only [f1, fq, pA, e2, *]
      omega
    · simp only [List.length_append, List.length_cons, List.length_nil]
      omega
structure aea(x:cD):Prop where
 aR:iH 16 x.aR
 bK:Dk x.bK
 vg:x.gM.kind≠0->x.gM.bL/\x.gM.mB pp=true
abbrev cD.wt(a:cD):Nat:=60+a.bK.wt+a.gM.wt
theorem an6(x )(h : aea x)(bx : 60 + x.bK.wt + x.gM.wt < 1000000000000) : bj C [] 184 [.J (.agg x.row)] [] (jY (60 + x.bK.wt + x.gM.wt)) := by
  refine Q.z 184 cY rfl rfl ?_
  obtain ⟨⟨dl, cB⟩, bK, vg⟩ := h
  unfold cD.row
  simp only [List.cons_append, List.nil_append]
  refine b8 ?_
  refine aK (xO Q x.bK bK.1 bK.2 (by omega)) ?_
  rintro v A ⟨rfl, s2, rfl, ex, aS⟩
  refine b8 ?_
  refine f4 (fK (λaz => ?_) (λaz => ?_))
  · (conv => whnf)
    repeat' ((first | refine b9 ?_ | ((with_reducible first | apply eT | apply iN | apply fK | apply cC | apply f4 | apply kC | apply kB | apply eD) <;> intros)) <;> (conv => whnf))
    all_goals exact ⟨rfl, _, rfl, by simp (disch := decide) only [f1, fq, e2, *], by simp only [List.length_append, List.length_cons, List.length_nil]; omega⟩
  · have aJ := vg az
    refine b8 ?_
    refine aK (tS Q x.gM (by omega) (abD Q x.gM aJ.1 aJ.2 (by omega))) ?_
    rintro v A ⟨rfl, mR, rfl, kd, bU⟩
    refine b8 ?_
    exact ⟨rfl, _, rfl, by simp (disch := decide) only [f1, fq, e2, *], by simp only [List.length_append, List.length_cons, List.length_nil]; omega⟩
structure act(x:dI):Prop where
 aR:iH 16 x.aR
 gl:x.fg.length<100
 ge:∀g∈x.fg,HX g
 iE:x.args.length<100
 lb:∀a∈x.args,aea a
 fk:Dk x.fk
 t0:x.has=true->x.body.bL/\x.body.mB pp=true
abbrev dI.wt(x:dI):Nat:=300+cR cX.wt x.fg+cR cD.wt x.args+x.fk.wt+x.body.wt
theorem al8(x )(h : act x)(bx : 300 + cR cX.wt x.fg + cR cD.wt x.args + x.fk.wt + x.body.wt < 1000000000000) : bj C [] 68 [.J (.agg x.row)] [] (C4 1 (300 + cR cX.wt x.fg + cR cD.wt x.args + x.fk.wt + x.body.wt)) := by
  refine Q.z 68 cY rfl rfl ?_
  obtain ⟨⟨dl, cB⟩, gl, ge, iE, lb, fk, t0⟩ := h
  unfold dI.row
  simp only [List.cons_append, List.nil_append]
  have cM := (Jj Q).2.1 cD.row rfl x.g2 184 x.args cD.wt (by omega) (λy ap => an6 Q y (lb y ap) (by have := BC cD.wt ap; have e : y.wt = 60 + y.bK.wt + y.gM.wt := rfl; omega)) (by omega)
  refine b8 ?_
  refine aK cM ?_
  rintro v A ⟨rfl, eK, rfl, eY, bq⟩
  refine b8 ?_
  refine aK (Fv Q _ _ _ _ (by decide) (by simp (disch := decide) only [fq, e2])) ?_
  rintro v A ⟨rfl, s2, rfl, ex, aS⟩
  simp only [List.length_cons, List.length_nil] at aS
  refine b8 ?_
  refine aK (WB Q _ x.fg gl ge) ?_
  rintro v A ⟨rfl, mR, rfl, kd, bU⟩
  refine b8 ?_
  refine aK (xO Q x.fk fk.1 fk.2 (by omega)) ?_
  rintro v A ⟨rfl, oO, rfl, rT, cU⟩
  refine b8 ?_
  refine eD (λav => ?_) (λav => ?_)
  · have aJ := t0 av
    refine b8 ?_
    refine aK (tS Q x.body (by omega) (abD Q x.body aJ.1 aJ.2 (by omega))) ?_
    rintro v A ⟨rfl, tA, rfl, Kn, eI⟩
    refine b8 ?_
    refine ⟨rfl, _, rfl, by simp (disch := decide) only [f1, fq, pA, e2, *], by simp only [List.length_append, List.length_cons, List.length_nil]; omega, _, (List.append_assoc _ [59] [10]).symm⟩
  · refine b8 ?_
    refine ⟨rfl, _, rfl, by simp (disch := decide) only [f1, fq, pA, e2, *], by simp only [List.length_append, List.length_cons, List.length_nil]; omega, _, (List.append_assoc _ [59] [10]).symm⟩
end
section
variable{C:Nat->cG}{ext:Nat->Option e0}{ab:fD}(Q:Env C ext ab)
include Q
omit Q in
def M7:∀a b:bM,hG (a++b)=hG a++hG b
 |[],b=>rfl
 |x::a,b=>by simp only[jF,hG,M7 a b]
omit Q in
theorem Qr:∀a:bM,(hG a).length=a.length
 |[]=>rfl
 |x::a=>by simp only[hG,List.length_cons,Qr a]
omit Q in
def Xc:∀a:bM,hy [5] (hG a)=false
 |[]=>by simp only[hG,hy]
 |x::a=>by simp only[hG,hy,Xc a,dw,cA,k5]
def ahH(b:a1)(t:bM):Prop:=b=.bT/\t=[]\/b=.J (.aQ 11 (hG t))
def acu(a b)(t s:bM)(aD:a=.J (.nil .N)\/a=.bH 1000 0)(av:ahH b t)(K:t.length+s.length<=2147483647):bj C [5] 177 [.bH 1000 0,.J (.str s)] [(1000,.box 210 2 (.bE [a,b]))] λv A=>A=[(1000,.box 210 2 (.bE [.bH 1000 0,.J (.aQ 11 (hG (t++s)))]))]:=by
 refine Q.z 177 cY rfl rfl ?_;have ajs:(hG t).length=t.length:=Qr t;have vD:(hG s).length=s.length:=Qr s;rcases av with⟨rfl,rfl⟩|rfl
 .rcases aD with rfl|rfl
  all_goals
   refine aG ?_
   refine aK (Q.Tr _ _ (by first|exact .inl rfl|exact .inr rfl) (.inl rfl)) ?_
   rintro v A rfl
   refine b8 ?_
   rfl
 .rcases aD with rfl|rfl
  all_goals
   refine aG ?_
   refine aK (Q.Tr _ _ (by first|exact .inl rfl|exact .inr rfl) (.inr ⟨_,rfl⟩)) ?_
   rintro v A rfl
   refine b8 ?_
   rcases t with _|⟨x,t⟩
   .refine FI.fresh (.inr rfl) rfl rfl (by rw[vD];simp only[r8] at K;omega) ?_;refine b8 ?_;rfl
   .refine FI.aan rfl rfl rfl (by rw[vD,ajs,jq,DJ];exact K) ?_;have mC:hy [5] (hG (x::t)++hG s)=false:=by rw[<-M7];exact Xc _
    (conv=>whnf)
    refine⟨mC,?_⟩
    (conv=>whnf)
    repeat(first|refine D7.drop rfl ?_|refine MO.mk mC ?_|refine b9 ?_);(conv=>whnf)
    rw[M7];rfl
def dX{α:Type}(w:α->Nat):List α->Nat
 |[]=>0
 |a::l=>w a+dX w l
omit Q in
def AR{α}(w):∀d r:List α,dX w (d++r)=dX w d+dX w r
 |[],r=>by simp [dX]
 |a::d,r=>by simp only[jF,dX,AR w d r];omega
def aiu(n w:Nat)(v:b2)(A:be):Prop:=A=[]/\∃s,v=.str s/\fe s=n/\s.length<=w/\(s=[]\/∃cP,s=cP++[10])
omit Q in
def Xw{X:List Nat}{α:Type}{aF}:∀{l:List α}{x},x∈l->hy X (l.map aF)=false->dw X (aF x)=false
 |a::l,x,h,I=>by
  simp only[fA,hy,Cd] at I;rcases fS.1 h with rfl|h
  .exact I.1
  .exact Xw h I.2
omit Q in
def aeW{X:List Nat}{g}{ab}(h:cA X (.aQ g ab)=false):hy X ab=false:=by
 cases ab with
 |nil=>simp only[hy]
 |cons r ab=>simp only[cA,Cd] at h;exact h.2
def GZ(C:Nat->cG)(n:Nat){α:Type}(i6:α->List b2):Prop:=∀aF,aF=i6->∀g q (l:List α)(cy W:α->Nat),l.length<1000->(∀x∈l,bj C [] q [.J (.agg (aF x))] [] (C4 (cy x) (W x)))->dX W l<=2147483647->cA [5] (.aQ g (l.map aF))=false->bj C [] n [.J (.aQ g (l.map aF)),.J (.fn q [] [])] [] (aiu (dX cy l) (dX W l))
end
section
variable{C:Nat->cG}{ext:Nat->Option e0}{ab:fD}(Q:Env C ext ab)
include Q
omit Q in
def amv{X:List Nat}{l}(h:dw X l=false):cA X (.agg l)=false:=by simp only[cA];exact h
omit Q in
def Tm{X:List Nat}{q}:cA X (.fn q [] [])=false:=by simp only[cA,dw,k5]
omit Q in
def LB(t:bM):cA [5] (.aQ 11 (hG (t++[10]))):=by
 rw[M7];cases t with
 |nil=>simp only[hG,kv,cA,cr];rfl
 |cons a t=>simp only[hG,jF,cA,cr];rfl
attribute [local irreducible] cA dw hy
def G5:GZ C 59 ec.row/\GZ C 61 eg.row/\GZ C 63 eX.row/\GZ C 65 fc.row/\GZ C 67 dI.row:=by
 refine⟨?_,?_,?_,?_,?_⟩<;>intro aF bx g q l cy W K aw av I
 all_goals
  refine bj.aqh (X:=[5]) (bX:=[.aQ g (l.map aF),.fn q [] []]) ?_ (by show dw [5] _=false;rw[dw,I,dw,dw,Tm];rfl)
  refine Q.z _ (ia [(0,[4,8],[],[5])]) rfl rfl ?_
  have hm:(l.map aF).length=l.length:=bW
  refine aG ?_
  refine ko aF l 7 (λd (b:a1×a1×bM)=>[]) (λd b=>[(5,.box 210 2 (.bE [b.1,b.2.1]))]) (λd b=>fe b.2.2=dX cy d/\b.2.2.length<=dX W d/\(b=(.J (.nil .N),.bT,[])\/∃cP,b=(.bH 5 0,.J (.aQ 11 (hG (cP++[10]))),cP++[10]))) ⟨(.J (.nil .N),.bT,[]),⟨e2,ez _,.inl rfl⟩,rfl⟩ (λd b x r ba ar aV ad bo bC=>?_) (λb ba bo=>?_)
  .obtain⟨fi,fr,lY⟩:=bo;have FN:dw [5] (aF x)=false:=Xw (by simp [ar]) (aeW I);have IW:=aw x (by simp [ar]);have lo:dX W d+W x<=2147483647:=by rw[ar,AR] at av;simp only[dX] at av;omega
   have dC:∀(t s cP:bM),fe t=dX cy d->t.length<=dX W d->fe s=cy x->s.length<=W x->s=cP++[10]->fe (t++s)=dX cy (d++[x])/\(t++s).length<=dX W (d++[x])/\t++s=(t++cP)++[10]:=by rintro t s cP cb asP B F rfl;refine⟨by rw[f1,AR,cb,B];simp only[dX,sb],by rw[gP,AR];simp only[dX];omega,by rw[BH]⟩
   have Sa:cA [5] (.agg (aF x))=false:=amv FN;subst bx;simp only[ec.row,eg.row,eX.row,fc.row,dI.row,jF,kv] at ad IW Sa;simp only[ec.row,eg.row,eX.row,fc.row,dI.row,jF,kv] at FN;have GC:cA [5] (.fn q [] [])=false:=Tm;rcases lY with rfl|⟨a6,rfl⟩
   .simp only at fi fr;refine dx ?_;refine aK IW ?_;rintro v A ⟨rfl,s,rfl,eY,ex,cP,kd⟩;have az:=dC _ s cP fi fr eY ex kd
    (conv=>whnf)
    refine aK (acu Q _ _ (([]:bM)) s (.inl rfl) (.inl ⟨rfl,rfl⟩) (mq (Nat.add_le_add fr ex) lo)) ?_;rintro v A rfl;show jt [5] _ _ _ _;refine LV rfl ?_;simp only[fA,je,dJ,nm,ob,iD I,iD Sa,iD GC,lg,lR,la,lD,OS,li,k7,s8 (LB _),Qg FN];generalize im:hG (([]:bM)++s)=bc;refine aG ?_;subst im;exact bC (.bH 5 0,.J (.aQ 11 (hG (([]:bM)++s))),([]:bM)++s) _ _ ⟨az.1,az.2.1,.inr ⟨([]:bM)++cP,by rw[az.2.2]⟩⟩ rfl
   .simp only at fi fr;refine dx ?_;refine aK IW ?_;rintro v A ⟨rfl,s,rfl,eY,ex,cP,kd⟩;have az:=dC _ s cP fi fr eY ex kd
    (conv=>whnf)
    refine aK (acu Q _ _ ((a6++[10])) s (.inr rfl) (.inr rfl) (mq (Nat.add_le_add fr ex) lo)) ?_;rintro v A rfl;show jt [5] _ _ _ _;refine LV rfl ?_;simp only[fA,je,dJ,nm,ob,iD I,iD Sa,iD GC,lg,lR,la,lD,OS,li,k7,s8 (LB _),Qg FN];generalize im:hG ((a6++[10])++s)=bc;refine aG ?_;subst im;exact bC (.bH 5 0,.J (.aQ 11 (hG ((a6++[10])++s))),(a6++[10])++s) _ _ ⟨az.1,az.2.1,.inr ⟨(a6++[10])++cP,by rw[az.2.2]⟩⟩ rfl
  .obtain⟨fi,fr,lY⟩:=bo;have GC:cA [5] (.fn q [] [])=false:=Tm;rcases lY with rfl|⟨a6,rfl⟩
   .refine de ?_;refine cT (Q.str _ _ [] (.inl rfl) (.inl ⟨rfl,rfl⟩)) ?_;show jt [5] _ _ _ _;refine LV rfl ?_;simp only[fA,je,dJ,nm,ob,iD I,iD GC,lg,lR,la,lD,OS,li,k7,s8 (LB _)];refine aG ?_;exact⟨rfl,_,rfl,fi,fr,.inl rfl⟩
   .refine de ?_;refine cT (Q.str _ _ (a6++[10]) (.inr rfl) (.inr rfl)) ?_;show jt [5] _ _ _ _;refine LV rfl ?_;simp only[fA,je,dJ,nm,ob,iD I,iD GC,lg,lR,la,lD,OS,li,k7,s8 (LB _)];refine aG ?_;exact⟨rfl,_,rfl,fi,fr,.inr ⟨a6,rfl⟩⟩
end
section
variable{C:Nat->cG}{ext:Nat->Option e0}{ab:fD}(Q:Env C ext ab)
include Q
omit Q in
def alj{eo bc h jI P es aP c n E A b0 bz}(N:bM->Prop)(B:eo λd9 bw=>bw=A/\∃s a b c,N s/\d9=iT (iT (iT (iT E 6 (.J a)) 7 (.J b)) 8 (.J c)) 4 (.J (.str s)))(F:∀s a b c,N s->bc (iT (iT (iT (iT E 6 (.J a)) 7 (.J b)) 8 (.J c)) 4 (.J (.str s))) A):Iw (nt C h jI P es aP c n E A b0 bz) eo bc:=.join _ B (by rintro d9 bw ⟨rfl,s,a,b,c,hp,rfl⟩;exact F s a b c hp)
omit Q in
def Ik{a b:bM}(h:∃bF,a=bF++[10])(b5:b=[]\/∃dA,b=dA++[10]):∃cP,a++b=cP++[10]:=by
 rcases b5 with rfl|⟨dA,rfl⟩
 .rw[oK];exact h
 .exact⟨a++dA,by rw[BH]⟩
def Lr(x:cV):Nat:=1+x.lf.length+(dX (λs:ec=>2+s.fields.length) x.ea+dX (λs:eg=>2+s.cases.length) x.dW+dX (λs:eX=>2+s.fT.length) x.e7+dX (λs:fc=>2+s.binds.length) x.ed+dX (λs:dI=>1) x.funcs)
abbrev Hv(x:ec):Nat:=cR eF.wt x.fields+(200+20*x.params.length)
abbrev Hq(x:eg):Nat:=cR eP.wt x.cases+(200+20*x.params.length)
abbrev IS(x:eX):Nat:=cR fW.wt x.fT+200
abbrev Hx(x:fc):Nat:=cR i3.wt x.binds+(200+cR cX.wt x.fg+x.bK.wt)
abbrev Ip(x:dI):Nat:=300+cR cX.wt x.fg+cR cD.wt x.args+x.fk.wt+x.body.wt
structure Qf(x:cV):Prop where
 aR:iH 16 x.aR
 qp:x.lf.length<100
 abV:∀i∈x.lf,iH 16 i.aR
 df:x.ea.length<100
 dr:∀s∈x.ea,Z2 s
 cH:x.dW.length<100
 c3:∀s∈x.dW,Ww s
 dh:x.e7.length<100
 dY:∀s∈x.e7,abU s
 fj:x.ed.length<100
 e9:∀s∈x.ed,adr s
 fP:x.funcs.length<100
 f9:∀s∈x.funcs,act s
 w:dX Hv x.ea+dX Hq x.dW+dX IS x.e7+dX Hx x.ed+dX Ip x.funcs<=2000000000
 lp:dw [5] x.cells=false
omit Q in
def Gh{α}(w):∀{l:List α}{x},x∈l->w x<=dX w l
 |a::l,x,h=>by
  rcases fS.1 h with rfl|h
  .simp only[dX];omega
  .have:=Gh w h;simp only[dX];omega
theorem akr(x )(h : Qf x) : bj C [] 22 [.J (.agg x.cells)] [] (C4 (Lr x) 2100000000) := by
  refine Q.z 22 (ia [(1, [5, 12], [], [1])]) rfl rfl ?_
  obtain ⟨⟨dl, cB⟩, qp, abV, df, dr, cH, c3, dh, dY, fj, e9, fP, f9, w, lp⟩ := h
  have m0 : (x.lf.map kx.row).length = x.lf.length := List.length_map ..
  simp only [dw, Bool.or_eq_false_iff] at lp
  obtain ⟨_, _, _, _, dS, fw, lB, pZ, KA, _⟩ := lp
  refine b8 ?_
  refine aK (Q.itoa x.rel) ?_
  rintro v A ⟨rfl, eK, rfl, bq, eY⟩
  (conv => whnf)
  repeat ((first | refine .mk ⟨rfl, by simp only [List.length_cons, List.length_nil]; omega⟩ ?_ | refine .mk (by omega) ?_ | refine .mk (by simp only [List.length_append, List.length_cons, List.length_nil]; omega) ?_ | refine .nice (by omega) ?_ | refine .yes (by decide) ?_ | refine .no (by decide) ?_ | refine oG (by kernel_rfl) ?_); (conv => whnf))
  refine alj (λs => fe s = 1 ∧ s.length ≤ 100 ∧ ∃ cP, s = cP ++ [10]) ?_ λs a b c ak => ?_
  · (conv => whnf)
    repeat' (first | refine b9 ?_ | refine aN ?_ | refine s2 ?_ ?_ <;> intros | fail) <;> (conv => whnf)
    · refine ⟨rfl, _, _, _, .undef, ⟨?_, ?_, [108, 105, 98, 114, 97, 114, 121, 32] ++ x.aR ++ ([32, 114, 101, 108, 101, 97, 115, 101, 32] ++ eK ++ [59]), ?_⟩, rfl⟩
      · simp (disch := decide) only [f1, fq, pA, e2, *]
      · simp only [List.length_append, List.length_cons, List.length_nil]; omega
      · simp
    · refine ⟨rfl, _, _, _, _, ⟨?_, ?_, _, (List.append_assoc _ [59] [10]).symm⟩, rfl⟩
      · simp (disch := decide) only [f1, fq, pA, e2, *]
      · simp only [List.length_append, List.length_cons, List.length_nil]; omega
    · refine ⟨rfl, _, _, _, _, ⟨?_, ?_, [105, 110, 116, 101, 114, 102, 97, 99, 101, 32] ++ x.aR ++ ([32, 114, 101, 108, 101, 97, 115, 101, 32] ++ eK ++ [59]), ?_⟩, rfl⟩
      · simp (disch := decide) only [f1, fq, pA, e2, *]
      · simp only [List.length_append, List.length_cons, List.length_nil]; omega
      · simp
  refine b8 ?_
  refine ko kx.row x.lf 11 (λd (s : bM) => [(4, .J (.str s))]) (λd s => [(1, .box 34 9 (.cc x.cells))]) (λd s => fe s = 1 + d.length ∧ s.length ≤ 100 + 100 * d.length ∧ ∃ cP, s = cP ++ [10]) ⟨s, ak, rfl⟩ (λd s y r ba ar aV ad bo bC => ?_) (λs ba bo => ?_)
  · obtain ⟨dD, dQ, fi⟩ := bo
    obtain ⟨gN, gj⟩ := abV y (by simp [ar])
    have aJ : d.length ≤ 100 := by rw [ar] at qp; simp at qp; omega
    unfold kx.row at ad
    refine tl ?_
    refine aK (Q.itoa y.rel) ?_
    rintro v A ⟨rfl, s2, rfl, aS, ex⟩
    refine b8 ?_
    refine bC _ _ _ ⟨?_, ?_, ?_⟩ rfl
    · simp (disch := decide) only [f1, fq, pA, e2, List.length_append, List.length_cons, List.length_nil, *]
      omega
    · simp only [List.length_append, List.length_cons, List.length_nil]
      omega
    · exact ⟨s ++ ([105, 109, 112, 111, 114, 116, 32] ++ y.aR ++ [32] ++ s2 ++ [59]), by simp⟩
  · obtain ⟨dD, dQ, fi⟩ := bo
    have cw : ∀ y ∈ x.ea, Hv y ≤ 2000000000 := λy ap => by have := Gh Hv ap; omega
    have c7 : ∀ y ∈ x.dW, Hq y ≤ 2000000000 := λy ap => by have := Gh Hq ap; omega
    have fu : ∀ y ∈ x.e7, IS y ≤ 2000000000 := λy ap => by have := Gh IS ap; omega
    have fh : ∀ y ∈ x.ed, Hx y ≤ 2000000000 := λy ap => by have := Gh Hx ap; omega
    have hC : ∀ y ∈ x.funcs, Ip y ≤ 2000000000 := λy ap => by have := Gh Ip ap; omega
    refine de ?_
    refine b8 ?_
    refine aK ((G5 Q).1 ec.row rfl x.g2 60 x.ea (λs => 2 + s.fields.length) Hv (by omega) (λy ap => ajS Q y (dr y ap) (Nat.lt_of_le_of_lt (cw y ap) (by decide))) (by omega) dS) ?_
    rintro v A ⟨rfl, t1, rfl, aZ, g1, cQ⟩
    refine b8 ?_
    refine aK ((G5 Q).2.1 eg.row rfl x.g3 62 x.dW (λs => 2 + s.cases.length) Hq (by omega) (λy ap => aoW Q y (c3 y ap) (Nat.lt_of_le_of_lt (c7 y ap) (by decide))) (by omega) fw) ?_
    rintro v A ⟨rfl, kH, rfl, aN, g2, eL⟩
    refine b8 ?_
    refine aK ((G5 Q).2.2.1 eX.row rfl x.g4 64 x.e7 (λs => 2 + s.fT.length) IS (by omega) (λy ap => ao6 Q y (dY y ap) (Nat.lt_of_le_of_lt (fu y ap) (by decide))) (by omega) lB) ?_
    rintro v A ⟨rfl, rW, rfl, c9, g3, jU⟩
    refine b8 ?_
    refine aK ((G5 Q).2.2.2.1 fc.row rfl x.g5 66 x.ed (λs => 2 + s.binds.length) Hx (by omega) (λy ap => am0 Q y (e9 y ap) (Nat.lt_of_le_of_lt (fh y ap) (by decide))) (by omega) pZ) ?_
    rintro v A ⟨rfl, xE, rfl, hB, g4, nR⟩
    refine b8 ?_
    refine aK ((G5 Q).2.2.2.2 dI.row rfl x.g6 68 x.funcs (λs => 1) Ip (by omega) (λy ap => al8 Q y (f9 y ap) (Nat.lt_of_le_of_lt (hC y ap) (by decide))) (by omega) KA) ?_
    rintro v A ⟨rfl, Dq, rfl, mo, g5, qR⟩
    refine b8 ?_
    refine ⟨rfl, _, rfl, ?_, ?_, Ik (Ik (Ik (Ik (Ik fi cQ) eL) jU) nR) qR⟩
    · simp only [f1, dD, aZ, aN, c9, hB, mo, Lr]
      omega
    · simp only [List.length_append]
      omega
end
section
variable{C:Nat->cG}{ext:Nat->Option e0}{ab:fD}(Q:Env C ext ab)
include Q
def XI(s:bM)(c)(ak:s.length<1000000000):bj C [] 185 [.J (.str s),.J (.int 4 c.toNat)] [] λv A=>A=[]/\((c∉s/\v=.int 3 18446744073709551615)\/∃i,v=.int 3 i/\i<s.length/\c∈s):=by
 refine Q.z 185 cY rfl rfl ?_;refine aG ?_;refine aK (Q.indexB s c ak) ?_;rintro v A ⟨rfl,h⟩;rcases h with⟨h,rfl⟩|⟨i,rfl,B,F,_⟩
 .refine aG ?_;exact⟨rfl,.inl ⟨h,rfl⟩⟩
 .refine aG ?_;exact⟨rfl,.inr ⟨i,rfl,B,uo F⟩⟩
def af7(s N:bM)(ak:s.length<1000000000)(hp:N.length<1000):bj C [] 265 [.J (.str s),.J (.str N)] [] λv A=>A=[]/\∃b,v=.bool b/\(b->N.length<=s.length):=by
 refine Q.z 265 cY rfl rfl ?_
 (conv=>whnf)
 repeat' (first|refine .mk Y ?_|refine bn ?_|refine aN ?_|refine s2 ?_ ?_<;>intros|fail)<;>(conv=>whnf)
 .exact⟨rfl,_,rfl,λ_=>by assumption⟩
 .exact⟨rfl,_,rfl,jw⟩
def Ya(s N:bM)(ak:s.length<1000000000)(hp:N.length<1000):bj C [] 191 [.J (.str s),.J (.str N)] [] λv A=>A=[]/\∃b,v=.bool b/\(b->N.length<=s.length):=by refine Q.z 191 cY rfl rfl ?_;refine aG ?_;refine aK (af7 Q s N ak hp) ?_;rintro v A ⟨rfl,b,rfl,h⟩;refine aG ?_;exact⟨rfl,b,rfl,h⟩
def ao0(b:UInt8):bj C [] 187 [.J (.int 4 b.toNat)] [] λv A=>A=[]/\v=.bool (decide (b.toNat≠10)):=by refine Q.z 187 cY rfl rfl ?_;refine aG ?_;exact⟨rfl,by rw[J5];simp⟩
omit Q in
def Pl{i N s}(aH:i<s.length)(h:N s[i]):i+1<=q0 N s i:=by rw[<-WC aH h];exact(Mn Y).1
def Xi(s:bM)(a)(ak:s.length<1000000000)(aD:a<=s.length):bj C [] 69 [.J (.str s),.J (.int 3 a)] [] λv A=>A=[]/\∃n,v=.int 3 n/\a<=n/\n<=s.length:=by
 refine Q.z 69 (ia [(0,[3,4,5],[],[])]) rfl rfl ?_;refine aG ?_;refine FK (λi:Nat=>[(1,.J (.int 3 i))]) (λ_=>[]) (λi=>s.length - i) (λi=>a<=i/\i<=s.length) ⟨a,⟨ez a,aD⟩,rfl⟩ (λi ba bo bC=>?_);obtain⟨dD,dQ⟩:=bo;rcases l7 i s.length with aH|aH
 .have ad:=Mn (N:=λb=>decide (b.toNat≠10)) dQ
  (conv=>whnf)
  repeat(first|refine .yes (cZ.2 aH) ?_|refine⟨aH,⟨_,na aH,?_⟩⟩|refine bn ?_);(conv=>whnf)
  refine aK (XI Q _ s[i] ag) ?_;rintro v A ⟨rfl,h⟩;rcases h with⟨h,rfl⟩|⟨k,rfl,B,F⟩
  ·(conv=>whnf)
   refine l8.mW ?_
   (conv=>whnf)
   repeat(first|refine .no qj ?_|refine⟨aH,⟨_,na aH,?_⟩⟩|refine bn ?_);(conv=>whnf)
   refine fK (λax=>?_) (λax=>?_)
   .refine aG ?_;refine cT (KK Q s i 187 _ ak dQ (λb=>ao0 Q b)) ?_;have:=Pl (N:=λb=>decide (b.toNat≠10)) aH (iX (by rw[ax];decide));refine aG ?_;exact bC _ _ _ Y ⟨Y,ad.2⟩ rfl
   .refine aG ?_;exact⟨rfl,i,rfl,dD,dQ⟩
  .have az:k<4:=B
   (conv=>whnf)
   repeat(first|refine .yes (dn.2 (mz _)) ?_|refine bn ?_);(conv=>whnf)
   exact bC (i+1) _ _ Y ⟨Y,Y⟩ rfl
 ·(conv=>whnf)
  repeat(first|refine .no (by rw[O8,qO Y]) ?_|refine bn ?_);(conv=>whnf)
  exact⟨rfl,i,rfl,dD,dQ⟩
def aok(s:bM)(a)(ak:s.length<1000000000)(aD:a<s.length):bj C [] 70 [.J (.str s),.J (.int 3 a)] [] λv A=>A=[]/\∃k e,v=.eJ [.int 3 k,.int 3 e]/\k<=3/\a<=e/\e<=s.length/\(k≠0->a<e):=by
 refine Q.z 70 cY rfl rfl ?_;have w5:=Mn (N:=λb=>xL b.toNat) (Nat.le_of_lt aD);have eM:=Mn (N:=λb=>vu b.toNat) (Nat.le_of_lt aD);have qD:((s.drop a).take (s.length - a)).length=s.length - a:=by rw[jC,lu];omega
 (conv=>whnf)
 repeat(first|refine⟨aD,⟨_,na aD,?_⟩⟩|refine bn ?_);(conv=>whnf)
 refine cj (TG Q s[a]) ?_;refine eD (λB=>?_) (λB=>?_)
 .have:=Pl (N:=λb=>xL b.toNat) aD (by simp only[xL,B,JV]);refine aG ?_;refine cj (KK Q s a 189 _ ak Y (λb=>abP Q b)) ?_;exact⟨rfl,1,_,rfl,ag,Y,w5.2,λ_=>Y⟩
 refine aG ?_;refine cj (RV Q s[a]) ?_;refine eD (λF=>?_) (λF=>?_)
 .have:=Pl (N:=λb=>vu b.toNat) aD F;refine aG ?_;refine cj (KK Q s a 190 _ ak Y (λb=>RV Q b)) ?_;exact⟨rfl,2,_,rfl,ag,Y,eM.2,λ_=>Y⟩
 (conv=>whnf)
 repeat(first|refine⟨Y,?_⟩|refine bn ?_);(conv=>whnf)
 refine aK (Ya Q _ _ Y ag) ?_;rintro v A ⟨rfl,b,rfl,av⟩;have aqC:∀(v:b2)(A:be),A=[]/\((s[a]∉([123,125,91,93,40,41,59,58,44,46,61,60,43,45,42,47,37]:bM)/\v=.int 3 18446744073709551615)\/∃i,v=.int 3 i/\i<17/\s[a]∈([123,125,91,93,40,41,59,58,44,46,61,60,43,45,42,47,37]:bM))->A=[]/\(v=.int 3 18446744073709551615\/∃i,v=.int 3 i/\i<17):=by
  rintro v A ⟨rfl,h⟩;rcases h with⟨_,h⟩|⟨i,h,b5,_⟩
  .exact⟨rfl,.inl h⟩
  .exact⟨rfl,.inr ⟨i,h,b5⟩⟩
 have last:=(XI Q [123,125,91,93,40,41,59,58,44,46,61,60,43,45,42,47,37] s[a] ag).imp aqC;cases b
 ·(conv=>whnf)
  repeat(first|refine⟨Y,?_⟩|refine bn ?_);(conv=>whnf)
  refine aK (Ya Q _ _ Y ag) ?_;rintro v A ⟨rfl,b,rfl,av⟩;cases b
  ·(conv=>whnf)
   repeat(first|refine⟨aD,⟨_,na aD,?_⟩⟩|refine bn ?_);(conv=>whnf)
   refine aK last ?_;rintro v A ⟨rfl,h⟩;rcases h with rfl|⟨k,rfl,B⟩
   ·(conv=>whnf)
    refine l8.mW ?_
    (conv=>whnf)
    repeat(first|refine .no qj ?_|refine bn ?_);(conv=>whnf)
    exact⟨rfl,0,a,rfl,ag,Y,Y,λh=>absurd rfl h⟩
   ·(conv=>whnf)
    repeat(first|refine .yes (dn.2 (mz _)) ?_|refine bn ?_);(conv=>whnf)
    exact⟨rfl,3,_,rfl,ag,Y,Y,λ_=>Y⟩
  .have:=av rfl;have e:([45,62]:bM).length=2:=rfl;refine aG ?_;exact⟨rfl,3,_,rfl,ag,Y,Y,λ_=>Y⟩
 .have:=av rfl;have e:([61,61]:bM).length=2:=rfl;refine aG ?_;exact⟨rfl,3,_,rfl,ag,Y,Y,λ_=>Y⟩
def anj(s:bM)(ak:s.length<1000000000):bj C [] 71 [.J (.str s)] [] λv A=>A=[]/\∃b,v=.bool b:=by
 refine Q.z 71 cY rfl rfl ?_
 (conv=>whnf)
 repeat' (first|refine bn ?_|refine aN ?_|refine s2 ?_ ?_<;>intros|fail)<;>(conv=>whnf)
 all_goals exact⟨rfl,_,rfl⟩
def adp(x:Nat×bM×Nat):List b2:=[.int 3 x.1,.str x.2.1,.int 3 x.2.2]
def aiB(s:bM)(ak:s.length<4000000000):bj C [] 23 [.J (.str s)] [] λv A=>A=[]/\∃a N e,v=.eJ [a,.int 3 N,.int 3 e]:=by
 refine Q.z 23 (ia [(0,[6,7,8,9,11,12,13],[⟨false,4,0,900,139,3⟩],[900])]) rfl rfl ?_;refine aG ?_;refine eT (λcb=>?_) (λcb=>?_)
 .refine aG ?_;exact⟨rfl,_,_,_,rfl⟩
 refine aG ?_;refine aK (Xi Q s 0 Y Y) ?_;rintro v A ⟨rfl,n,rfl,_,aB⟩;refine aG ?_;refine FK (α:=Nat×List (Nat×bM×Nat)) (λa=>[(4,.bQ 900),(5,.J (.int 3 a.1))]) (λa=>[(900,.arr 139 3 (a.2.map adp) true)]) (λa=>s.length - a.1) (λa=>a.1<=s.length/\a.2.length<=a.1) ⟨(n,[]),⟨aB,mz _⟩,rfl⟩ (λq ba bo bC=>?_);obtain⟨i,l⟩:=q;obtain⟨dD,dQ⟩:=bo;simp only at dD dQ;have aqS:(l.map adp).length=l.length:=bW;rcases l7 i s.length with aH|aH
 ·(conv=>whnf)
  repeat(first|refine .yes (cZ.2 aH) ?_|refine bn ?_);(conv=>whnf)
  refine aK (aok Q s i Y aH) ?_;rintro v A ⟨rfl,k,e,rfl,dr,c3,dY,e9⟩;have afH:((s.drop i).take (e - i)).length=e - i:=by rw[jC,lu];omega
  generalize bx:(s.drop i).take (e - i)=w at afH;refine b8 ?_;rw[bx]
  (conv=>whnf)
  repeat' (first|refine .mk Y ⟨_,na Y,?_⟩|(refine aK (anj Q w Y) ?_;rintro v A ⟨rfl,b,rfl⟩)|refine b9 ?_|refine aN ?_|refine s2 ?_ ?_<;>intros|fail)<;>(conv=>whnf)
  all_goals try exact⟨rfl,_,_,_,rfl⟩
  all_goals
   have hp:=e9 (by assumption)
   refine aK (Xi Q s e Y Y) ?_
   rintro v A ⟨rfl,cx,rfl,m1,m2⟩
   refine aG ?_
   refine bC (cx,l++[(k,w,i)]) _ _ (by simp only;omega) ⟨m2,pu⟩ (by simp only[qn];rfl)
 ·(conv=>whnf)
  repeat(first|refine .no (by rw[O8,qO Y]) ?_|refine bn ?_);(conv=>whnf)
  exact⟨rfl,_,_,_,rfl⟩
end
section
variable{C:Nat->cG}{ext:Nat->Option e0}{ab:fD}(Q:Env C ext ab)
include Q
def afC(x:cV)(v:b2)(A:be):Prop:=A=[]/\((zI x=false/\v=.eJ [.str [],.int 3 19])\/v=.eJ [.str [],.int 3 4]\/∃s,v=.eJ [.str s,.int 3 0]/\s.length<=2100000000/\fe s=Lr x/\∃cP,s=cP++[10])
def akq(x)(I:x.ok)(br:zI x->Qf x):bj C [] 9 [.J (.agg x.cells)] [] (afC x):=by
 refine Q.z 9 cY rfl rfl ?_;refine aG ?_;refine cj (aiD Q x I) ?_;refine f4 (eD (λB=>?_) (λB=>?_))
 .refine aG ?_;refine aK (akr Q x (br B)) ?_;rintro v A ⟨rfl,s,rfl,aZ,aN,c9⟩;refine aG ?_;refine aK (aiB Q s Y) ?_;rintro v A ⟨rfl,a,N,e,rfl⟩
  (conv=>whnf)
  repeat' ((first|refine bn ?_|((with_reducible first|apply eT|apply iN|apply fK|apply cC|apply f4|apply kC|apply kB|apply eD)<;>intros))<;>(conv=>whnf))
  .exact⟨rfl,.inr (.inr ⟨s,rfl,aN,aZ,c9⟩)⟩
  .exact⟨rfl,.inr (.inl rfl)⟩
 .refine aG ?_;exact⟨rfl,.inl ⟨B,rfl⟩⟩
end
end Go.Tx
