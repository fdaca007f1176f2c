/- A part. -/
import Derived.Test.YtkjmpcfikenlbaaGreatDoorQ4
set_option linter.all false
namespace Go.Tx
open Go Go.Ev
set_option maxRecDepth 100000
set_option maxHeartbeats 8000000
attribute [local irreducible] eo eA bU eE eJ eN eX
def vj(b:UInt8):Bool:=xl b.toNat||A1 b.toNat||b==46
def Pz{s:bj}(h:hD s=true):∀b∈s,vj b=true:=by unfold hD at h;intro b aB;rcases(sw h).2.2.2.2 b aB with h|h<;>simp[vj,h]
def aiR{s:bj}(h:hD s=true):s≠[]:=(sw h).1
def alk{s:bj}(h:qp s=true):∀b∈s,vj b=true:=by
 unfold qp at h;split at h
 .rename_i Ty;have D:=Pz (Bool.and_eq_true_iff.1 h).1;have F:=Pz (Bool.and_eq_true_iff.1 h).2;have aN:s.idxOf 46<s.length:=List.idxOf_lt_length_iff.2 Ty;have e:s=s.take (s.idxOf 46)++s[s.idxOf 46]::s.drop (s.idxOf 46+1):=by rw[<-Be aN,Bj]
  intro b aB;rw[e]at aB;rcases l8.1 aB with aB|aB
  .exact D b aB
  .rcases hS.1 aB with aB|aB
   .rw[aB,List.getElem_idxOf aN];decide
   .exact F b aB
 .exact Pz h
def XO{t:al}(h:t.kC=true):∀b∈t.ay,vj b=true:=by
 rw[al.Uz]at h;rcases Bool.or_eq_true_iff.1 (Bool.and_eq_true_iff.1 h).1 with h|h
 .unfold No at h;have:=sw h;intro b aB;simp only[hS,Ax,Cm]at this;rcases this with h|h|h|h|h<;>rw[h]at aB<;>revert b<;>decide
 .exact alk h
def aaz{t:al}(h:t.kC=true):∀x∈t.l,x.kC=true:=by rw[al.Uz]at h;exact ub.1 (Bool.and_eq_true_iff.1 h).2
def Kp(r:bj):Prop:=∀b t,r=b::t->vj b=false/\b≠91
def AB{b:UInt8}{t:bj}(h:vj b=false/\b≠91):Kp (b::t):=by intro c u e;cases e;exact h
def aa8:Kp []:=by intro c u e;cases e
def aaO:∀{s dx r eH:bj},(∀b∈s,vj b=true)->(∀b∈dx,vj b=true)->(∀b t,r=b::t->vj b=false)->(∀b t,eH=b::t->vj b=false)->s++r=dx++eH->s=dx/\r=eH
 |[],[],r,eH,_,_,_,_,h=>⟨rfl,h⟩
 |[],c::dx,r,eH,_,F,aq,_,h=>by have:=aq c (dx++eH) h;rw[F c ua]at this;cases this
 |b::s,[],r,eH,D,_,_,aL,h=>by have:=aL b (s++r) h.symm;rw[D b ua]at this;cases this
 |b::s,c::dx,r,eH,D,F,aq,aL,h=>by
  rw[lJ,lJ]at h;injection h with aP a3
  have⟨cW,g5⟩:=aaO (λx M=>D x (tD _ M)) (λx M=>F x (tD _ M)) aq aL a3;exact⟨by rw[aP,cW],g5⟩
def acP(t:al):Prop:=∀a6:al,t.kC=true->a6.kC=true->∀r eH,Kp r->Kp eH->t.bc++r=a6.bc++eH->t.aA=a6.aA/\r=eH
def OV{α:Type}(f:α->bj)(s:bj)(a b:α)(l:List α):cU s ((a::b::l).map f)=f a++(s++cU s ((b::l).map f)):=rfl
def XA:∀(l aK:List al),l≠[]->aK≠[]->(∀x∈l,acP x)->(∀x∈l,x.kC=true)->(∀x∈aK,x.kC=true)->∀r eH:bj,cU [44,32] (l.map al.bc)++93::r=cU [44,32] (aK.map al.bc)++93::eH->l.map al.aA=aK.map al.aA/\r=eH
 |[],_,h,_,_,_,_,_,_,_=>absurd rfl h|_::_,[],_,h,_,_,_,_,_,_=>absurd rfl h
 |[a],[b],_,_,aQ,D,F,r,eH,h=>by have⟨aP,a3⟩:=aQ a (by simp) b (D a (by simp)) (F b (by simp)) (93::r) (93::eH) (AB af) (AB af) h;exact⟨by simp[aP],by injection a3⟩
 |[a],b::c::aK,_,_,aQ,D,F,r,eH,h=>by rw[OV,k9,k9]at h;have⟨aP,a3⟩:=aQ a (by simp) b (D a (by simp)) (F b (by simp)) (93::r) _ (AB af) (AB af) h;cases a3
 |a::c::l,[b],_,_,aQ,D,F,r,eH,h=>by rw[OV,k9,k9]at h;have⟨aP,a3⟩:=aQ a (by simp) b (D a (by simp)) (F b (by simp)) _ (93::eH) (AB af) (AB af) h;cases a3
 |a::c::l,b::d::aK,_,_,aQ,D,F,r,eH,h=>by rw[OV,OV,k9,k9,k9,k9]at h;have⟨aP,a3⟩:=aQ a (by simp) b (D a (by simp)) (F b (by simp)) _ _ (AB af) (AB af) h;have⟨cW,g5⟩:=XA (c::l) (d::aK) (by simp) (by simp) (λx M=>aQ x (tD _ M)) (λx M=>D x (tD _ M)) (λx M=>F x (tD _ M)) r eH (@List.append_cancel_left _ [44,32] _ _ a3);exact⟨by rw[gg,cW,aP];rfl,g5⟩
def AE{T:List bj}(h:T≠[]):g6 T=91::(cU [44,32] T++[93]):=by cases T with|nil=>exact absurd rfl h|cons a l=>rfl
def akF:∀t:al,acP t:=al.ind λt bQ a6 D F r eH ag f7 h=>by
 rw[al.sa,al.sa,k9,k9]at h;have aB:∀(l:List al)(r:bj),Kp r->∀b u,g6 (l.map al.bc)++r=b::u->vj b=false:=by
  intro l r ag b u e;by_cases Y:l.map al.bc=[]
  .rw[Y]at e;exact(ag b u e).1
  .rw[AE Y]at e;injection e with aP a3
   rw[<-aP];decide
 have⟨aP,a3⟩:=aaO (XO D) (XO F) (aB t.l r ag) (aB a6.l eH f7) h;rw[al.jD,al.jD,aP];by_cases Y:t.l=[]<;>by_cases iJ:a6.l=[]
 .rw[Y,iJ]at a3 ⊢;exact⟨rfl,a3⟩
 .rw[Y,AE (T:=a6.l.map al.bc) (by simpa using iJ)]at a3;exact absurd rfl (ag 91 _ a3).2
 .rw[iJ,AE (T:=t.l.map al.bc) (by simpa using Y)]at a3;exact absurd rfl (f7 91 _ a3.symm).2
 .rw[AE (by simpa using Y),AE (by simpa using iJ),lJ,lJ]at a3;injection a3 with _ a3
  rw[k9,k9]at a3;have⟨cW,g5⟩:=XA t.l a6.l Y iJ bQ (aaz D) (aaz F) r eH a3;exact⟨by rw[cW],g5⟩
def EU{t a6:al}(D:t.kC=true)(F:a6.kC=true)(h:t.bc=a6.bc):t.aA=a6.aA:=(akF t a6 D F [] [] aa8 aa8 (by rw[h])).1
def al.tA:∀t:al,t.aA.bc=t.bc:=al.ind λt bQ=>by rw[al.sa,al.jD,al.sa t];show t.ay++g6 ((t.l.map al.aA).map al.bc)=_;rw[List.map_map];congr 2;exact List.map_congr_left λx M=>bQ x M
def al.P9(l:List al):(l.map al.aA).map al.bc=l.map al.bc:=by rw[List.map_map];exact List.map_congr_left λx _=>x.tA
def ai.Xe(e:ai)(i:Nat):e.aA.bn i=(e.bn i).aA:=by unfold ai.bn;rw[ai.jD e];show(e.kids.map ai.aA).getD i _=_;rw[<-ai.jD,s5,s5,yR];cases e.kids[i]?<;>rfl
def XK(e:ai):jk e.aA=jk e:=by rw[ai.jD];rfl
def ai6(e:ai):n2 e.aA=n2 e:=by
 rw[ai.jD];unfold n2;show(decide (e.kind=14)&&(match e.types.map al.aA with|a::_=>_|[]=>false))=_;cases e.types with
 |nil=>rfl
 |cons a l=>
  have:(a.aA.l=[])=(a.l=[]):=by rw[al.jD];show(a.l.map al.aA=[])=_;simp
  have F:a.aA.ay=a.ay:=by rw[al.jD];rfl
  simp only[gg,this,F]
def ahJ(l:List dI)(bX:List bj):pB (l.map dI.aA) bX=pB l bX:=by unfold pB;rw[List.zipWith_map_left];rfl
def aqK(e:ai)(T:List bj):zc e.aA T=zc e T:=by have br:=ai.Xe e 0;have D:=ai.Xe e 1;have Y:=XK e;unfold zc;simp only[br,D,Y,XK,ai6,m5];rw[ai.jD];show(if e.kind=1 then _ else _)=_;simp only[ai.kind,ai.ay,ai.mem,ai.num,ai.types,ai.cg,ai.bM,ai.kids,al.P9,ahJ,ex];cases e;rfl
def ai.tA:∀e:ai,e.aA.bc=e.bc:=ai.ind λe bQ=>by
 rw[ai.sa,aqK,ai.sa e];have:e.aA.kids.map ai.bc=e.kids.map ai.bc:=by rw[ai.jD];show(e.kids.map ai.aA).map ai.bc=_;rw[List.map_map];exact List.map_congr_left λx M=>bQ x M
 rw[this]
def fa(aU:bj->bj):Prop:=∃bB a9,∀s,aU s=bB++s++a9
def fa.inj{aU}(h:fa aU){s dx}(e:aU s=aU dx):s=dx:=by have⟨bB,a9,h⟩:=h;rw[h,h]at e;exact List.append_cancel_left (List.append_cancel_right e)
def fa.id:fa λs=>s:=⟨[],[],λs=>by simp⟩
def fa.l{aU}(X:bj)(h:fa aU):fa λs=>X++aU s:=by have⟨bB,a9,h⟩:=h;exact⟨X++bB,a9,λs=>by show X++aU s=_;rw[h];simp only[k9]⟩
def fa.r{aU}(h:fa aU)(X:bj):fa λs=>aU s++X:=by have⟨bB,a9,h⟩:=h;exact⟨bB,a9++X,λs=>by show aU s++X=_;rw[h];simp only[k9]⟩
def fa.c{aU G}(h:fa aU)(cz:fa G):fa λs=>aU (G s):=by have⟨bB,a9,h⟩:=h;have⟨A',B',cz⟩:=cz;exact⟨bB++A',B'++a9,λs=>by show aU (G s)=_;rw[h,cz];simp only[k9]⟩
def fa.uS{aU G:bj->bj}(h:fa aU)(e:∀s,G s=aU s):fa G:=by have⟨bB,a9,h⟩:=h;exact⟨bB,a9,λs=>by rw[e,h]⟩
def ER(gS:bj):∀(T:List bj)(i:Nat),i<T.length->fa λs=>cU gS (T.set i s)
 |[a],0,_=>fa.id
 |[a],i+1,h=>by simp at h
 |a::b::l,0,_=>fa.id.r (gS++cU gS (b::l))
 |a::b::l,i+1,h=>by have:=ER gS (b::l) i (by simpa using h);refine((this.l gS).l a).uS λs=>?_;rw[List.set_cons_succ];cases i<;>rfl
def acn(T:List bj)(i:Nat)(h:i<T.length):fa λs=>g6 (T.set i s):=by
 refine(((ER [44,32] T i h).r [93]).l [91]).uS λs=>?_;rw[AE]
 .rfl
 .intro e;have:=fr List.length e;rw[kg]at this;simp at this;subst this;simp at h
def EN(T:List bj)(i:Nat)(h:i<T.length):fa λs=>lI (T.set i s):=ER [44,32] T i h
def Na{α fH nh:Type}(f:α->fH->nh):∀(l:List α)(T:List fH)(i:Nat)(h:i<l.length)(s:fH),List.zipWith f l (T.set i s)=(List.zipWith f l T).set i (f l[i] s)
 |a::l,[],i,h,s=>rfl|a::l,b::T,0,h,s=>rfl
 |a::l,b::T,i+1,h,s=>by have:=Na f l T i (by simpa using h) s;simp only[List.set_cons_succ,List.zipWith_cons_cons,List.getElem_cons_succ,this]
def Wz(fs T:List bj)(i:Nat)(h:i<fs.length)(F:i<T.length):fa λs=>mw fs (T.set i s):=by have:=(ER [44,32] (List.zipWith ox fs T) i (by rw[List.length_zipWith];omega)).c (fa.id.l (fs[i]++[32,61,32]));refine((this.l [123]).r [125]).uS λs=>?_;unfold mw Dg;rw[Na ox fs T i h];rfl
def Yv(fs T:List bj)(i:Nat)(h:i<fs.length)(F:i<T.length):fa λs=>mw (fs.set i s) T:=by
 have:=(ER [44,32] (List.zipWith ox fs T) i (by rw[List.length_zipWith];omega)).c (fa.id.r ([32,61,32]++T[i]));refine((this.l [123]).r [125]).uS λs=>?_;unfold mw Dg;have e:List.zipWith ox (fs.set i s) T=(List.zipWith ox fs T).set i (s++([32,61,32]++T[i])):=by rw[List.zipWith_comm,Na (λa b=>ox b a) T fs i F,List.zipWith_comm];show(List.zipWith ox fs T).set i ((s++[32,61,32])++T[i])=_;rw[k9]
 rw[e]
def OL:∀(T:List bj)(i:Nat),i<T.length->fa λs=>(T.set i s).flatten
 |a::l,0,_=>fa.id.r l.flatten
 |a::l,i+1,h=>(OL l i (by simpa using h)).l a
def akh(l:List dI)(T:List bj)(i:Nat)(h:i<l.length)(F:i<T.length):fa λs=>pB l (T.set i s):=by have:=(OL (List.zipWith mg l T) i (by rw[List.length_zipWith];omega)).c (((fa.id.l [32,45,62,32]).r [59]).l (if l[i].ma then [32,101,108,115,101]else if l[i].names.length=0 then [32]++l[i].case else [32]++l[i].case++[40]++cU [44,32] l[i].names++[41]));refine((this.l [123]).r [32,125]).uS λs=>?_;unfold pB;rw[Na mg l T i h];rfl
def wr(n:Nat)(B:Bool)(e:ai):bj:=if jk e<n\/(B=true/\n2 e=true)then ot e.bc else e.bc
def Ur(e:ai):wr 0 false e=e.bc:=by simp[wr]
def Ql(e:ai)(n:Nat):m5 e n e.bc=wr n false e:=by simp[wr,m5]
def aiS(e:ai):(if n2 e then ot e.bc else m5 e 4 e.bc)=wr 4 true e:=by unfold wr m5;cases n2 e<;>simp
def qH{e:ai}{i:Nat}{y:ai}{G}(h:i<e.kids.length):(e.k (e.kids.set i y) G).bn i=y:=by show(e.kids.set i y).getD i _=y;rw[s5,List.getElem?_set_self h];rfl
def r0{e:ai}{i j:Nat}{y:ai}{G}(h:j<e.kids.length)(aD:i≠j):(e.k (e.kids.set i y) G).bn j=e.bn j:=by show(e.kids.set i y).getD j _=e.kids.getD j _;rw[s5,List.getElem?_set_ne aD,s5,lX h];rfl
def oX{e:ai}{i:Nat}{y:ai}{G}:(e.k (e.kids.set i y) G).kids.length=e.kids.length:=kg
def vS{e:ai}{i:Nat}{y:ai}{G}:(e.k (e.kids.set i y) G).kids.map ai.bc=(e.kids.map ai.bc).set i y.bc:=List.map_set
structure anY(e:ai):Prop where
 eg:e.kind=4\/e.kind=6\/e.kind=8\/e.kind=18\/e.kind=19->e.kids.length=2
 fJ:e.kind=5->e.kids.length=3
 cH:e.kind=7\/e.kind=12\/e.kind=17\/e.kind=23\/e.kind=24->e.kids.length=1
 g3:e.kind=1\/e.kind=2\/e.kind=3\/e.kind=20->e.kids.length=0
 t0:e.kind≠7->e.kind≠9->e.kind≠10->e.kind≠11->e.kind≠14->e.kind≠16->e.types.length=0
 t1:e.kind=7\/e.kind=10\/e.kind=14\/e.kind=16->e.types.length=1
 nQ:e.kind≠3->e.kind≠4->e.kind≠8->e.kind≠9->e.kind≠10->e.kind≠11->e.kind≠20->e.ay=[]
 tm:e.kind≠10->e.kind≠12->e.kind≠14->e.mem=[]
 EK:e.kind≠1->e.kind≠2->e.kind≠20->e.num=0
 jb:e.kind≠11->e.kind≠13->e.cg=[]
 dS:e.kind≠15->e.bM=[]
 g0:e.kind=1\/e.kind=2\/e.kind=3\/e.kind=4\/e.kind=5\/e.kind=6\/e.kind=7\/e.kind=8\/e.kind=9\/e.kind=10\/e.kind=11\/e.kind=12\/e.kind=13\/e.kind=14\/e.kind=15\/e.kind=16\/e.kind=17\/e.kind=18\/e.kind=19\/e.kind=20\/e.kind=23\/e.kind=24
def sP{e:ai}(h:oe e):anY e:=by
 have⟨p,bq,D,F,_,aL,bO,cr,fK,hI,_⟩:=h;rcases kinds e.kind with ar|ar|ar|ar|ar|ar|ar|ar|ar|ar|ar|ar|ar|ar|ar|ar|ar|ar|ar|ar|ar|ar|ar
 .rw[ar]at bq;cases bq
 all_goals
  rw[ar]at bq
  simp[Bf]at bq
  subst bq
  dsimp only[sK]at D F aL bO cr fK hI
  refine⟨?_,?_,?_,?_,?_,?_,?_,?_,?_,?_,?_,?_⟩<;>intros<;>first|omega|exact aL rfl|exact bO rfl|exact cr rfl|exact List.eq_nil_of_length_eq_zero (fK rfl)|exact List.eq_nil_of_length_eq_zero (hI rfl)
def Uc(e:ai)(i:Nat):Prop:=∃n B aU,fa aU/\∀y G,(e.k (e.kids.set i y) G).bc=aU (wr n B y)
def Uc.p{e:ai}{i:Nat}{aU:bj->bj}(h:fa aU)(a3:∀y G,(e.k (e.kids.set i y) G).bc=aU y.bc):Uc e i:=⟨0,false,aU,h,λy G=>by rw[a3,Ur]⟩
def akf{e:ai}(aD:oe e){i:Nat}(aN:i<e.kids.length):Uc e i:=by
 have bx:=sP aD;have hK:i<(e.kids.map ai.bc).length:=by rw[ex];exact aN
 have Bp:∀y G,jk (e.k (e.kids.set i y) G)=jk e:=λy G=>rfl;have⟨p,bq,_,_,_,_,_,_,_,_,_,_,_,_,_,_,pp,s1,sZ,_⟩:=aD;rcases bx.g0 with ar|ar|ar|ar|ar|ar|ar|ar|ar|ar|ar|ar|ar|ar|ar|ar|ar|ar|ar|ar|ar|ar
 .have:=bx.g3 I;omega
 .have:=bx.g3 I;omega
 .have:=bx.g3 I;omega
 .have Y:=bx.eg I;have:i=0\/i=1:=I;rcases this with rfl|rfl
  .refine .p (((fa.id.l ([108,101,116,32]++e.ay++[32,61,32])).r [32,105,110,32]).r (e.bn 1).bc) λy G=>?_;rw[GA (t:=e.k (e.kids.set 0 y) G) ar (by rw[oX];omega),qH aN,r0 I af];rfl
  .refine .p (fa.id.l ([108,101,116,32]++e.ay++[32,61,32]++(e.bn 0).bc++[32,105,110,32])) λy G=>?_;rw[GA (t:=e.k (e.kids.set 1 y) G) ar (by rw[oX];omega),qH aN,r0 I af];rfl
 .have Y:=bx.fJ I;have:i=0\/i=1\/i=2:=I;rcases this with rfl|rfl|rfl
  .refine .p (((((fa.id.l [105,102,32]).r [32,116,104,101,110,32]).r (e.bn 1).bc).r [32,101,108,115,101,32]).r (e.bn 2).bc) λy G=>?_;rw[Ic (t:=e.k (e.kids.set 0 y) G) ar (by rw[oX];omega),qH aN,r0 I af,r0 I af]
  .refine .p (((fa.id.l ([105,102,32]++(e.bn 0).bc++[32,116,104,101,110,32])).r [32,101,108,115,101,32]).r (e.bn 2).bc) λy G=>?_;rw[Ic (t:=e.k (e.kids.set 1 y) G) ar (by rw[oX];omega),qH aN,r0 I af,r0 I af]
  .refine .p (fa.id.l ([105,102,32]++(e.bn 0).bc++[32,116,104,101,110,32]++(e.bn 1).bc++[32,101,108,115,101,32])) λy G=>?_;rw[Ic (t:=e.k (e.kids.set 2 y) G) ar (by rw[oX];omega),qH aN,r0 I af,r0 I af]
 .have Y:=bx.eg I;have:i=0\/i=1:=I;rcases this with rfl|rfl
  .refine .p (((fa.id.l [112,114,105,110,116,32]).r [32,105,110,32]).r (e.bn 1).bc) λy G=>?_;rw[OE (t:=e.k (e.kids.set 0 y) G) ar (by rw[oX];omega),qH aN,r0 I af]
  .refine .p (fa.id.l ([112,114,105,110,116,32]++(e.bn 0).bc++[32,105,110,32])) λy G=>?_;rw[OE (t:=e.k (e.kids.set 1 y) G) ar (by rw[oX];omega),qH aN,r0 I af]
 .have Y:=bx.cH I;obtain rfl:i=0:=I;refine .p ((fa.id.l ([102,97,105,108]++g6 (e.types.map al.bc)++[40])).r [41]) λy G=>?_;rw[Hv (t:=e.k (e.kids.set 0 y) G) ar (by rw[oX];omega),qH aN];rfl
 .have Y:=bx.eg I;have:i=0\/i=1:=I;rcases this with rfl|rfl
  .refine⟨max 2 (jk e),false,_,(((fa.id.r [32]).r e.ay).r [32]).r (m5 (e.bn 1) (jk e+1) (e.bn 1).bc),λy G=>?_⟩;rw[GQ (t:=e.k (e.kids.set 0 y) G) ar (by rw[oX];omega),qH aN,r0 I af,Bp,Ql y];rfl
  .refine⟨jk e+1,false,_,fa.id.l (m5 (e.bn 0) (max 2 (jk e)) (e.bn 0).bc++[32]++e.ay++[32]),λy G=>?_⟩;rw[GQ (t:=e.k (e.kids.set 1 y) G) ar (by rw[oX];omega),qH aN,r0 I af,Bp,Ql y];rfl
 .exact .p (((EN _ i hK).l (e.ay++g6 (e.types.map al.bc)++[40])).r [41]) λy G=>by rw[vF (t:=e.k (e.kids.set i y) G) ar,vS];rfl
 .exact .p (((EN _ i hK).l ([99,97,108,108,32]++e.mem++[32,111,102,32]++e.ay++[32,102,111,114,32]++(e.types.map al.bc).headD []++[40])).r [41]) λy G=>by rw[uY (t:=e.k (e.kids.set i y) G) ar,vS];rfl
 .exact .p ((Wz e.cg _ i (by rw[pp ar];exact aN) hK).l (e.ay++g6 (e.types.map al.bc))) λy G=>by rw[sW (t:=e.k (e.kids.set i y) G) ar,vS];rfl
 .have Y:=bx.cH I;obtain rfl:i=0:=I;refine⟨4,true,_,(fa.id.r [46]).r e.mem,λy G=>?_⟩;rw[JN (t:=e.k (e.kids.set 0 y) G) ar (by rw[oX];omega),qH aN,aiS];rfl
 .by_cases br:i=0
  .subst br;refine⟨4,false,_,(fa.id.r [32,119,105,116,104,32]).r (mw e.cg ((e.kids.map ai.bc).drop 1)),λy G=>?_⟩;rw[D6 (t:=e.k (e.kids.set 0 y) G) ar (by rw[oX];omega),qH aN,Ql y,vS,List.drop_set,ev af];rfl
  .have aY:∀s,((e.kids.map ai.bc).set i s).drop 1=((e.kids.map ai.bc).drop 1).set (i - 1) s:=λs=>by rw[List.drop_set,cO I]
   refine .p ((Wz e.cg ((e.kids.map ai.bc).drop 1) (i - 1) (by have:=s1 ar;omega) (by rw[qK];omega)).l (m5 (e.bn 0) 4 (e.bn 0).bc++[32,119,105,116,104,32])) λy G=>?_;rw[D6 (t:=e.k (e.kids.set i y) G) ar (by rw[oX];omega),r0 I br,vS,aY];rfl
 .refine .p (((((EN _ i hK).l [40]).r [41]).l ([99,97,115,101,32]++e.mem)).r ([32,111,102,32]++(e.types.map al.bc).headD [])) λy G=>?_;rw[ys (t:=e.k (e.kids.set i y) G) ar,ev (by rw[oX];omega),vS];simp only[k9];rfl
 .by_cases br:i=0
  .subst br;refine .p (((fa.id.l [109,97,116,99,104,32,40]).r [41,32]).r (pB e.bM ((e.kids.map ai.bc).drop 1))) λy G=>?_;rw[Ao (t:=e.k (e.kids.set 0 y) G) ar (by rw[oX];omega),qH aN,vS,List.drop_set,ev af];rfl
  .have aY:∀s,((e.kids.map ai.bc).set i s).drop 1=((e.kids.map ai.bc).drop 1).set (i - 1) s:=λs=>by rw[List.drop_set,cO I]
   refine .p ((akh e.bM ((e.kids.map ai.bc).drop 1) (i - 1) (by have:=(sZ ar).1;omega) (by rw[qK];omega)).l ([109,97,116,99,104,32,40]++(e.bn 0).bc++[41,32])) λy G=>?_;rw[Ao (t:=e.k (e.kids.set i y) G) ar (by rw[oX];omega),r0 I br,vS,aY];rfl
 .exact .p (((EN _ i hK).l ([97,114,114,97,121]++g6 (e.types.map al.bc)++[40])).r [41]) λy G=>by rw[DI (t:=e.k (e.kids.set i y) G) ar,vS];rfl
 .have Y:=bx.cH I;obtain rfl:i=0:=I;refine .p ((fa.id.l [99,111,117,110,116,40]).r [41]) λy G=>?_;rw[V6 (t:=e.k (e.kids.set 0 y) G) ar (by rw[oX];omega),qH aN]
 .exact .p (((EN _ i hK).l [97,116,40]).r [41]) λy G=>by rw[TK (t:=e.k (e.kids.set i y) G) ar,vS]
 .exact .p (((EN _ i hK).l [97,112,112,101,110,100,40]).r [41]) λy G=>by rw[Tt (t:=e.k (e.kids.set i y) G) ar,vS]
 .have:=bx.g3 I;omega
 .have Y:=bx.cH I;obtain rfl:i=0:=I;refine .p ((fa.id.l [98,121,116,101,40]).r [41]) λy G=>?_;rw[Lp (t:=e.k (e.kids.set 0 y) G) ar (by rw[oX];omega),qH aN]
 .have Y:=bx.cH I;obtain rfl:i=0:=I;refine .p ((fa.id.l [111,114,100,40]).r [41]) λy G=>?_;rw[TD (t:=e.k (e.kids.set 0 y) G) ar (by rw[oX];omega),qH aN]
def Th{s t:bj}(h:ot s=ot t):s=t:=by unfold ot at h;exact List.append_cancel_left (List.append_cancel_right h)
def xF{e b7:ai}{n B}(Y:jk e=jk b7)(aV:n2 e=n2 b7)(h:wr n B e=wr n B b7):e.bc=b7.bc:=by
 unfold wr at h;rw[Y,aV]at h;split at h
 .exact Th h
 .exact h
def Bc{e b7:ai}(ar:e.kind=b7.kind)(hI:e.kind≠8):jk e=jk b7:=by unfold jk;rw[<-ar];simp only[cO hI]
def CT{e b7:ai}(ar:e.kind=b7.kind)(au:e.types=b7.types):n2 e=n2 b7:=by unfold n2;rw[ar,au]
def B9{e:ai}(h:e.kind≠14):n2 e=false:=by unfold n2;simp[h]
def Wv(n B)(e:ai):e.bc.length<=(wr n B e).length/\(wr n B e).length<=e.bc.length+2:=by
 unfold wr;split
 .rw[MT];omega
 .omega
def AJ(e:ai)(ay mem bX fo jO g0 G):(e.w ay mem bX fo jO g0 G).aA=.mk e.kind ay mem e.num 0 (bX.map al.aA) 0 fo 0 (jO.map dI.aA) 0 (g0.map ai.aA) (.mk [] 0 []) 0:=ai.jD _
def A9{e:ai}{ay mem bX fo jO G i}(h:i<e.kids.length):(e.w ay mem bX fo jO e.kids G).bn i=e.bn i:=by rw[Ba h];exact Ba (t:=e.w ay mem bX fo jO e.kids G) h
def WN:∀n,∀b∈j8 n,b.toNat<=57:=by
 intro n;induction n using Nat.strongRecOn with
 |ind n bQ=>
  intro b aB;by_cases br:n=0
  .subst br;rw[j8]at aB;simp at aB
  .rw[Gl I]at aB;rcases l8.1 aB with aB|aB
   .exact bQ (n / 10) I b aB
   .rw[ji.1 aB];have:n % 10<10:=mA _ af;rw[Lj];omega
def amq(n):∀b∈mx n,b.toNat<=57:=by
 intro b aB;unfold mx sl at aB;split at aB
 .split at aB
  .rw[ji.1 aB];decide
  .exact WN _ b aB
 .rcases l8.1 aB with aB|aB
  .rw[ji.1 aB];decide
  .exact WN _ b aB
def aeB(n):mx n≠[]:=by
 unfold mx sl;split
 .split
  .simp
  .rename_i h;rw[Gl I];simp
 .simp
def Nr(gS:bj)(x:bj):∀T:List bj,T≠[]->cU gS (T++[x])=cU gS T++(gS++x)
 |[],h=>absurd rfl h|[a],_=>rfl
 |a::b::l,_=>by have:=Nr gS x (b::l) (by simp);show a++(gS++cU gS ((b::l)++[x]))=a++(gS++cU gS (b::l))++(gS++x);rw[this];simp only[k9]
def GB(gS:bj){x:bj}(M:x≠[])(T:List bj):(cU gS T).length<(cU gS (T++[x])).length:=by
 have:0<x.length:=List.length_pos_iff.2 M;by_cases h:T=[]
 .subst h;exact this
 .rw[Nr gS x T h];simp only[fP];omega
def apj(fs T:List bj)(Y:fs.length=T.length)(n x:bj):(mw fs T).length<(mw (fs++[n]) (T++[x])).length:=by unfold mw Dg;rw[List.zipWith_append Y];have:=GB [44,32] (x:=ox n x) (by simp[ox]) (List.zipWith ox fs T);simp only[fP,List.zipWith_cons_cons,List.zipWith_nil_left];omega
def aiE{e:ai}(h:oe e):e.bc≠[]:=by
 have bx:=sP h;have⟨p,bq,_,_,_,_,_,_,_,_,_,_,_,aq,_,_,pp,s1,sZ,_⟩:=h;rcases bx.g0 with ar|ar|ar|ar|ar|ar|ar|ar|ar|ar|ar|ar|ar|ar|ar|ar|ar|ar|ar|ar|ar|ar
 .rw[Ip ar];exact aeB _
 .rw[Rw ar];split<;>simp
 .rw[Lt ar];exact aiR (aq (.inl ar))
 .rw[GA ar (by have:=bx.eg;omega)];simp
 .rw[Ic ar (by have:=bx.fJ;omega)];simp
 .rw[OE ar (by have:=bx.eg;omega)];simp
 .rw[Hv ar (by have:=bx.cH;omega)];simp
 .rw[GQ ar (by have:=bx.eg;omega)];simp
 .rw[vF ar];simp
 .rw[uY ar];simp
 .rw[sW ar];simp[mw]
 .rw[JN ar (by have:=bx.cH;omega)];simp
 .rw[D6 ar (by have:=s1 ar;omega)];simp
 .rw[ys ar];simp
 .rw[Ao ar (by have:=(sZ ar).1;omega)];simp
 .rw[DI ar];simp
 .rw[V6 ar (by have:=bx.cH;omega)];simp
 .rw[TK ar];simp
 .rw[Tt ar];simp
 .rw[Mr ar];simp
 .rw[Lp ar (by have:=bx.cH;omega)];simp
 .rw[TD ar (by have:=bx.cH;omega)];simp
def tr(p:Bool)(s:bj):bj:=if p then ot s else s
def Z9(p s):(tr p s).length=s.length+(if p then 2 else 0):=by cases p<;>simp[tr,ot]
def Zy{X m s:bj}(h:[40]++(X++m)=[40]++(X++([41]++s)))(hm:∃t,m=32::t):False:=by obtain⟨t,rfl⟩:=hm;have:=List.append_cancel_left (List.append_cancel_left h);cases this
def acX{X et m s:bj}(h:[40]++(X++([32]++(m++([32]++(et++[41])))))=X++([32]++(s++([32]++([40]++(et++[41])))))):False:=by
 have e:([40]++(X++([32]++m)))++[32]=(X++([32]++(s++[32])))++[40]:=by apply @List.append_cancel_right _ _ (et++[41]);simpa only[k9]using h
 have:=List.append_inj_right' e rfl;cases this
def anr{bB a9 m s:bj}{p lO a bz b ep:Bool}(hm:m.length=1)(ap:s.length=1)(bq:lO=true->p=true)(aC:a=true->bz=true)(aB:b=true->ep=true)(h:tr p (tr a bB++[32]++m++[32]++tr b a9)=tr lO (tr bz bB++[32]++s++[32]++tr ep a9)):m=s:=by
 have Y:=fr List.length h;simp only[Z9,fP,lM,md,hm,ap]at Y;have same:∀X et:bj,X++[32]++m++[32]++et=X++[32]++s++[32]++et->m=s:=λX et e=>by have:=List.append_cancel_right e;have:=List.append_cancel_right this;rw[k9,k9]at this;exact List.append_cancel_left (List.append_cancel_left this)
 cases p<;>cases lO<;>cases a<;>cases bz<;>cases b<;>cases ep<;>simp at bq aC aB Y<;>first|omega|skip
 all_goals simp only[tr,Dh,sY,Dy]at h
 all_goals first|exact same _ _ h|exact same _ _ (Th h)|skip
 all_goals exfalso
 .refine acX (X:=bB) (et:=a9) (m:=m) (s:=s) ?_;simpa only[ot,k9]using h
 .refine Zy (X:=bB) (m:=[32]++m++[32]++a9++[41]) (s:=[32]++s++[32]++a9) ?_ ⟨_,rfl⟩;simpa only[ot,k9]using h
 .refine Zy (X:=bB) (m:=[32]++m++[32]++ot a9++[41]) (s:=[32]++s++[32]++ot a9) ?_ ⟨_,rfl⟩;simpa only[ot,k9]using h
 .refine acX (X:=ot bB) (et:=a9) (m:=m) (s:=s) ?_;simpa only[ot,k9]using h
def sC(e b7:ai):Prop:=oe e->oe b7->(∀x∈e.kids,oe x)->∀n B,wr n B e=wr n B b7->e.aA=b7.aA
def aqS{e:ai}(n:Nat)(ar:e.kind=1):sC e (.mk 2 [] [] n 1 [] 1 [] 1 [] 1 [] (.mk [] 1 []) 0):=by
 intro _ _ _ k B h;have D:=xF (by unfold jk;rw[ar];rfl) (by rw[B9 I];rfl) h;rw[Ip ar,Rw rfl]at D;have aB:=amq e.num;rw[D]at aB;split at aB
 .exact absurd (aB 102 (by simp)) af
 .exact absurd (aB 116 (by simp)) af
theorem aq2{e x:ai}(g:Nat)(M:x.aA=e.aA):sC e (.mk 23 [] [] 0 1 [] 1 [] 1 [] g [x] (.mk [] 1 []) 0):=by
 intro _ _ _ k B h;have D:=(Wv k B e).2;have F:=(Wv k B (.mk 23 [] [] 0 1 [] 1 [] 1 [] g [x] (.mk [] 1 []) 0)).1;rw[<-h]at F;rw[Lp (t:=.mk 23 [] [] 0 1 [] 1 [] 1 [] g [x] (.mk [] 1 []) 0) rfl (by show 0<1;decide)]at F;have aq:x.bc=e.bc:=by rw[<-x.tA,M,e.tA]
 have aL:(ai.mk 23 [] [] 0 1 [] 1 [] 1 [] g [x] (.mk [] 1 []) 0).bn 0=x:=rfl;rw[aL,aq]at F;simp only[List.length_append,List.length_cons,List.length_nil]at F;omega
def akR{e:ai}(s G)(hI:e.kind≠8)(aQ:e.kind=3\/e.kind=20\/e.ay≠[]):sC e (e.w s e.mem e.types e.cg e.bM e.kids G):=by
 intro aD _ _ k B h;have bx:=sP aD;have D:=xF (e:=e) (b7:=e.w s e.mem e.types e.cg e.bM e.kids G) (Bc rfl hI) (CT rfl rfl) h;have ar:e.kind=3\/e.kind=4\/e.kind=9\/e.kind=10\/e.kind=11\/e.kind=20:=by
  rcases aQ with h|h|h
  .omega
  .omega
  .have:=bx.nQ;by_cases q:e.kind=3\/e.kind=4\/e.kind=9\/e.kind=10\/e.kind=11\/e.kind=20
   .exact q
   .exact absurd (bx.nQ I I hI I I I I) h
 have jT:e.ay=s->e.aA=(e.w s e.mem e.types e.cg e.bM e.kids G).aA:=λq=>by rw[AJ,ai.jD,q]
 apply jT;rcases ar with ar|ar|ar|ar|ar|ar
 .rw[Lt ar,Lt (t:=e.w s e.mem e.types e.cg e.bM e.kids G) ar]at D;exact D
 .have Y:=bx.eg I;rw[GA ar I,GA (t:=e.w s e.mem e.types e.cg e.bM e.kids G) ar (by show 1<e.kids.length;omega),A9 I,A9 I]at D;exact(((((fa.id.l [108,101,116,32]).r [32,61,32]).r (e.bn 0).bc).r [32,105,110,32]).r (e.bn 1).bc).inj D
 .rw[vF ar,vF (t:=e.w s e.mem e.types e.cg e.bM e.kids G) ar]at D;exact((((fa.id.r (g6 (e.types.map al.bc))).r [40]).r (lI (e.kids.map ai.bc))).r [41]).inj D
 .rw[uY ar,uY (t:=e.w s e.mem e.types e.cg e.bM e.kids G) ar]at D;exact((((((fa.id.l ([99,97,108,108,32]++e.mem++[32,111,102,32])).r [32,102,111,114,32]).r ((e.types.map al.bc).headD [])).r [40]).r (lI (e.kids.map ai.bc))).r [41]).inj D
 .rw[sW ar,sW (t:=e.w s e.mem e.types e.cg e.bM e.kids G) ar]at D;exact((fa.id.r (g6 (e.types.map al.bc))).r (mw e.cg (e.kids.map ai.bc))).inj D
 .rw[Mr ar,Mr (t:=e.w s e.mem e.types e.cg e.bM e.kids G) ar]at D;exact((((fa.id.l [97,118,97,105,108,97,98,108,101,40]).r [44,32]).r (mx e.num)).r [41]).inj D
def aay{s:bj}(h:s∈DM):s=[61,61]\/s.length=1:=by unfold DM at h;simp only[hS,Ax,Cm]at h;rcases h with h|h|h|h|h|h|h<;>subst h<;>simp
def YV(n B)(e:ai)(h:n2 e=false):wr n B e=tr (decide (jk e<n)) e.bc:=by unfold wr tr;rw[h];simp
def Nu(n s)(e:ai):m5 e n s=tr (decide (jk e<n)) s:=by unfold m5 tr;simp
theorem aeX{e b7:ai}(D:oe e)(F:oe b7)(ar:e.kind=8)(zj:b7.kind=8)(br:e.bn 0=b7.bn 0)(sm:e.bn 1=b7.bn 1)(Y:jk e<=jk b7){n B}(h:wr n B e=wr n B b7):e.ay=b7.ay:=by
 have cH:=(sP D).eg (by omega);have cq:=(sP F).eg (by omega);have er:e.ay∈DM:=by obtain⟨p,_,_,_,_,_,_,_,_,_,_,_,_,_,q,_⟩:=D;exact q ar
 have f8:b7.ay∈DM:=by obtain⟨p,_,_,_,_,_,_,_,_,_,_,_,_,_,q,_⟩:=F;exact q zj
 rw[YV _ _ _ (B9 (by omega)),YV _ _ _ (B9 (by omega)),GQ ar (by omega),GQ zj (by omega),Nu,Nu,Nu,Nu,<-br,<-sm]at h;have len:=congrArg List.length h;simp only[Z9,List.length_append,List.length_cons,List.length_nil]at len;rcases aay er with bC|bC<;>rcases aay f8 with aX|aX
 .rw[bC,aX]
 .rw[bC,aX]at len;exfalso;simp only[List.length_cons,List.length_nil]at len;split at len<;>split at len<;>split at len<;>split at len<;>split at len<;>split at len<;>omega
 .rw[bC,aX]at len;exfalso;simp only[List.length_cons,List.length_nil]at len;split at len<;>split at len<;>split at len<;>split at len<;>split at len<;>split at len<;>omega
 .refine anr bC aX ?_ ?_ ?_ h
  .intro h;have:=of_decide_eq_true h;exact decide_eq_true (by omega)
  .intro h;have:=of_decide_eq_true h;exact decide_eq_true (by omega)
  .intro h;have:=of_decide_eq_true h;exact decide_eq_true (by omega)
def aqe{e:ai}(s G)(ar:e.kind=8):sC e (e.w s e.mem e.types e.cg e.bM e.kids G):=by
 intro D F _ n B h;have Y:=(sP D).eg I;have e5:(e.w s e.mem e.types e.cg e.bM e.kids G).bn 0=e.bn 0:=A9 I;have cT:(e.w s e.mem e.types e.cg e.bM e.kids G).bn 1=e.bn 1:=A9 I;have:e.ay=s:=by
  rcases Nat.le_total (jk e) (jk (e.w s e.mem e.types e.cg e.bM e.kids G))with q|q
  .exact aeX D F ar ar e5.symm cT.symm q h
  .exact(aeX F D ar ar e5 cT q h.symm).symm
 rw[AJ,ai.jD,this]
def I4{α:Type}{l:List α}(h:0<l.length):l.set 0 l[0]=l:=List.set_getElem_self h
def AL{e:ai}(h:oe e):(e.kind=11->e.cg.length=e.kids.length)/\(e.kind=13->e.cg.length+1=e.kids.length)/\(e.kind=15->e.bM.length+1=e.kids.length):=by have⟨p,_,_,_,_,_,_,_,_,_,_,_,_,_,_,_,pp,s1,sZ,_⟩:=h;exact⟨pp,λq=>(s1 q).2,λq=>(sZ q).1⟩
def Y0{e:ai}(h:oe e):∀t∈e.types,t.kC=true:=by have⟨p,_,_,_,h,_⟩:=h;exact ub.1 h
def aju{e:ai}(s fo G)(ap:e.kind≠12->e.mem=[]->s=[])(hm:fo=e.cg\/∃z,z.length<1000/\fo=e.cg.set 0 z):sC e (e.w e.ay s e.types fo e.bM e.kids G):=by
 intro aD l9 _ n B h;have bx:=sP aD;have⟨aho,af5,_⟩:=AL aD;have jT:s=e.mem->fo=e.cg->e.aA=(e.w e.ay s e.types fo e.bM e.kids G).aA:=λq eP=>by rw[AJ,ai.jD,q,eP]
 have afl:e.cg=[]->fo=e.cg:=λq=>by
  rcases hm with hm|⟨z,-,hm⟩
  .exact hm
  .rw[hm,q];rfl
 by_cases eZ:e.kind=10\/e.kind=12\/e.kind=14
 .have D:=xF (e:=e) (b7:=e.w e.ay s e.types fo e.bM e.kids G) (Bc rfl I) (CT rfl rfl) h;refine jT (Eq.symm ?_) (afl (bx.jb I I));rcases eZ with ar|ar|ar
  .rw[uY ar,uY (t:=e.w e.ay s e.types fo e.bM e.kids G) ar]at D;exact((((((((fa.id.l [99,97,108,108,32]).r [32,111,102,32]).r e.ay).r [32,102,111,114,32]).r ((e.types.map al.bc).headD [])).r [40]).r (lI (e.kids.map ai.bc))).r [41]).inj D
  .have Y:=bx.cH I;rw[JN ar I,JN (t:=e.w e.ay s e.types fo e.bM e.kids G) ar (by show 0<e.kids.length;omega),A9 I]at D;exact List.append_cancel_left D
  .rw[ys ar,ys (t:=e.w e.ay s e.types fo e.bM e.kids G) ar]at D;exact((((fa.id.l [99,97,115,101,32]).r (if 0<e.kids.length then [40]++lI (e.kids.map ai.bc)++[41]else [])).r [32,111,102,32]).r ((e.types.map al.bc).headD [])).inj D
 .have adt:e.mem=[]:=bx.tm I I I;refine jT ((ap I adt).trans adt.symm) ?_;by_cases aw:e.cg=[]
  .exact afl aw
  have aw:0<e.cg.length:=List.length_pos_iff.2 aw;rcases hm with hm|⟨z,-,hm⟩
  .exact hm
  have ar:e.kind=11\/e.kind=13:=by
   by_cases q:e.kind=11\/e.kind=13
   .exact q
   .have:=bx.jb I I;rw[this]at aw;simp at aw
  have D:=xF (e:=e) (b7:=e.w e.ay s e.types fo e.bM e.kids G) (Bc rfl I) (CT rfl rfl) h;have:e.cg[0]=z:=by
   rcases ar with ar|ar
   .rw[sW ar,sW (t:=e.w e.ay s e.types fo e.bM e.kids G) ar]at D;have F:=List.append_cancel_left D;refine(Yv e.cg (e.kids.map ai.bc) 0 aw (by rw[ex,<-aho ar];exact aw)).inj ?_;rw[I4 aw];refine F.trans ?_;show mw fo _=_;rw[hm];rfl
   .have Y:=af5 ar;rw[D6 ar I,D6 (t:=e.w e.ay s e.types fo e.bM e.kids G) ar (by show 0<e.kids.length;omega),A9 I]at D;have F:=List.append_cancel_left D;refine(Yv e.cg ((e.kids.map ai.bc).drop 1) 0 aw (by rw[qK,ex];omega)).inj ?_;rw[I4 aw];refine F.trans ?_;show mw fo _=_;rw[hm];rfl
  rw[hm,<-this,I4 aw]
def Ng{bX:List al}(h:0<bX.length){t:al}(e:g6 (bX.map al.bc)=g6 ((bX.set 0 t).map al.bc)):bX[0].bc=t.bc:=by refine(acn (bX.map al.bc) 0 (by rw[ex];exact h)).inj ?_;rw[<-List.map_set,<-List.map_set,I4 h];exact e
def anx{e b7:ai}{n B}{u fY}(D:e.bc=99::u)(F:b7.bc=99::fY)(h:wr n B e=wr n B b7):e.bc=b7.bc:=by
 unfold wr at h;split at h<;>split at h
 .exact Th h
 .rw[F]at h;cases h
 .rw[D]at h;cases h
 .exact h
def aq6{e:ai}(t G)(br:0<e.types.length):sC e (e.w e.ay e.mem (e.types.set 0 t) e.cg e.bM e.kids G):=by
 intro aD l9 _ n B h;have bx:=sP aD;have f1:=Y0 aD _ (fQ br);have f2:t.kC=true:=Y0 l9 t (by show t∈e.types.set 0 t;exact List.mem_set br t);have ar:e.kind=7\/e.kind=9\/e.kind=10\/e.kind=11\/e.kind=14\/e.kind=16:=by
  by_cases q:e.kind=7\/e.kind=9\/e.kind=10\/e.kind=11\/e.kind=14\/e.kind=16
  .exact q
  .have:=bx.t0 I I I I I I;omega
 have jT:e.types[0].bc=t.bc->e.aA=(e.w e.ay e.mem (e.types.set 0 t) e.cg e.bM e.kids G).aA:=λq=>by rw[AJ,ai.jD,List.map_set,<-EU f1 f2 q,<-List.map_set,I4 br]
 apply jT;have aY:∀l:List al,(h:0<l.length)->(l.map al.bc).headD []=l[0].bc/\((l.set 0 t).map al.bc).headD []=t.bc:=by
  intro l h;cases l with
  |nil=>simp at h|cons a l=>exact⟨rfl,rfl⟩
 have⟨qd,g1⟩:=aY _ br;by_cases II:e.kind=14
 .have t1:=ys II;have j5:=ys (t:=e.w e.ay e.mem (e.types.set 0 t) e.cg e.bM e.kids G) II;have D:=anx (e:=e) (b7:=e.w e.ay e.mem (e.types.set 0 t) e.cg e.bM e.kids G) t1 j5 h;rw[t1,j5]at D;have F:=List.append_cancel_left D;rw[qd]at F;exact F.trans g1
 have D:=xF (e:=e) (b7:=e.w e.ay e.mem (e.types.set 0 t) e.cg e.bM e.kids G) (Bc rfl I) (by rw[B9 II];exact(B9 (e:=e.w e.ay e.mem (e.types.set 0 t) e.cg e.bM e.kids G) II).symm) h;rcases ar with ar|ar|ar|ar|ar|ar
 .have Y:=bx.cH I;rw[Hv ar I,Hv (t:=e.w e.ay e.mem (e.types.set 0 t) e.cg e.bM e.kids G) ar (by show 0<e.kids.length;omega),A9 I]at D;exact Ng br ((((fa.id.l [102,97,105,108]).r [40]).r (e.bn 0).bc|>.r [41]).inj D)
 .rw[vF ar,vF (t:=e.w e.ay e.mem (e.types.set 0 t) e.cg e.bM e.kids G) ar]at D;exact Ng br ((((fa.id.l e.ay).r [40]).r (lI (e.kids.map ai.bc))|>.r [41]).inj D)
 .rw[uY ar,uY (t:=e.w e.ay e.mem (e.types.set 0 t) e.cg e.bM e.kids G) ar]at D;have F:=((((fa.id.l ([99,97,108,108,32]++e.mem++[32,111,102,32]++e.ay++[32,102,111,114,32])).r [40]).r (lI (e.kids.map ai.bc))).r [41]).inj D;rw[qd]at F;exact F.trans g1
 .rw[sW ar,sW (t:=e.w e.ay e.mem (e.types.set 0 t) e.cg e.bM e.kids G) ar]at D;exact Ng br (((fa.id.l e.ay).r (mw e.cg (e.kids.map ai.bc))).inj D)
 .exact absurd ar II
 .rw[DI ar,DI (t:=e.w e.ay e.mem (e.types.set 0 t) e.cg e.bM e.kids G) ar]at D;exact Ng br ((((fa.id.l [97,114,114,97,121]).r [40]).r (lI (e.kids.map ai.bc))|>.r [41]).inj D)
def aog{e:ai}(t G)(br:e.types=[]):sC e (e.w e.ay e.mem [t] e.cg e.bM e.kids G):=by
 intro aD l9 _ n B h;have bx:=sP aD;have Gk:=sP l9;exfalso;have ar:e.kind=9\/e.kind=11:=by
  have bk:e.types.length=0:=by rw[br];rfl
  by_cases q:e.kind=9\/e.kind=11
  .exact q
  by_cases aX:e.kind=7\/e.kind=10\/e.kind=14\/e.kind=16
  .have:=bx.t1 aX;omega
  .have:([t]:List al).length=0:=Gk.t0 (by show e.kind≠7;omega) (by show e.kind≠9;omega) (by show e.kind≠10;omega) (by show e.kind≠11;omega) (by show e.kind≠14;omega) (by show e.kind≠16;omega);simp at this
 have D:=xF (e:=e) (b7:=e.w e.ay e.mem [t] e.cg e.bM e.kids G) (Bc rfl I) (by rw[B9 I];exact(B9 (e:=e.w e.ay e.mem [t] e.cg e.bM e.kids G) (by show e.kind≠14;omega)).symm) h;have aB:g6 (([t]:List al).map al.bc)=[91]++t.bc++[93]:=rfl;have aq:=fr List.length D;rcases ar with ar|ar
 .rw[vF ar,vF (t:=e.w e.ay e.mem [t] e.cg e.bM e.kids G) ar,br]at aq;simp only[fP]at aq;have:(g6 (([]:List al).map al.bc)).length=(g6 (([t]:List al).map al.bc)).length:=by have a3:(e.w e.ay e.mem [t] e.cg e.bM e.kids G).types=[t]:=rfl;have cW:(e.w e.ay e.mem [t] e.cg e.bM e.kids G).ay=e.ay:=rfl;have g5:(e.w e.ay e.mem [t] e.cg e.bM e.kids G).kids=e.kids:=rfl;rw[a3,cW,g5]at aq;omega
  rw[aB]at this;simp[g6]at this
 .rw[sW ar,sW (t:=e.w e.ay e.mem [t] e.cg e.bM e.kids G) ar,br]at aq;simp only[fP]at aq;have:(g6 (([]:List al).map al.bc)).length=(g6 (([t]:List al).map al.bc)).length:=by have a3:(e.w e.ay e.mem [t] e.cg e.bM e.kids G).types=[t]:=rfl;have cW:(e.w e.ay e.mem [t] e.cg e.bM e.kids G).ay=e.ay:=rfl;have g5:(e.w e.ay e.mem [t] e.cg e.bM e.kids G).kids=e.kids:=rfl;have mm:(e.w e.ay e.mem [t] e.cg e.bM e.kids G).cg=e.cg:=rfl;rw[a3,cW,g5,mm]at aq;omega
  rw[aB]at this;simp[g6]at this
end Go.Tx
