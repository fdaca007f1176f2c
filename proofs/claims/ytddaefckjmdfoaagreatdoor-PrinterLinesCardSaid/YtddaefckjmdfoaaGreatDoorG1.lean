/- Part of the proof of PrinterLines. -/
import Derived.Test.YtddaefckjmdfoaaGreatDoorG0
set_option linter.all false
namespace Go.Tx
open Go Go.Ev
set_option maxRecDepth 100000
set_option maxHeartbeats 8000000
attribute [local irreducible] jJ mb bj lQ kS nj ie fe
section
variable{C:Nat->cG}{ext:Nat->Option e0}{ab:fD}(Q:Env C ext ab)
include Q
abbrev Nc(a b:bM)(n:Nat):ai:=ai.mk (a++[46]++b) 108 (List.replicate n (ai.mk [] 1 []))
omit Q in
def abM(a b)(n):(Nc a b n).row=[.str (a++[46]++b),.aQ 108 (List.replicate n [.str [],.aQ 1 []])]:=by rw[ai.dF];simp only[ai.l,ai.aR,ai.g,List.map_replicate,ai.dF,je]
omit Q in
def Yo{l n a b}(h:∀t∈l,yn t)(aD:a.length<=100)(av:b.length<=100)(aB:n<=1):∀t∈l++[Nc a b n],yn t:=λt al=>by
 rcases jD.1 al with al|al
 .exact h t al
 .rw[iF.1 al];exact⟨by simp only[ai.aR,gP,EQ];omega,by simpa [ai.l] using aB,by simp [ai.aR]⟩
def adk(W:List cV)(lo:∀x∈W,iC x)(pd:W.length<=1)(ig gl)(M6:bM)(jn:List bM)(aqM:jn.length<1000)(jj):iS C 111 [.J (.aQ ig (W.map cV.cells)),.J (.str M6),.J (.aQ gl (jn.map cu)),.J (.bool jj)] λv=>∃(g:Nat)(l:List ai),v=.aQ g (l.map ai.row)/\l.length<1000/\∀t∈l,yn t:=by
 refine Q.z 111 (ia [(0,[6,7,8,12,13,14,15,16,17,18,19,20,21,22,23],[⟨false,5,0,900,54,2⟩],[900]),(2,[7,17,18],[⟨false,5,0,900,54,2⟩],[11,900]),(4,[8,22,23],[⟨false,5,0,900,54,2⟩],[11,900])]) rfl rfl ?_;have pD:(W.map cV.cells).length=W.length:=bW;refine aG ?_;refine gG cV.cells W 11 (λ_ (_:List ai)=>[(5,.bQ 900)]) (λ_ l=>[(900,.arr 54 2 (l.map ai.row) true)]) (λd l=>l.length<=d.length*20/\∀t∈l,yn t) ⟨[],⟨by simp,λx I=>by cases I⟩,by kernel_rfl⟩ (λd l y r ba ar aV ad bo bC=>?_) (λl ba bo=>?_)
 .have aJ:d.length=0:=by rw[ar] at pd;simp at pd;omega
  have ap:=lo y (by simp [ar]);have dl:(y.ea.map ec.row).length=y.ea.length:=bW;have cB:(y.dW.map eg.row).length=y.dW.length:=bW;have df:=ap.df;have cH:=ap.cH;have EE:l.length=0:=by have:=bo.1;omega
  refine dx ?_;refine f4 (cC (λB=>?_) (λB=>?_));case' refine_1.refine_2=>refine aG ?_;refine aK (GD Q gl jn y.aR Y) ?_;rintro v A ⟨rfl,b,rfl⟩;refine aG ?_;refine f4 (eD (λF=>?_) (λF=>?_))
  case' refine_1.refine_2.refine_2=>refine aG ?_;exact bC l _ _ ⟨by simp [EE],bo.2⟩ (by kernel_rfl)
  all_goals
   refine aG ?_
   refine gG ec.row y.ea 16 (λ_ (_:List ai)=>[(5,.bQ 900)]) (λ_ l=>[(11,.box 34 9 (.cc y.cells)),(900,.arr 54 2 (l.map ai.row) true)]) (λd l=>l.length<=d.length/\∀t∈l,yn t) ⟨l,⟨by simp [EE],bo.2⟩,by kernel_rfl⟩ (λd2 cH s cl fJ eu fv eM dp eG=>?_) (λcH fJ dp=>?_)
   .have fZ:d2.length<y.ea.length:=Y;have ak:=ap.dr s (by simp [eu]);have dV:(s.params.map cu).length=s.params.length:=bW;have gO:(cH.map ai.row).length=cH.length:=bW;have aV:=fv;have ad:=eM;unfold ec.row at ad;have eY:=ak.pl;have ex:=ak.aR;have kd:=ap.aR;have rT:=dp.1
    (conv=>whnf)
    repeat' (first|refine .yes (cZ.2 aV) ?_|refine⟨aV,⟨_,ad,?_⟩⟩|refine b9 ?_|refine aN ?_|refine s2 ?_ ?_<;>intros|fail)<;>(conv=>whnf)
    all_goals first|exact eG cH _ [_,_,_] ⟨by simp;omega,dp.2⟩ (by kernel_rfl)|exact eG (cH++[Nc y.aR s.aR (s.params.map cu).length]) _ _ ⟨by simp;omega,Yo dp.2 Y Y Y⟩ (by rw[qn,y6,abM];kernel_rfl)
   .have bq:=dp.1;have aV:True:=trivial;refine de ?_;refine gG eg.row y.dW 21 (λ_ (_:List ai)=>[(5,.bQ 900)]) (λ_ l=>[(11,.box 34 9 (.cc y.cells)),(900,.arr 54 2 (l.map ai.row) true)]) (λd l=>l.length<=y.ea.length+d.length/\∀t∈l,yn t) ⟨cH,⟨by simpa using bq,dp.2⟩,by kernel_rfl⟩ (λd3 dh s hD AT tr Hr wl nc qr=>?_) (λdh AT nc=>?_)
    .have D9:d3.length<y.dW.length:=Y;have ak:=ap.c3 s (by simp [tr]);have dV:(s.params.map cu).length=s.params.length:=bW;have gO:(dh.map ai.row).length=dh.length:=bW;have aV:=Hr;have ad:=wl;unfold eg.row at ad;have eY:=ak.pl;have ex:=ak.aR;have kd:=ap.aR;have rT:=nc.1
     (conv=>whnf)
     repeat' (first|refine .yes (cZ.2 aV) ?_|refine⟨aV,⟨_,ad,?_⟩⟩|refine b9 ?_|refine aN ?_|refine s2 ?_ ?_<;>intros|fail)<;>(conv=>whnf)
     all_goals first|exact qr dh _ [_,_,_] ⟨by simp;omega,nc.2⟩ (by kernel_rfl)|exact qr (dh++[Nc y.aR s.aR (s.params.map cu).length]) _ _ ⟨by simp;omega,Yo nc.2 Y Y Y⟩ (by rw[qn,y6,abM];kernel_rfl)
    .have aS:=nc.1;refine de ?_;exact bC dh _ _ ⟨by simp;omega,nc.2⟩ (by kernel_rfl)
 .refine de ?_;exact⟨rfl,_,l,rfl,by have:=bo.1;have F:W.length*20<=1*20:=p0 _ pd;omega,bo.2⟩
end
section
variable{C:Nat->cG}{ext:Nat->Option e0}{ab:fD}(Q:Env C ext ab)
include Q
structure rY where
 ig:Nat
 W:List cV
 cm:bM
 gl:Nat
 jn:List bM
 gZ:Nat
 G:List cX
structure FG(N:rY):Prop where
 dg:N.W.length<=1
 cf:∀x∈N.W,iC x
 cm:N.cm.length<=100
 OD:N.jn.length<100
 NH:∀s∈N.jn,s.length<=100
 gl:N.G.length<=1
 ge:∀x∈N.G,mY x
 m:gV 104 N.gZ N.G
abbrev iA(N:rY)(left next:Nat):eS:=.box 116 7 (.bE [.bH 1001 0,.J (.aQ N.ig (N.W.map cV.cells)),.J (.str N.cm),.J (.aQ N.gl (N.jn.map cu)),.J (.aQ N.gZ (N.G.map cX.row)),.J (.int 3 left),.J (.int 3 next)])
def Made(N:rY)(g:Nat)(ab:fD)(lT:Nat)(V:b2->Prop)(v:b2)(A:be):Prop:=V v/\∃a left next,a<=ab.length/\next<=lT/\A=[(1000,iA N left next),(1001,dH g ab a)]
omit Q in
def q7:GE 1 aj.nil:=⟨⟨ag,ag,ag,ag,ag,λ_ h=>by(cases h),.inl rfl,ag,λ_ h=>by(cases h),.inl rfl,ag,λ_ h=>by(cases h),.inl rfl,ag,.inl rfl,rfl⟩,λ_ h=>by(cases h)⟩
abbrev X3:dI:=⟨0,false,false,[],1,[],1,[],.mk [] 1 [],false,aj.nil⟩
omit Q in
def anJ:mV X3:=⟨ag,ag,ag,λ_ h=>by(cases h),.inl rfl,ag,λ_ h=>by(cases h),.inl rfl,GT.nil ag ag ag,q7.mono ag⟩
def MR(W:List cV)(lo:∀x∈W,iC x)(pd:W.length<=1)(ig)(s:bM)(ak:s.length<100000):iS C 218 [.J (.aQ ig (W.map cV.cells)),.J (.str s)] λv=>∃x b,v=.eJ [.agg (ec.row x),.bool b]/\FJ x:=by
 refine Q.z 218 (ia [(0,[7,8,12,13,14,15,16,17],[],[4]),(2,[8,16,17],[],[10,4])]) rfl rfl ?_;have pD:(W.map cV.cells).length=W.length:=bW;refine aG ?_;refine aK (Md Q s ak) ?_;rintro v A ⟨rfl,eK,s2,ok,rfl⟩;refine aG ?_;refine gG cV.cells W 11 (λ_ (_:Unit)=>[]) (λ_ _=>[(4,.box 44 6 (.bE [.J (.int 3 0),.J (.bool false),.J (.bool false),.J (.str []),.bT,.bT]))]) (λ_ _=>True) ⟨(),trivial,by kernel_rfl⟩ (λd l y r ba ar aV ad bo bC=>?_) (λl ba bo=>?_)
 .have aJ:d.length=0:=by rw[ar] at pd;simp at pd;omega
  have ap:=lo y (by simp [ar]);have dl:(y.ea.map ec.row).length=y.ea.length:=bW;have df:=ap.df;refine dx ?_;refine gG ec.row y.ea 15 (λ_ (_:Unit)=>[]) (λ_ _=>[(10,.box 34 9 (.cc y.cells)),(4,.box 44 6 (.bE [.J (.int 3 0),.J (.bool false),.J (.bool false),.J (.str []),.bT,.bT]))]) (λ_ _=>True) ⟨(),trivial,by kernel_rfl⟩ (λd2 cH x cl fJ eu fv eM dp eG=>?_) (λcH fJ dp=>?_)
  .have fZ:d2.length<y.ea.length:=Y;have I:=ap.dr x (by simp [eu]);have aV:=fv;have ad:=eM;unfold ec.row at ad
   (conv=>whnf)
   repeat' ((first|refine .yes (cZ.2 aV) ?_|refine⟨aV,⟨_,ad,?_⟩⟩|refine b9 ?_|((with_reducible first|apply eT|apply iN|apply fK|apply cC|apply f4|apply kC|apply kB|apply eD)<;>intros))<;>(conv=>whnf))
   all_goals first|exact eG () _ _ trivial (by kernel_rfl)|exact⟨rfl,x,true,rfl,I⟩
  .refine de ?_;exact bC () _ _ trivial (by kernel_rfl)
 .refine de ?_;exact⟨rfl,⟨0,false,false,[],1,[],1,[]⟩,false,rfl,⟨ag,ag,ag,λ_ h=>by(cases h),.inl rfl,ag,λ_ h=>by(cases h),.inl rfl⟩⟩
def NZ(W:List cV)(lo:∀x∈W,iC x)(pd:W.length<=1)(ig)(s:bM)(ak:s.length<100000):iS C 217 [.J (.aQ ig (W.map cV.cells)),.J (.str s)] λv=>∃x b,v=.eJ [.agg (eg.row x),.bool b]/\yB x:=by
 refine Q.z 217 (ia [(0,[7,8,12,13,14,15,16,17],[],[4]),(2,[8,16,17],[],[10,4])]) rfl rfl ?_;have pD:(W.map cV.cells).length=W.length:=bW;refine aG ?_;refine aK (Md Q s ak) ?_;rintro v A ⟨rfl,eK,s2,ok,rfl⟩;refine aG ?_;refine gG cV.cells W 11 (λ_ (_:Unit)=>[]) (λ_ _=>[(4,.box 47 6 (.bE [.J (.int 3 0),.J (.bool false),.J (.bool false),.J (.str []),.bT,.bT]))]) (λ_ _=>True) ⟨(),trivial,by kernel_rfl⟩ (λd l y r ba ar aV ad bo bC=>?_) (λl ba bo=>?_)
 .have aJ:d.length=0:=by rw[ar] at pd;simp at pd;omega
  have ap:=lo y (by simp [ar]);have dl:(y.dW.map eg.row).length=y.dW.length:=bW;have df:=ap.cH;refine dx ?_;refine gG eg.row y.dW 15 (λ_ (_:Unit)=>[]) (λ_ _=>[(10,.box 34 9 (.cc y.cells)),(4,.box 47 6 (.bE [.J (.int 3 0),.J (.bool false),.J (.bool false),.J (.str []),.bT,.bT]))]) (λ_ _=>True) ⟨(),trivial,by kernel_rfl⟩ (λd2 cH x cl fJ eu fv eM dp eG=>?_) (λcH fJ dp=>?_)
  .have fZ:d2.length<y.dW.length:=Y;have I:=ap.c3 x (by simp [eu]);have aV:=fv;have ad:=eM;unfold eg.row at ad
   (conv=>whnf)
   repeat' ((first|refine .yes (cZ.2 aV) ?_|refine⟨aV,⟨_,ad,?_⟩⟩|refine b9 ?_|((with_reducible first|apply eT|apply iN|apply fK|apply cC|apply f4|apply kC|apply kB|apply eD)<;>intros))<;>(conv=>whnf))
   all_goals first|exact eG () _ _ trivial (by kernel_rfl)|exact⟨rfl,x,true,rfl,I⟩
  .refine de ?_;exact bC () _ _ trivial (by kernel_rfl)
 .refine de ?_;exact⟨rfl,⟨0,false,false,[],1,[],1,[]⟩,false,rfl,⟨ag,ag,ag,λ_ h=>by(cases h),.inl rfl,ag,λ_ h=>by(cases h),.inl rfl⟩⟩
def afy(W:List cV)(lo:∀x∈W,iC x)(pd:W.length<=1)(ig)(s:bM)(ak:s.length<100000):iS C 226 [.J (.aQ ig (W.map cV.cells)),.J (.str s)] λv=>∃x b,v=.eJ [.agg (dI.row x),.bool b]/\mV x:=by
 refine Q.z 226 (ia [(0,[7,8,12,13,14,15,16,17],[],[4]),(2,[8,16,17],[],[10,4])]) rfl rfl ?_;have pD:(W.map cV.cells).length=W.length:=bW;refine aG ?_;refine aK (Md Q s ak) ?_;rintro v A ⟨rfl,eK,s2,ok,rfl⟩;refine aG ?_;refine gG cV.cells W 11 (λ_ (_:Unit)=>[]) (λ_ _=>[(4,.box 109 20 (.bE [.J (.int 3 0),.J (.bool false),.J (.bool false),.J (.str []),.bT,.bT,.J (.str []),.bT,.J (.bool false),.J (.int 3 0),.J (.str []),.J (.str []),.J (.int 3 0),.bT,.bT,.bT,.bT,.J (.str []),.bT,.J (.int 3 0)]))]) (λ_ _=>True) ⟨(),trivial,by kernel_rfl⟩ (λd l y r ba ar aV ad bo bC=>?_) (λl ba bo=>?_)
 .have aJ:d.length=0:=by rw[ar] at pd;simp at pd;omega
  have ap:=lo y (by simp [ar]);have dl:(y.funcs.map dI.row).length=y.funcs.length:=bW;have df:=ap.fP;refine dx ?_;refine gG dI.row y.funcs 15 (λ_ (_:Unit)=>[]) (λ_ _=>[(10,.box 34 9 (.cc y.cells)),(4,.box 109 20 (.bE [.J (.int 3 0),.J (.bool false),.J (.bool false),.J (.str []),.bT,.bT,.J (.str []),.bT,.J (.bool false),.J (.int 3 0),.J (.str []),.J (.str []),.J (.int 3 0),.bT,.bT,.bT,.bT,.J (.str []),.bT,.J (.int 3 0)]))]) (λ_ _=>True) ⟨(),trivial,by kernel_rfl⟩ (λd2 cH x cl fJ eu fv eM dp eG=>?_) (λcH fJ dp=>?_)
  .have fZ:d2.length<y.funcs.length:=Y;have I:=ap.f9 x (by simp [eu]);have aV:=fv;have ad:=eM;unfold dI.row at ad;simp only[jF,kv,aj.dF] at ad
   (conv=>whnf)
   repeat' ((first|refine .yes (cZ.2 aV) ?_|refine⟨aV,⟨_,ad,?_⟩⟩|refine b9 ?_|((with_reducible first|apply eT|apply iN|apply fK|apply cC|apply f4|apply kC|apply kB|apply eD)<;>intros))<;>(conv=>whnf))
   all_goals first|exact eG () _ _ trivial (by kernel_rfl)|exact⟨rfl,x,true,rfl,I⟩
  .refine de ?_;exact bC () _ _ trivial (by kernel_rfl)
 .refine de ?_;exact⟨rfl,X3,false,rfl,anJ⟩
end
def Br{X}{α:Type}{aF:α->di}:∀{l:List α},(∀x∈l,dw X (aF x)=false)->hy X (l.map aF)=false
 |[],_=>rfl
 |a::l,h=>by rw[fA,hy,h a qg,Br λx I=>h x (tX _ I)];rfl
def j6{X}{el g}{α}{aF:α->di}{l:List α}(h:gV el g l)(ch:cr el X=false)(ad:∀x∈l,dw X (aF x)=false):cA X (.aQ g (l.map aF))=false:=by
 rcases h with rfl|h
 .rfl
 .have:=Br (aF:=aF) ad;cases l with
  |nil=>rfl
  |cons a l=>rw[fA] at this ⊢;simp only[cA,h,ch,this,k5]
def y7{X}{g}{l}(h:gV 9 g l)(ch:cr 9 X=false):cA X (.aQ g (l.map cu))=false:=j6 h ch λx _=>rfl
abbrev cm(X l:aO):Prop:=∀a∈l,cr a X=false
def oB{X}{c n}:cA X (.int c n)=false:=by simp only[cA]
def lr{X}{s:bM}:cA X (.str s)=false:=by simp only[cA]
def oX{X}{b}:cA X (.bool b)=false:=by simp only[cA]
def GT.cm{X}(ch:Tx.cm X [54]):∀{k}{t},GT k t->cA X (.aQ t.g (t.l.map ai.row))=false
 |k+1,t,h=>j6 h.2.2.1 (ch 54 ag) λx I=>by rw[ai.dF];simp only[dw,oB,lr,oX,(h.2.2.2.2 x I).cm ch,k5]
def GT.El{X}(ch:Tx.cm X [54]){k}{t}(h:GT k t):dw X t.row=false:=by rw[ai.dF];simp only[dw,oB,lr,oX,h.cm ch,k5]
def mY.cm{X}(ch:cm X [9]){x}(h:mY x):dw X x.row=false:=by simp only[cX.row,dw,oB,lr,oX,y7 h.Ue (ch 9 ag),k5]
def GE.cm{X}(ch:cm X [54,9,231,61]):∀{k}{e},GE k e->dw X e.cells=false
 |k+1,e,h=>by
  have B:=h.1;have Bg:=j6 (aF:=ai.row) B.m1 (ch 54 ag) λt al=>(B.bK t al).El λa aD=>ch a (by simp at aD;subst aD;decide);have Be:=y7 B.m2 (ch 9 ag);have KE:=j6 (aF:=fC.row) B.m3 (ch 231 ag) λt al=>by simp only[fC.row,dw,oB,lr,oX,y7 (B.lb t al).Ue (ch 9 ag),k5]
  have KG:=j6 (aF:=aj.row) B.m4 (ch 61 ag) λt al=>by rw[aj.dF];exact(h.2 t al).cm ch
  have Do:cA X (.aQ e.bK.g (e.bK.l.map ai.row))=false:=by rw[B.z];rfl
  simp only[dw,oB,lr,oX,Bg,Be,KE,KG,Do,k5]
def OF.cm{X}(ch:cm X [54]){x}(h:OF x):dw X x.row=false:=by simp only[eF.row,dw,oB,lr,oX,h.bK.cm ch,k5]
def cm.sub{X l m}(h:cm X l)(ak:∀a∈m,a∈l):cm X m:=λa aD=>h a (ak a aD)
def FJ.cm{X}(ch:cm X [54,9,84]){x}(h:FJ x):dw X (ec.row x)=false:=by simp only[ec.row,dw,oB,lr,oX,y7 h.m1 (ch 9 ag),j6 (aF:=eF.row) h.m2 (ch 84 ag) λf aI=>(h.kq f aI).cm (ch.sub ag),k5]
def KO.cm{X}(ch:cm X [54]){x}(h:KO x):dw X x.row=false:=by simp only[eP.row,dw,oB,lr,oX,j6 (aF:=ai.row) h.m1 (ch 54 ag) λf aI=>(h.n7 f aI).El ch,k5]
def yB.cm{X}(ch:cm X [54,9,87]){x}(h:yB x):dw X (eg.row x)=false:=by simp only[eg.row,dw,oB,lr,oX,y7 h.m1 (ch 9 ag),j6 (aF:=eP.row) h.m2 (ch 87 ag) λf aI=>(h.ub f aI).cm (ch.sub ag),k5]
def G7.cm{X}(ch:cm X [54]){x}(h:G7 x):dw X x.row=false:=by simp only[fW.row,dw,oB,lr,oX,h.fk.cm ch,j6 (aF:=ai.row) h.m1 (ch 54 ag) λf aI=>(h.lb f aI).El ch,k5]
def N9.cm{X}(ch:cm X [54,102]){x}(h:N9 x):dw X x.row=false:=by simp only[eX.row,dw,oB,lr,oX,j6 (aF:=fW.row) h.m1 (ch 102 ag) λf aI=>(h.ua f aI).cm (ch.sub ag),k5]
def J1.cm{X}(ch:cm X [54,9,104,143]){x}(h:J1 x):dw X x.row=false:=by simp only[fc.row,dw,oB,lr,oX,h.bK.cm (ch.sub ag),j6 (aF:=cX.row) h.m1 (ch 104 ag) λf aI=>(h.ge f aI).cm (ch.sub ag),j6 (aF:=i3.row) h.m2 (ch 143 ag) λf aI=>rfl,k5]
def Pf{X}:∀{l m:di},dw X l=false->dw X m=false->dw X (l++m)=false
 |[],m,_,h=>h
 |a::l,m,B,F=>by simp only[dw,Cd,jF] at B ⊢;exact⟨B.1,Pf B.2 F⟩
def rl.cm{X}(ch:cm X [54,9,231,61]){x}(h:rl x):dw X x.row=false:=
 Pf (by simp only[dw,oB,lr,oX,h.bK.cm (ch.sub ag),k5]) (h.vg.cm ch)
def mV.cm{X}(ch:cm X [54,9,231,61,104,106]){x}(h:mV x):dw X (dI.row x)=false:=
 Pf (by simp only[dw,oB,lr,oX,h.fk.cm (ch.sub ag),j6 (aF:=cX.row) h.m1 (ch 104 ag) λf aI=>(h.ge f aI).cm (ch.sub ag),j6 (aF:=cD.row) h.m2 (ch 106 ag) λf aI=>(h.lb f aI).cm (ch.sub ag),k5]) (h.t0.cm (ch.sub ag))
def iC.cm{X}(ch:cm X [54,9,231,61,104,106,84,87,102,143,44,47,50,57,109]){x}(h:iC x):dw X x.cells=false:=by
 have dE:cA X (.aQ x.g1 (x.lf.map kx.row))=false:=by rw[h.qp];rfl
 simp only[dw,oB,lr,oX,dE,j6 (aF:=ec.row) h.m1 (ch 44 ag) λf aI=>(h.dr f aI).cm (ch.sub ag),j6 (aF:=eg.row) h.m2 (ch 47 ag) λf aI=>(h.c3 f aI).cm (ch.sub ag),j6 (aF:=eX.row) h.m3 (ch 50 ag) λf aI=>(h.dY f aI).cm (ch.sub ag),j6 (aF:=fc.row) h.m4 (ch 57 ag) λf aI=>(h.e9 f aI).cm (ch.sub ag),j6 (aF:=dI.row) h.m5 (ch 109 ag) λf aI=>(h.f9 f aI).cm (ch.sub ag),k5]
section
variable{C:Nat->cG}{ext:Nat->Option e0}{ab:fD}(Q:Env C ext ab)
include Q
variable{n:Nat}
omit Q in
def ag0{m}(h:n<256)(F:m<256):uz [[.int 4 n],[.int 4 m]]=some [UInt8.ofNat n,UInt8.ofNat m]:=by
 have av:Nat.blt n 256=true:=by simpa [Bh] using h
 have nr:Nat.blt m 256=true:=by simpa [Bh] using F
 unfold uz;simp only[av];unfold uz;simp only[nr];rfl
abbrev aj.flat(k:Nat)(s:bM)(n:Nat):aj:=.mk k s [] n 1 [] 1 [] 1 [] 1 [] (.mk [] 1 []) 0
omit Q in
def wa{k s}(az:k<100)(ak:s.length<=300)(aB:n<18446744073709551616):GE 1 (aj.flat k s n):=⟨⟨ak,by simp [aj.mem],az,aB,by simp [aj.types],λ_ h=>by(cases h),.inl rfl,by simp [aj.fM],λ_ h=>by(cases h),.inl rfl,by simp [aj.fV],λ_ h=>by(cases h),.inl rfl,by simp [aj.kids],.inl rfl,rfl⟩,λ_ h=>by(cases h)⟩
def afu(x:cV):iS C 112 [.J (.aQ 1 []),.J (.agg x.cells)] λv=>∃g,v=.aQ g [x.cells]/\g / 2=34:=by refine Q.z 112 cY rfl rfl ?_;refine b8 ?_;exact⟨rfl,_,rfl,ag⟩
omit Q in
def OK{X}{x:cV}{g}(br:g / 2=34)(ch:cr 34 X=false)(h:dw X x.cells=false):cA X (.aQ g [x.cells])=false:=by simp only[cA,hy,br,ch,h,k5]
def T7(x:cV)(gl)(jn:List bM)(LS):iS C 45 [.J (.gc 283 ([LS,.aQ 1 [],.aQ gl (jn.map cu)]++x.cells) 0)] λv=>∃g,v=.aQ g [x.cells]/\g / 2=34:=by refine Q.z 45 cY rfl rfl ?_;refine b8 ?_;refine aK (afu Q x) ?_;rintro v A ⟨rfl,g2,rfl,I8⟩;refine b8 ?_;exact⟨rfl,_,rfl,I8⟩
variable{g:Nat}(bi:l6 ab)
include bi
def aez(x)(gl)(jn)(a)(aD:a<=ab.length):bj C [] 40 [.bH 1000 0] [(1000,OW gl jn x),(1001,dH g ab a)] λv A=>(∃a,a<=ab.length/\A=[(1000,OW gl jn x),(1001,dH g ab a)])/\∃(g1 g2:Nat)(l:List bM)(G:List cX),v=.eJ [.aQ g1 (l.map cu),.aQ g2 (G.map cX.row)]/\(l=[]/\G=[]\/l=[[84]]/\G=[⟨[84],1,[]⟩]/\g1 / 2=9/\g2 / 2=104):=by
 refine Q.z 40 cY rfl rfl ?_;refine aG ?_;refine aK (fR Q bi a 3 aD ag ag) ?_;rintro v A ⟨⟨r,rfl,ad⟩,bF,p3,rfl⟩;refine b8 ?_;refine eT (λh=>?_) (λh=>?_)
 .refine b8 ?_;exact⟨⟨bF,p3,rfl⟩,1,1,[],[],rfl,.inl ⟨rfl,rfl⟩⟩
 .refine b8 ?_;exact⟨⟨bF,p3,rfl⟩,_,_,[[84]],[⟨[84],1,[]⟩],rfl,.inr ⟨rfl,rfl,ag,ag⟩⟩
def De(x)(I:iC x)(gl)(jn)(K:jn.length<100)(jj)(gZ)(G:List cX)(vn:G.length<1000)(br:∀x∈G,mY x)(a)(aD:a<=ab.length):bj C [0,1000] 41 [.bH 1000 0,.J (.bool jj),.J (.aQ gZ (G.map cX.row))] [(1000,OW gl jn x),(1001,dH g ab a)] λv A=>(∃a,a<=ab.length/\A=[(1000,OW gl jn x),(1001,dH g ab a)])/\∃t,v=.agg t.cells/\GT 4 t:=by
 refine Q.z 41 cY rfl rfl ?_;refine aG ?_;refine aK (T7 Q x gl jn _) ?_;rintro v A ⟨rfl,ig,rfl,zm⟩
 (conv=>whnf)
 repeat(first|refine gz.mk (OK (X:=[66,70]) zm (by decide) (I.cm (by decide))) ?_|refine bn ?_);(conv=>whnf)
 refine aK (adk Q [x] (λy ap=>by rw[iF.1 ap];exact I) (by simp) ig gl x.aR jn (by omega) jj) ?_;rintro v A ⟨rfl,g1,l,rfl,j7,gS⟩;refine aG ?_;refine aK (acR Q bi g1 gZ l G j7 vn gS br 2 (by decide) a aD) ?_;rintro v A ⟨⟨t,rfl,al⟩,bF,p3,rfl⟩;refine aG ?_;exact⟨⟨bF,p3,rfl⟩,t,rfl,al⟩
def aft(W:List cV)(lo:∀x∈W,iC x)(pd:W.length<=1)(ig gl)(M6:bM)(jn:List bM)(K:jn.length<100)(gZ)(G:List cX)(vn:G.length<1000)(br:∀x∈G,mY x)(a)(aD:a<=ab.length):bj C [] 222 [.bH 1000 0,.J (.aQ ig (W.map cV.cells)),.J (.str M6),.J (.aQ gl (jn.map cu)),.J (.aQ gZ (G.map cX.row)),.J (.int 3 2)] [(1000,dH g ab a)] (Ge g ab λv=>∃t,v=.agg t.cells/\GT 4 t):=by refine Q.z 222 cY rfl rfl ?_;refine aG ?_;refine aK (adk Q W lo pd ig gl M6 jn Y false) ?_;rintro v A ⟨rfl,g1,l,rfl,j7,gS⟩;refine aG ?_;refine aK (acR Q bi g1 gZ l G j7 vn gS br 2 ag a aD) ?_;rintro v A ⟨⟨t,rfl,al⟩,bF,p3,rfl⟩;refine aG ?_;exact⟨⟨t,rfl,al⟩,bF,p3,rfl⟩
variable(N:rY)(hp:FG N)
include hp
def Ay(left next a)(aD:a<=ab.length):bj C [] 115 [.bH 1000 0] [(1000,iA N left next),(1001,dH g ab a)] (Made N g ab next λv=>∃t,v=.agg t.cells/\GT 4 t):=by refine Q.z 115 cY rfl rfl ?_;refine aG ?_;refine aK (aft Q bi N.W hp.cf hp.dg N.ig N.gl N.cm N.jn hp.OD N.gZ N.G (by have:=hp.gl;omega) hp.ge a aD) ?_;rintro v A ⟨⟨t,rfl,al⟩,bF,p3,rfl⟩;refine aG ?_;exact⟨⟨t,rfl,al⟩,bF,left,next,p3,ez _,rfl⟩
omit hp
theorem EH(left next a)(aD:a<=ab.length)(s:bM)(ak:s.length<100000):bj C [] 219 [.bH 1000 0,.J (.str s)] [(1000,iA N left next),(1001,dH g ab a)] λv A=>A=[(1000,iA N left next),(1001,dH g ab a)]/\∃b,v=.bool b:=by refine Q.z 219 cY rfl rfl ?_;refine aG ?_;refine aK (Md Q s ak) ?_;rintro v A ⟨rfl,eK,s2,ok,rfl⟩;refine aG ?_;exact⟨rfl,_,rfl⟩
theorem Ym(left next a)(aD:a<=ab.length)(aB:next<4611686018427387904):bj C [] 116 [.bH 1000 0] [(1000,iA N left next),(1001,dH g ab a)] λv A=>A=[(1000,iA N left (next+1)),(1001,dH g ab a)]/\∃s:bM,v=.str s/\s.length=3:=by refine Q.z 116 cY rfl rfl ?_;refine b8 ?_;have cw:97+(next+1) / 26 % 26<256:=Y;have c7:97+(next+1) % 26<256:=Y;rw[show uz [[b2.int 4 (97+(next+1) / 26 % 26)],[b2.int 4 (97+(next+1) % 26)]]=some [UInt8.ofNat (97+(next+1) / 26 % 26),UInt8.ofNat (97+(next+1) % 26)] from ag0 cw c7];refine b8 ?_;exact⟨rfl,_,rfl,rfl⟩
def Qm(left next a)(aD:a<=ab.length)(k)(ef)(V:List cD)(eZ:V.length<10000)(B:∀x∈V,GT k x.bK)(F:∀x∈V,x.aR.length<=100)(M)(t)(al:GT M t):bj C [] 114 [.bH 1000 0,.J (.aQ ef (V.map cD.row)),.J (.agg t.cells)] [(1000,iA N left next),(1001,dH g ab a)] (Made N g ab next λv=>∃x ok,v=.eJ [.agg (aj.cells x),.bool ok]/\GE 1 x):=by
 refine Q.z 114 cY rfl rfl ?_;refine aG ?_;refine aK (alM Q k M ef V eZ B t al) ?_;rintro v A ⟨rfl,g1,l,rfl,j7,gS⟩;have m1:(l.map cu).length=l.length:=bW;refine aG ?_;refine fK (λh=>?_) (λh=>?_)
 .refine b8 ?_;exact⟨⟨aj.nil,false,rfl,q7⟩,a,left,next,aD,ez _,rfl⟩
 .refine aG ?_;refine aK (fR Q bi a (l.map cu).length aD Y Y) ?_;rintro v A ⟨⟨r,rfl,ad⟩,bF,p3,rfl⟩;have fv:(l.map cu).length - 1 - r<(l.map cu).length:=Y;have⟨x,I,eM⟩:=nW cu fv;have eM:ib (l.map cu) ((l.map cu).length - 1 - r)=[.str x]:=eM
  (conv=>whnf)
  repeat(first|refine⟨fv,⟨_,eM,?_⟩⟩|refine b9 ?_);(conv=>whnf)
  obtain⟨y,ap,rfl⟩:=gS x I;exact⟨⟨aj.flat 3 y.aR 0,true,rfl,wa ag (by have:=F y ap;omega) ag⟩,bF,left,next,p3,ez _,rfl⟩
end
section
variable{C:Nat->cG}{ext:Nat->Option e0}{ab:fD}(Q:Env C ext ab)
include Q
def al5(s:bM):iS C 332 [.J (.str s)] λv=>∃b,v=.bool b:=by
 refine Q.z 332 cY rfl rfl ?_
 (conv=>whnf)
 repeat' (first|refine bn ?_|refine aN ?_|refine s2 ?_ ?_<;>intros|fail)<;>(conv=>whnf)
 all_goals exact⟨rfl,_,rfl⟩
def api(s:bM)(ak:s.length<100000):iS C 321 [.J (.str s)] λv=>∃b,v=.bool b:=by
 refine Q.z 321 cY rfl rfl ?_
 (conv=>whnf)
 repeat' (first|(refine aK (Yd Q s ak) ?_;rintro v A ⟨rfl,n,rfl,aB⟩)|(refine aK (al5 Q s) ?_;rintro v A ⟨rfl,b,rfl⟩)|refine bn ?_|refine aN ?_|refine s2 ?_ ?_<;>intros|fail)<;>(conv=>whnf)
 all_goals exact⟨rfl,_,rfl⟩
def alu(g)(l:List bM)(s:bM)(K:l.length<1000000):iS C 322 [.J (.aQ g (l.map cu)),.J (.str s)] λv=>∃b,v=.bool b:=by
 refine Q.z 322 (ia [(0,[3,7,8],[],[])]) rfl rfl ?_;have hm:(l.map cu).length=l.length:=bW;refine aG ?_;refine gG cu l 6 (λ_ (_:Unit)=>[]) (λ_ _=>[]) (λ_ _=>True) ⟨(),trivial,by kernel_rfl⟩ (λd b x r ba ar aV ad bo bC=>?_) (λb ba bo=>?_)
 .unfold cu at ad;refine dx ?_;refine cC (λh=>?_) (λh=>?_)
  .refine aG ?_;exact⟨rfl,_,rfl⟩
  .refine aG ?_;exact bC () _ _ trivial (by kernel_rfl)
 .refine de ?_;exact⟨rfl,_,rfl⟩
abbrev afX(W:List cV)(k m i:Nat)(args:List ai):Prop:=∃(y:cV)(c:fc),m<(W.map cV.cells).length/\ib (W.map cV.cells) m=y.cells/\i<(y.ed.map fc.row).length/\ib (y.ed.map fc.row) i=fc.row c/\J1 c/\args.length=c.fg.length/\∀x∈args,GT k x
abbrev bS:Nat×eS:=(8,.box 276 4 (.bE [.J (.int 3 0),.J (.int 3 0),.J (.int 3 0),.bT]))
def ah5(W)(lo:∀x∈W,iC x)(pd:W.length<=1)(ig)(dZ:bM)(k)(az:k<1000)(t)(al:GT (k+1) t)(gZ)(G:List cX)(vn:G.length<1000)(ov:∀x∈G,mY x):iS C 287 [.J (.aQ ig (W.map cV.cells)),.J (.str dZ),.J (.agg t.cells),.J (.aQ gZ (G.map cX.row))] λv=>∃m i n g args ok,v=.eJ [.agg [.int 3 m,.int 3 i,.int 3 n,.aQ g (args.map ai.row)],.bool ok]/\(ok->n<1000\/n=18446744073709551615/\afX W k m i args):=by
 refine Q.z 287 (ia [(0,[7,8,19,20],[],[8,6]),(2,[9,10,11,12,13,14,24,25,26,27,28,29,30,31,32,33],[],[8,6]),(4,[11,12,13,14,28,29,30,31,32,33],[],[8,6]),(6,[14,33],[⟨true,16,3,900,54,2⟩],[8,16,900])]) rfl rfl ?_;have pD:(W.map cV.cells).length=W.length:=bW;have dl:(G.map cX.row).length=G.length:=bW;refine aG ?_;refine aK (api Q t.aR (by have:=al.ok;have:=(ai.u2 t).1 this;omega)) ?_;rintro v A ⟨rfl,b,rfl⟩;refine aG ?_;refine eD (λav=>?_) (λav=>?_)
 .refine aG ?_;refine gG cX.row G 18 (λ_ (_:Unit)=>[]) (λ_ _=>[bS,(6,.box 54 2 (.cc t.cells))]) (λ_ _=>True) ⟨(),trivial,by kernel_rfl⟩ (λd b x r ba ar aV ad bo bC=>?_) (λb ba bo=>?_)
  .have aJ:d.length<G.length:=Y;have I:=ov x (by simp [ar]);unfold cX.row at ad;refine dx ?_;refine cC (λh=>?_) (λh=>?_)
   .refine b8 ?_;refine aK (alu Q x.g x.dZ dZ (by have:=I.len;omega)) ?_;rintro v A ⟨rfl,b,rfl⟩;refine b8 ?_;exact⟨rfl,_,_,_,1,[],_,rfl,λ_=>.inl Y⟩
   .refine b8 ?_;exact bC () _ _ trivial (by kernel_rfl)
  .refine de ?_;exact⟨rfl,_,_,_,1,[],_,rfl,λh=>by cases h⟩
 .refine aG ?_;refine gG cV.cells W 23 (λ_ (_:Unit)=>[]) (λ_ _=>[bS,(6,.box 54 2 (.cc t.cells))]) (λ_ _=>True) ⟨(),trivial,by kernel_rfl⟩ (λd b y r ba ar aV ad bo bC=>?_) (λb ba bo=>?_)
  .have aJ:d.length=0:=by rw[ar] at pd;simp at pd;omega
   have ap:=lo y (by simp [ar]);have cB:(y.ed.map fc.row).length=y.ed.length:=bW;have fj:=ap.fj;have apS:=aV;have wr:=ad;refine dx ?_;refine gG fc.row y.ed 27 (λ_ (_:Unit)=>[]) (λ_ _=>[bS,(6,.box 54 2 (.cc t.cells))]) (λ_ _=>True) ⟨(),trivial,by kernel_rfl⟩ (λd2 b x r fJ eu fv eM dp eG=>?_) (λb fJ dp=>?_)
   .have fZ:d2.length<y.ed.length:=Y;have I:=ap.e9 x (by simp [eu]);have aV:=fv;have ad:=eM;unfold fc.row at ad
    (conv=>whnf)
    repeat' (first|refine .yes (cZ.2 aV) ?_|refine⟨aV,⟨_,ad,?_⟩⟩|refine b9 ?_|refine aN ?_|refine s2 ?_ ?_<;>intros|fail)<;>(conv=>whnf)
    rotate_left;all_goals try exact eG () _ _ trivial (by kernel_rfl)
    have ax:x.fg.length=t.l.length:=by simpa using ‹(List.map cX.row x.fg).length=(List.map ai.row t.l).length›
    have dV:(t.l.map ai.row).length=t.l.length:=bW;have t1:=al.2.1;refine gG ai.row t.l 32 (λ_ (_:List ai)=>[]) (λ_ l=>[bS,(16,.box 276 4 (.bE [.J (.int 3 d.length),.J (.int 3 d2.length),.J (.int 3 18446744073709551615),.bQ 900])),(900,.arr 54 2 (l.map ai.row) true)]) (λd l=>l.length=d.length/\∀x∈l,GT k x) ⟨[],⟨rfl,λ_ h=>by cases h⟩,by kernel_rfl⟩ (λd3 dh z r AT tr Hr wl nc qr=>?_) (λdh AT nc=>?_)
    .have D9:d3.length<t.l.length:=Y;have bO:=al.2.2.2.2 z (by simp [tr]);have gO:(dh.map ai.row).length=dh.length:=bW;have bq:=nc.1;have aV:=Hr;have ad:=wl;rw[ai.dF] at ad;refine tl ?_;refine aK (Q3 Q k z bO az) ?_;rintro v A ⟨rfl,cI,rfl,Sf⟩;refine b8 ?_;exact qr (dh++[cI]) _ _ ⟨by simp [nc.1],λu hu=>by
      rcases jD.1 hu with hu|hu
      .exact nc.2 u hu
      .rw[iF.1 hu];exact Sf⟩ (by rw[qn,y6,ai.dF cI];kernel_rfl)
    .refine de ?_;exact⟨rfl,_,_,_,_,dh,_,rfl,λ_=>.inr ⟨rfl,y,x,apS,wr,fv,eM,I,by rw[nc.1,ax],nc.2⟩⟩
   .refine de ?_;exact bC () _ _ trivial (by kernel_rfl)
  .refine de ?_;exact⟨rfl,_,_,_,1,[],_,rfl,λh=>by cases h⟩
def SY(W:List cV)(lo:∀x∈W,iC x)(pd:W.length<=1)(ig)(gZ)(G:List cX)(vn:G.length<1000)(ov:∀x∈G,mY x):∀(k),k<1000->∀(dZ:bM)(t),GT k t->iS C 225 [.J (.aQ ig (W.map cV.cells)),.J (.str dZ),.J (.agg t.cells),.J (.aQ gZ (G.map cX.row))] λv=>∃b,v=.bool b:=by
 have pD:(W.map cV.cells).length=W.length:=bW;intro k;induction k with
 |zero=>intro _ dZ t h;exact h.elim
 |succ k bB=>
  intro az dZ t al;refine Q.z 225 (ia [(0,[8,9,10,15,16,17,18,19,20],[],[9]),(2,[10,19,20],[],[9])]) rfl rfl ?_;refine aG ?_;refine aK (ah5 Q W lo pd ig dZ k Y t al gZ G vn ov) ?_;rintro v A ⟨rfl,m,i,n,g,args,ok,rfl,aW⟩;refine aG ?_;cases ok with
  |false=>refine aG ?_;exact⟨rfl,_,rfl⟩
  |true=>
   rcases aW rfl with h|⟨rfl,y,c,gN,gj,hU,iw,jm,mS,ot⟩
   .have h:n<1000:=h;refine b8 ?_;refine iN (λ_=>?_) (λh=>absurd h (Nat.not_lt_zero _));refine b8 ?_;exact⟨rfl,_,rfl⟩
   .unfold fc.row at iw;have dl:(c.fg.map cX.row).length=c.fg.length:=bW;have cB:(args.map ai.row).length=args.length:=bW;have dz:=jm.gl
    (conv=>whnf)
    repeat(first|refine⟨gN,⟨_,gj,?_⟩⟩|refine⟨hU,⟨_,iw,?_⟩⟩|refine bn ?_);(conv=>whnf)
    refine .mW ?_;rw[qj]
    (conv=>whnf)
    repeat(first|refine⟨gN,⟨_,gj,?_⟩⟩|refine⟨hU,⟨_,iw,?_⟩⟩|refine bn ?_);(conv=>whnf)
    refine gG cX.row c.fg 14 (λ_ (_:Unit)=>[]) (λ_ _=>[(9,.box 276 4 (.cc [.int 3 m,.int 3 i,.int 3 18446744073709551615,.aQ g (args.map ai.row)]))]) (λ_ _=>True) ⟨(),trivial,by kernel_rfl⟩ (λd b x r ba ar aV ad bo bC=>?_) (λb ba bo=>?_)
    .have aJ:d.length<c.fg.length:=Y;have I:=jm.ge x (by simp [ar]);unfold cX.row at ad;have adj:d.length<(args.map ai.row).length:=Y;have⟨z,bO,He⟩:=nW ai.row adj;rw[ai.dF] at He;have dV:(x.dZ.map cu).length=x.dZ.length:=bW;have dS:=I.len;refine dx ?_;refine gG cu x.dZ 18 (λ_ (_:Unit)=>[]) (λ_ _=>[(9,.box 276 4 (.cc [.int 3 m,.int 3 i,.int 3 18446744073709551615,.aQ g (args.map ai.row)]))]) (λ_ _=>True) ⟨(),trivial,by kernel_rfl⟩ (λd2 b s cl fJ eu fv eM dp eG=>?_) (λb fJ dp=>?_)
     .have fZ:d2.length<x.dZ.length:=Y;unfold cu at eM
      (conv=>whnf)
      repeat(first|refine .yes (cZ.2 fv) ?_|refine⟨fv,⟨_,eM,?_⟩⟩|refine⟨adj,⟨_,He,?_⟩⟩|(refine aK (bB Y s z (ot z bO)) ?_;rintro v A ⟨rfl,b,rfl⟩)|refine bn ?_);(conv=>whnf)
      refine f4 (eD (λh=>?_) (λh=>?_))
      .refine aG ?_;exact eG () _ _ trivial (by kernel_rfl)
      .refine aG ?_;exact⟨rfl,_,rfl⟩
     .refine de ?_;exact bC () _ _ trivial (by kernel_rfl)
    .refine de ?_;exact⟨rfl,_,rfl⟩
end
section
variable{C:Nat->cG}{ext:Nat->Option e0}{ab:fD}(Q:Env C ext ab)
include Q
abbrev rC(b:Bool):di:=[.bool b]
omit Q in
def QF{α:Type}(f:α->di){l:List α}{i}(h:i<(l.map f).length):∃x,x∈l/\(l.map f)[i]?=some (f x):=by rw[dt] at h;exact⟨l[i],Jn h,by rw[t7,na h];rfl⟩
def af9(M)(bb:M<1000)(g)(names:List bM)(aB:names.length<1000):∀(k)(N),GT k N->k<1000->∀(t),GT M t->∀(cz:List Bool)(os:List ai),cz.length=names.length->os.length=names.length->(∀t∈os,GT M t)->bj C [] 285 [.J (.agg N.cells),.J (.agg t.cells),.J (.aQ g (names.map cu)),.bQ 1000,.bQ 1001] [(1000,.arr 4 1 (cz.map rC) false),(1001,.arr 54 2 (os.map ai.row) false)] λv A=>∃(b:Bool)(VK:List Bool)(Sm:List ai),v=.bool b/\VK.length=names.length/\Sm.length=names.length/\(∀t∈Sm,GT M t)/\A=[(1000,.arr 4 1 (VK.map rC) false),(1001,.arr 54 2 (Sm.map ai.row) false)]:=by
 intro k;induction k with
 |zero=>intro N h;exact h.elim
 |succ k bB=>
  intro N hp az t al cz os aI ay vd;refine Q.z 285 (ia [(0,[13,14],[],[5,6,1000,1001])]) rfl rfl ?_;have⟨qv,eY,ex,kd,rT⟩:=hp;have pD:(cz.map rC).length=cz.length:=dt ..;have dl:(os.map ai.row).length=os.length:=dt ..;have cB:(N.l.map ai.row).length=N.l.length:=dt ..;have dV:(t.l.map ai.row).length=t.l.length:=dt ..;refine aG ?_;refine aK (UI Q g names N.aR (by omega)) ?_;rintro v A ⟨rfl,rfl|⟨i,aH,rfl⟩⟩;case' inl=>
   (conv=>whnf)
   repeat(first|refine .mW ?_|refine bn ?_);(conv=>whnf)
   refine .no qj ?_
   (conv=>whnf)
   repeat' (first|refine b9 ?_|refine aN ?_|refine s2 ?_ ?_<;>intros|fail)<;>(conv=>whnf)
  case' inr=>
   refine aG ?_;refine iN (λ_=>?_) (λh=>absurd h (Nat.not_lt_zero _));refine aG ?_;refine fK (λbO=>?_) (λbO=>?_)
   .have aV:i<(cz.map rC).length:=by omega
    have⟨s4,arM,ad⟩:=QF rC aV;unfold rC at ad;have fv:i<(os.map ai.row).length:=by omega
    have⟨XS,S8,eM⟩:=QF ai.row fv;rw[ai.dF] at eM
    (conv=>whnf)
    repeat(first|refine gz.mk aV ?_|refine gz.mk fv ?_|refine⟨_,ad,?_⟩|refine⟨_,eM,?_⟩|refine bn ?_);(conv=>whnf)
    refine eD (λbO=>?_) (λbO=>?_)
    ·(conv=>whnf)
     repeat(first|refine gz.mk aV ?_|refine gz.mk fv ?_|refine⟨_,ad,?_⟩|refine⟨_,eM,?_⟩|refine bn ?_);(conv=>whnf)
     refine aK (adW Q M M XS t (vd XS S8) al) ?_;rintro v A ⟨rfl,b,rfl⟩;refine aG ?_;exact⟨_,cz,os,rfl,aI,ay,vd,rfl⟩
    ·(conv=>whnf)
     repeat(first|refine gz.mk aV ?_|refine gz.mk fv ?_|refine⟨_,ad,?_⟩|refine⟨_,eM,?_⟩|refine bn ?_);(conv=>whnf)
     refine aK (Q3 Q M t al bb) ?_;rintro v A ⟨rfl,a6,rfl,hS⟩
     (conv=>whnf)
     repeat(first|refine gz.mk aV ?_|refine gz.mk fv ?_|refine⟨_,ad,?_⟩|refine⟨_,eM,?_⟩|refine bn ?_);(conv=>whnf)
     exact⟨_,cz.set i true,os.set i a6,rfl,by rw[HE];exact aI,by rw[HE];exact ay,λu hu=>by
      rcases List.mem_or_eq_of_mem_set hu with hu|rfl
      .exact vd u hu
      .exact hS,by rw[List.map_set,List.map_set,ai.dF a6]⟩
   (conv=>whnf)
   repeat' (first|refine b9 ?_|refine aN ?_|refine s2 ?_ ?_<;>intros|fail)<;>(conv=>whnf)
  all_goals try exact⟨_,cz,os,rfl,aI,ay,vd,rfl⟩
  all_goals
   have ax:N.l.length=t.l.length:=by simpa using ‹(List.map ai.row N.l).length=(List.map ai.row t.l).length›
   refine gG ai.row t.l 9 (λ_ (_:List Bool×List ai)=>[]) (λ_ b=>[(5,.box 54 2 (.cc N.cells)),(6,.box 54 2 (.cc t.cells)),(1000,.arr 4 1 (b.1.map rC) false),(1001,.arr 54 2 (b.2.map ai.row) false)]) (λ_ b=>b.1.length=names.length/\b.2.length=names.length/\∀t∈b.2,GT M t) ⟨(cz,os),⟨aI,ay,vd⟩,by kernel_rfl⟩ (λd b x r ba ar aV ad bo bC=>?_) (λb ba bo=>?_)
   .have aJ:d.length<t.l.length:=by omega
    have fv:d.length<(N.l.map ai.row).length:=by omega
    have⟨y,ap,eM⟩:=nW ai.row fv;have I:x∈t.l:=by simp [ar]
    have⟨cw,c7⟩:=b;have⟨dD,dQ,fi⟩:=bo;have ce:GT M x:=by
     cases M with
     |zero=>exact al.elim
     |succ M=>exact(al.2.2.2.2 x I).mono (by omega)
    rw[ai.dF] at ad eM;have gO:(cw.map rC).length=cw.length:=dt ..;have l3:(c7.map ai.row).length=c7.length:=dt ..
    (conv=>whnf)
    repeat(first|refine .yes (cZ.2 aV) ?_|refine⟨aV,⟨_,ad,?_⟩⟩|refine⟨fv,⟨_,eM,?_⟩⟩|refine b9 ?_);(conv=>whnf)
    refine aK (bB y (rT y ap) (by omega) x ce cw c7 dD dQ fi) ?_;rintro v A ⟨b,oL,bs,rfl,bq,aS,bU,rfl⟩;have aZ:(cw.map rC).length=(oL.map rC).length:=by rw[dt,dt,dD,bq]
    have aN:(c7.map ai.row).length=(bs.map ai.row).length:=by rw[dt,dt,dQ,aS]
    (conv=>whnf)
    repeat(first|refine gz.mk aZ ?_|refine gz.mk aN ?_|refine bn ?_);(conv=>whnf)
    refine f4 (eD (λh=>?_) (λh=>?_))
    .refine b8 ?_;exact bC (oL,bs) _ _ ⟨bq,aS,bU⟩ (by kernel_rfl)
    .refine b8 ?_;exact⟨_,oL,bs,rfl,bq,aS,bU,rfl⟩
   .refine de ?_;exact⟨_,b.1,b.2,rfl,bo.1,bo.2.1,bo.2.2,rfl⟩
end
section
variable{C:Nat->cG}{ext:Nat->Option e0}{ab:fD}(Q:Env C ext ab)
include Q
def alT(M k)(bb:M<1000)(az:k<1000)(N)(hp:GT k N)(t)(al:GT M t)(g)(names:List bM)(aB:names.length<500):iS C 223 [.J (.agg N.cells),.J (.agg t.cells),.J (.aQ g (names.map cu))] λv=>∃(g1:Nat)(l:List ai)(ok:Bool),v=.eJ [.aQ g1 (l.map ai.row),.bool ok]/\(ok->l.length=names.length)/\(∀t∈l,GT M t)/\gV 54 g1 l:=by
 refine Q.z 223 (ia [(0,[7,8,15,16],[],[3,4]),(2,[11,21,22],[],[32,29])]) rfl rfl ?_;have m1:(names.map cu).length=names.length:=bW;have Ve:∃(g1:Nat)(l:List ai)(ok:Bool),b2.eJ [.aQ 1 [],.bool false]=.eJ [.aQ g1 (l.map ai.row),.bool ok]/\(ok=true->l.length=names.length)/\(∀t∈l,GT M t)/\gV 54 g1 l:=⟨1,[],false,rfl,(λh=>by cases h),(λ_ h=>by cases h),.inl rfl⟩;refine aG ?_;refine gG cu names 14 (λ_ (_:Unit)=>[]) (λ_ _=>[(3,.box 54 2 (.cc N.cells)),(4,.box 54 2 (.cc t.cells))]) (λ_ _=>True) ⟨(),trivial,by kernel_rfl⟩ (λd b x r ba ar aV ad bo bC=>?_) (λb ba bo=>?_)
 .have⟨y,ap,yg⟩:=nW cu (l:=names) (i:=0) Y;have aJ:d.length<1000:=Y;have ks:((names.map cu).drop 0).take (d.length - 0)=d.map cu:=by rw[ar];simp
  unfold cu at ad
  (conv=>whnf)
  repeat(first|refine jM.mk _ yg ?_|refine .yes (cZ.2 aV) ?_|refine⟨aV,⟨_,ad,?_⟩⟩|refine b9 ?_);(conv=>whnf)
  rcases Nat.eq_zero_or_pos d.length with cb|cb
  case' inl=>refine u0.zero rfl cb ?_;refine aG ?_;refine aK (LH Q 0 [] x ag) ?_
  case' inr=>refine u0.some cb Y ?_;rw[ks];refine aG ?_;refine aK (LH Q _ d x Y) ?_
  all_goals
   rintro v A ⟨rfl,b,rfl⟩
   refine aG ?_
   refine eD (λh=>?_) (λh=>?_)
   .refine b8 ?_;exact⟨rfl,Ve⟩
   .refine b8 ?_;exact bC () _ _ trivial (by kernel_rfl)
 .have aw:=af9 Q M bb g names Y k N hp az t al (List.replicate (names.map cu).length false) (List.replicate (names.map cu).length (ai.mk [] 1 [])) (by rw[vW];exact m1) (by rw[vW];exact m1) (λt h=>by rw[(List.mem_replicate.1 h).2];exact GT.nil ag ag (by cases M with|zero=>exact al.elim|succ M=>omega));rw[List.map_replicate,List.map_replicate,ai.dF,ai.aR,ai.g,ai.l,je] at aw
  (conv=>whnf)
  repeat(first|refine gz.mk ⟨rfl,Y⟩ ?_|refine .no (lZ _) ?_|refine bn ?_);(conv=>whnf)
  refine aK aw ?_;rintro v A ⟨b,cz,os,rfl,bq,aS,bU,rfl⟩;have aZ:(List.replicate (names.map cu).length [b2.bool false]).length=(cz.map rC).length:=by simp only[vW,dt,bq]
  have aN:(List.replicate (names.map cu).length [b2.str [],b2.aQ 1 []]).length=(os.map ai.row).length:=by simp only[vW,dt,aS]
  (conv=>whnf)
  repeat(first|refine gz.mk aZ ?_|refine gz.mk aN ?_|refine bn ?_);(conv=>whnf)
  refine f4 (eD (λh=>?_) (λh=>?_))
  .have cB:(cz.map rC).length=cz.length:=bW;refine aG ?_;refine gG rC cz 20 (λ_ (_:Unit)=>[]) (λ_ _=>[(32,.arr 54 2 (os.map ai.row) false),(29,.arr 4 1 (cz.map rC) false)]) (λ_ _=>True) ⟨(),trivial,by kernel_rfl⟩ (λd b x r ba ar aV ad bo bC=>?_) (λb ba bo=>?_)
   .have eM:(cz.map rC)[d.length]?=some [.bool x]:=by rw[ar];simp
    (conv=>whnf)
    repeat(first|refine .yes (cZ.2 aV) ?_|refine gz.mk aV ?_|refine⟨_,eM,?_⟩|refine b9 ?_);(conv=>whnf)
    refine f4 (eD (λh=>?_) (λh=>?_))
    .refine b8 ?_;exact bC () _ _ trivial (by kernel_rfl)
    .refine b8 ?_;exact⟨rfl,Ve⟩
   .refine de ?_;exact⟨rfl,_,os,true,rfl,λ_=>aS,bU,.inr ag⟩
  .refine b8 ?_;exact⟨rfl,Ve⟩
end
def aj.agg{k}{aR mem:bM}{num g1}{bX:gF}{types:List ai}{g2}{uV:gF}{fM:List bM}{g3}{dx:gF}{fV:List fC}{g4}{am:gF}{kids:List aj}(B:bX=types.map ai.row)(F:uV=fM.map cu)(ah:dx=fV.map fC.row)(aE:am=kids.map aj.row):b2.agg [.int 3 k,.str aR,.str mem,.int 3 num,.aQ g1 bX,.aQ g2 uV,.aQ g3 dx,.aQ g4 am,.str [],.aQ 1 [],.int 3 0]=.agg (aj.cells (.mk k aR mem num g1 types g2 fM g3 fV g4 kids (.mk [] 1 []) 0)):=by subst B F ah aE;rfl
def aj.Fc{Rm}{k}{aR mem:bM}{num g1}{bX:gF}{types:List ai}{g2}{uV:gF}{fM:List bM}{g3}{dx:gF}{fV:List fC}{g4}{am:gF}{kids:List aj}(B:bX=types.map ai.row)(F:uV=fM.map cu)(ah:dx=fV.map fC.row)(aE:am=kids.map aj.row):b2.eJ [.agg [.int 3 k,.str aR,.str mem,.int 3 num,.aQ g1 bX,.aQ g2 uV,.aQ g3 dx,.aQ g4 am,.str [],.aQ 1 [],.int 3 0],.bool Rm]=.eJ [.agg (aj.cells (.mk k aR mem num g1 types g2 fM g3 fV g4 kids (.mk [] 1 []) 0)),.bool Rm]:=by subst B F ah aE;rfl
def o7:([]:gF)=([]:List ai).map ai.row:=rfl
def mj(t):[t.cells]=[t].map ai.row:=by rw[fA,je,ai.dF]
def mv:([]:gF)=([]:List bM).map cu:=rfl
def l9:([]:gF)=([]:List fC).map fC.row:=rfl
def Wj:([]:gF)=([]:List aj).map aj.row:=rfl
def pS(e):[e.cells]=[e].map aj.row:=by rw[fA,je,aj.dF]
def mQ(a b):[a.cells,b.cells]=[a,b].map aj.row:=by rw[fA,fA,je,aj.dF,aj.dF]
def Xa(a b c):[a.cells,b.cells,c.cells]=[a,b,c].map aj.row:=by rw[fA,fA,fA,je,aj.dF,aj.dF,aj.dF]
structure jc(g:Nat)(l:List ai):Prop where
 len:l.length<=5
 bK:∀t∈l,GT 400 t
 yY:gV 54 g l
variable{a b:aj}{g n:Nat}
def jc.nil:jc g []:=⟨by simp,λ_ h=>by(cases h),.inl rfl⟩
def jc.one{ck t}(br:g / 2=54)(h:GT ck t)(gr:ck<=400):jc g [t]:=⟨by simp,λx I=>by rw[iF.1 I];exact h.mono gr,.inr br⟩
structure jT(g:Nat)(l:List bM):Prop where
 len:l.length<=20
 bK:∀t∈l,t.length<=300
 yY:gV 9 g l
def jT.nil:jT g []:=⟨by simp,λ_ h=>by(cases h),.inl rfl⟩
def jT.one{t}(br:g / 2=9)(h:t.length<=300):jT g [t]:=⟨by simp,λx I=>by rw[iF.1 I];exact h,.inr br⟩
structure j5(g:Nat)(l:List fC):Prop where
 len:l.length<=20
 bK:∀t∈l,Hj t
 yY:gV 231 g l
def j5.nil:j5 g []:=⟨by simp,λ_ h=>by(cases h),.inl rfl⟩
structure jW(n g:Nat)(l:List aj):Prop where
 len:l.length<=12
 bK:∀t∈l,GE n t
 yY:gV 61 g l
def jW.nil(n):jW n g []:=⟨by simp,λ_ h=>by(cases h),.inl rfl⟩
def jW.one(br:g / 2=61)(h:GE n a):jW n g [a]:=⟨by simp,λx I=>by rw[iF.1 I];exact h,.inr br⟩
def jW.two(br:g / 2=61)(h:GE n a)(F:GE n b):jW n g [a,b]:=⟨by simp,λx I=>by
 simp only[fS,AC,Dx] at I;rcases I with rfl|rfl
 .exact h
 .exact F,.inr br⟩
def jW.three{c}(br:g / 2=61)(h:GE n a)(F:GE n b)(ah:GE n c):jW n g [a,b,c]:=⟨by simp,λx I=>by
 simp only[fS,AC,Dx] at I;rcases I with rfl|rfl|rfl
 .exact h
 .exact F
 .exact ah,.inr br⟩
def kl{k num g1 types g2 fM g3 fV g4 kids aR mem}(az:k<100)(B:aR.length<=300)(F:mem.length<=300)(ah:num<18446744073709551616)(t:jc g1 types)(m:jT g2 fM)(a:j5 g3 fV)(x:jW n g4 kids):GE (n+1) (.mk k aR mem num g1 types g2 fM g3 fV g4 kids (.mk [] 1 []) 0):=
 ⟨⟨B,F,az,ah,t.len,t.bK,t.yY,m.len,m.bK,m.yY,a.len,a.bK,a.yY,x.len,x.yY,rfl⟩,x.bK⟩
end Go.Tx
