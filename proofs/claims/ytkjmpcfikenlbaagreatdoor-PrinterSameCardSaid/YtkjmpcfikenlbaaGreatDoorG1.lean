/- A part. -/
import Derived.Test.YtkjmpcfikenlbaaGreatDoorG0
set_option linter.all false
namespace Go.Tx
open Go Go.Ev
set_option maxRecDepth 100000
set_option maxHeartbeats 8000000
attribute [local irreducible] eo eA bU eE eJ eN cU eX
section
variable{C:Nat->cE}{ext:Nat->Option eS}{Q:e9}(aa:Env C ext Q)
include aa
structure sj where
 iD:Nat
 W:List cZ
 cj:bj
 hQ:Nat
 jY:List bj
 hN:Nat
 G:List c3
structure Fe(p:sj):Prop where
 ef:p.W.length<=1
 ck:∀x∈p.W,iN x
 cj:p.cj.length<=100
 LN:p.jY.length<100
 DZ:∀s∈p.jY,s.length<=100
 hQ:p.G.length<=1
 ge:∀x∈p.G,n3 x
 m:hJ 132 p.hN p.G
abbrev iU(p:sj)(left next:Nat):fB:=.box 141 7 (.bS [.bN 1001 0,.J (.aH p.iD (p.W.map cZ.cells)),.J (.str p.cj),.J (.aH p.hQ (p.jY.map b6)),.J (.aH p.hN (p.G.map c3.row)),.J (.int 3 left),.J (.int 3 next)])
def Made(p:sj)(g:Nat)(Q:e9)(l7:Nat)(V:b9->Prop)(v:b9)(A:bf):Prop:=V v/\∃a left next,a<=Q.length/\next<=l7/\A=[(1000,iU p left next),(1001,dD g Q a)]
omit aa in
def q5:GE 1 ai.nil:=⟨⟨af,af,af,af,af,λ_ h=>by(cases h),.inl rfl,af,λ_ h=>by(cases h),.inl rfl,af,λ_ h=>by(cases h),.inl rfl,af,.inl rfl,rfl,λh=>absurd h (by decide)⟩,λ_ h=>by(cases h)⟩
abbrev YZ:cu:=⟨0,false,false,[],1,[],1,[],.mk [] 1 [],false,ai.nil⟩
omit aa in
def agW:mT YZ:=⟨af,af,af,λ_ h=>by(cases h),.inl rfl,af,λ_ h=>by(cases h),.inl rfl,GT.nil af af af,q5.mono af⟩
def N9(W:List cZ)(tk:∀x∈W,iN x)(oW:W.length<=1)(iD)(s:bj)(ap:s.length<100000):dz C 206 [.J (.aH iD (W.map cZ.cells)),.J (.str s)] λv=>∃x b,v=.gy [.agg (dX.row x),.bool b]/\DD x:=by
 refine aa.z 206 (gK [(0,[7,8,12,13,14,15,16,17],[],[4]),(2,[8,16,17],[],[10,4])]) rfl rfl ?_;have nQ:(W.map cZ.cells).length=W.length:=bW;refine N ?_;refine aW (Le aa s ap) ?_;rintro v A ⟨rfl,gx,s2,ok,rfl⟩;refine N ?_;refine hs cZ.cells W 11 (λ_ (_:Unit)=>[]) (λ_ _=>[(4,.box 74 6 (.bS [.J (.int 3 0),.J (.bool false),.J (.bool false),.J (.str []),.bx,.bx]))]) (λ_ _=>True) ⟨(),trivial,by kernel_rfl⟩ (λd l y r ba aw be ag a7 bt=>?_) (λl ba a7=>?_)
 .have aY:d.length=0:=by rw[aw]at oW;simp at oW;omega
  have aE:=tk y (by simp[aw]);have c4:(y.dJ.map dX.row).length=y.dJ.length:=bW;have cH:=aE.cH;refine dk ?_;refine hs dX.row y.dJ 15 (λ_ (_:Unit)=>[]) (λ_ _=>[(10,.box 34 9 (.cb y.cells)),(4,.box 74 6 (.bS [.J (.int 3 0),.J (.bool false),.J (.bool false),.J (.str []),.bx,.bx]))]) (λ_ _=>True) ⟨(),trivial,by kernel_rfl⟩ (λd2 cq x b3 gl fb ft ct dq fj=>?_) (λcq gl dq=>?_)
  .have g1:d2.length<y.dJ.length:=I;have M:=aE.cT x (by simp[fb]);have be:=ft;have ag:=ct;unfold dX.row at ag
   (conv=>whnf)
   repeat' ((first|refine .yes (dg.2 be) ?_|refine⟨be,⟨_,ag,?_⟩⟩|refine da ?_|((with_reducible first|apply eh|apply jQ|apply ch|apply cQ|apply eQ|apply mr|apply mD|apply eO)<;>intros))<;>(conv=>whnf))
   all_goals first|exact fj () _ _ trivial (by kernel_rfl)|exact⟨rfl,x,true,rfl,M⟩
  .refine dd ?_;exact bt () _ _ trivial (by kernel_rfl)
 .refine dd ?_;exact⟨rfl,⟨0,false,false,[],1,[],1,[]⟩,false,rfl,⟨af,af,af,λ_ h=>by(cases h),.inl rfl,af,λ_ h=>by(cases h),.inl rfl⟩⟩
def OR(W:List cZ)(tk:∀x∈W,iN x)(oW:W.length<=1)(iD)(s:bj)(ap:s.length<100000):dz C 205 [.J (.aH iD (W.map cZ.cells)),.J (.str s)] λv=>∃x b,v=.gy [.agg (dV.row x),.bool b]/\xy x:=by
 refine aa.z 205 (gK [(0,[7,8,12,13,14,15,16,17],[],[4]),(2,[8,16,17],[],[10,4])]) rfl rfl ?_;have nQ:(W.map cZ.cells).length=W.length:=bW;refine N ?_;refine aW (Le aa s ap) ?_;rintro v A ⟨rfl,gx,s2,ok,rfl⟩;refine N ?_;refine hs cZ.cells W 11 (λ_ (_:Unit)=>[]) (λ_ _=>[(4,.box 78 6 (.bS [.J (.int 3 0),.J (.bool false),.J (.bool false),.J (.str []),.bx,.bx]))]) (λ_ _=>True) ⟨(),trivial,by kernel_rfl⟩ (λd l y r ba aw be ag a7 bt=>?_) (λl ba a7=>?_)
 .have aY:d.length=0:=by rw[aw]at oW;simp at oW;omega
  have aE:=tk y (by simp[aw]);have c4:(y.d9.map dV.row).length=y.d9.length:=bW;have cH:=aE.cq;refine dk ?_;refine hs dV.row y.d9 15 (λ_ (_:Unit)=>[]) (λ_ _=>[(10,.box 34 9 (.cb y.cells)),(4,.box 78 6 (.bS [.J (.int 3 0),.J (.bool false),.J (.bool false),.J (.str []),.bx,.bx]))]) (λ_ _=>True) ⟨(),trivial,by kernel_rfl⟩ (λd2 cq x b3 gl fb ft ct dq fj=>?_) (λcq gl dq=>?_)
  .have g1:d2.length<y.d9.length:=I;have M:=aE.cN x (by simp[fb]);have be:=ft;have ag:=ct;unfold dV.row at ag
   (conv=>whnf)
   repeat' ((first|refine .yes (dg.2 be) ?_|refine⟨be,⟨_,ag,?_⟩⟩|refine da ?_|((with_reducible first|apply eh|apply jQ|apply ch|apply cQ|apply eQ|apply mr|apply mD|apply eO)<;>intros))<;>(conv=>whnf))
   all_goals first|exact fj () _ _ trivial (by kernel_rfl)|exact⟨rfl,x,true,rfl,M⟩
  .refine dd ?_;exact bt () _ _ trivial (by kernel_rfl)
 .refine dd ?_;exact⟨rfl,⟨0,false,false,[],1,[],1,[]⟩,false,rfl,⟨af,af,af,λ_ h=>by(cases h),.inl rfl,af,λ_ h=>by(cases h),.inl rfl⟩⟩
def ald(W:List cZ)(tk:∀x∈W,iN x)(oW:W.length<=1)(iD)(s:bj)(ap:s.length<100000):dz C 214 [.J (.aH iD (W.map cZ.cells)),.J (.str s)] λv=>∃x b,v=.gy [.agg (cu.row x),.bool b]/\mT x:=by
 refine aa.z 214 (gK [(0,[7,8,12,13,14,15,16,17],[],[4]),(2,[8,16,17],[],[10,4])]) rfl rfl ?_;have nQ:(W.map cZ.cells).length=W.length:=bW;refine N ?_;refine aW (Le aa s ap) ?_;rintro v A ⟨rfl,gx,s2,ok,rfl⟩;refine N ?_;refine hs cZ.cells W 11 (λ_ (_:Unit)=>[]) (λ_ _=>[(4,.box 49 20 (.bS [.J (.int 3 0),.J (.bool false),.J (.bool false),.J (.str []),.bx,.bx,.J (.str []),.bx,.J (.bool false),.J (.int 3 0),.J (.str []),.J (.str []),.J (.int 3 0),.bx,.bx,.bx,.bx,.J (.str []),.bx,.J (.int 3 0)]))]) (λ_ _=>True) ⟨(),trivial,by kernel_rfl⟩ (λd l y r ba aw be ag a7 bt=>?_) (λl ba a7=>?_)
 .have aY:d.length=0:=by rw[aw]at oW;simp at oW;omega
  have aE:=tk y (by simp[aw]);have c4:(y.funcs.map cu.row).length=y.funcs.length:=bW;have cH:=aE.fJ;refine dk ?_;refine hs cu.row y.funcs 15 (λ_ (_:Unit)=>[]) (λ_ _=>[(10,.box 34 9 (.cb y.cells)),(4,.box 49 20 (.bS [.J (.int 3 0),.J (.bool false),.J (.bool false),.J (.str []),.bx,.bx,.J (.str []),.bx,.J (.bool false),.J (.int 3 0),.J (.str []),.J (.str []),.J (.int 3 0),.bx,.bx,.bx,.bx,.J (.str []),.bx,.J (.int 3 0)]))]) (λ_ _=>True) ⟨(),trivial,by kernel_rfl⟩ (λd2 cq x b3 gl fb ft ct dq fj=>?_) (λcq gl dq=>?_)
  .have g1:d2.length<y.funcs.length:=I;have M:=aE.gB x (by simp[fb]);have be:=ft;have ag:=ct;unfold cu.row at ag;simp only[lJ,ps,ai.dN]at ag
   (conv=>whnf)
   repeat' ((first|refine .yes (dg.2 be) ?_|refine⟨be,⟨_,ag,?_⟩⟩|refine da ?_|((with_reducible first|apply eh|apply jQ|apply ch|apply cQ|apply eQ|apply mr|apply mD|apply eO)<;>intros))<;>(conv=>whnf))
   all_goals first|exact fj () _ _ trivial (by kernel_rfl)|exact⟨rfl,x,true,rfl,M⟩
  .refine dd ?_;exact bt () _ _ trivial (by kernel_rfl)
 .refine dd ?_;exact⟨rfl,YZ,false,rfl,agW⟩
end
def tn{X}{α:Type}{aJ:α->di}:∀{l:List α},(∀x∈l,eD X (aJ x)=false)->h7 X (l.map aJ)=false
 |[],_=>rfl
 |a::l,h=>by rw[gg,h7,h a ua,tn λx M=>h x (tD _ M)];rfl
def kk{X}{ak g}{α}{aJ:α->di}{l:List α}(h:hJ ak g l)(cR:cn ak X=false)(ag:∀x∈l,eD X (aJ x)=false):cf X (.aH g (l.map aJ))=false:=by
 rcases h with rfl|h
 .rfl
 .have:=tn (aJ:=aJ) ag;cases l with
  |nil=>rfl|cons a l=>rw[gg]at this ⊢;simp only[cf,h,cR,this,oi]
def tP{X}{g}{l}(h:hJ 9 g l)(cR:cn 9 X=false):cf X (.aH g (l.map b6))=false:=kk h cR λx _=>rfl
abbrev cj(X l:aO):Prop:=∀a∈l,cn a X=false
def oB{X}{c n}:cf X (.int c n)=false:=by simp only[cf]
def lq{X}{s:bj}:cf X (.str s)=false:=by simp only[cf]
def nH{X}{b}:cf X (.bool b)=false:=by simp only[cf]
def GT.cj{X}(cR:Tx.cj X [43]):∀{k}{t},GT k t->cf X (.aH t.g (t.l.map al.row))=false
 |k+1,t,h=>kk h.2.2.1 (cR 43 af) λx M=>by rw[al.dN];simp only[eD,oB,lq,nH,(h.2.2.2.2 x M).cj cR,oi]
def GT.zE{X}(cR:Tx.cj X [43]){k}{t}(h:GT k t):eD X t.row=false:=by rw[al.dN];simp only[eD,oB,lq,nH,h.cj cR,oi]
def n3.cj{X}(cR:cj X [9]){x}(h:n3 x):eD X x.row=false:=by simp only[c3.row,eD,oB,lq,nH,tP h.Jm (cR 9 af),oi]
def GE.cj{X}(cR:cj X [43,9,105,45]):∀{k}{e},GE k e->eD X e.cells=false
 |k+1,e,h=>by
  have D:=h.1;have wJ:=kk (aJ:=al.row) D.er (cR 43 af) λt au=>(D.bL t au).zE λa aC=>cR a (by simp at aC;subst aC;decide);have zi:=tP D.f8 (cR 9 af);have IG:=kk (aJ:=dI.row) D.jy (cR 105 af) λt au=>by simp only[dI.row,eD,oB,lq,nH,tP (D.jO t au).Jm (cR 9 af),oi]
  have HH:=kk (aJ:=ai.row) D.lj (cR 45 af) λt au=>by rw[ai.dN];exact(h.2 t au).cj cR
  have Dc:cf X (.aH e.bL.g (e.bL.l.map al.row))=false:=by rw[D.z];rfl
  simp only[eD,oB,lq,nH,wJ,zi,IG,HH,Dc,oi]
def L3.cj{X}(cR:cj X [43]){x}(h:L3 x):eD X x.row=false:=by simp only[eT.row,eD,oB,lq,nH,h.bL.cj cR,oi]
def cj.sub{X l m}(h:cj X l)(ap:∀a∈m,a∈l):cj X m:=λa aC=>h a (ap a aC)
def DD.cj{X}(cR:cj X [43,9,124]){x}(h:DD x):eD X (dX.row x)=false:=by simp only[dX.row,eD,oB,lq,nH,tP h.er (cR 9 af),kk (aJ:=eT.row) h.f8 (cR 124 af) λf a1=>(h.nw f a1).cj (cR.sub af),oi]
def OU.cj{X}(cR:cj X [43]){x}(h:OU x):eD X x.row=false:=by simp only[fl.row,eD,oB,lq,nH,kk (aJ:=al.row) h.er (cR 43 af) λf a1=>(h.tF f a1).zE cR,oi]
def xy.cj{X}(cR:cj X [43,9,128]){x}(h:xy x):eD X (dV.row x)=false:=by simp only[dV.row,eD,oB,lq,nH,tP h.er (cR 9 af),kk (aJ:=fl.row) h.f8 (cR 128 af) λf a1=>(h.A3 f a1).cj (cR.sub af),oi]
def J4.cj{X}(cR:cj X [43]){x}(h:J4 x):eD X x.row=false:=by simp only[fS.row,eD,oB,lq,nH,h.eW.cj cR,kk (aJ:=al.row) h.er (cR 43 af) λf a1=>(h.jO f a1).zE cR,oi]
def KI.cj{X}(cR:cj X [43,130]){x}(h:KI x):eD X x.row=false:=by simp only[eG.row,eD,oB,lq,nH,kk (aJ:=fS.row) h.er (cR 130 af) λf a1=>(h.rN f a1).cj (cR.sub af),oi]
def Gp.cj{X}(cR:cj X [43,9,132,147]){x}(h:Gp x):eD X x.row=false:=by simp only[em.row,eD,oB,lq,nH,h.bL.cj (cR.sub af),kk (aJ:=c3.row) h.er (cR 132 af) λf a1=>(h.ge f a1).cj (cR.sub af),kk (aJ:=ko.row) h.f8 (cR 147 af) λf a1=>rfl,oi]
def O8{X}:∀{l m:di},eD X l=false->eD X m=false->eD X (l++m)=false
 |[],m,_,h=>h
 |a::l,m,D,F=>by simp only[eD,H8,lJ]at D ⊢;exact⟨D.1,O8 D.2 F⟩
def rS.cj{X}(cR:cj X [43,9,105,45]){x}(h:rS x):eD X x.row=false:=
 O8 (by simp only[eD,oB,lq,nH,h.bL.cj (cR.sub af),oi]) (h.HK.cj cR)
def mT.cj{X}(cR:cj X [43,9,105,45,132,134]){x}(h:mT x):eD X (cu.row x)=false:=
 O8 (by simp only[eD,oB,lq,nH,h.eW.cj (cR.sub af),kk (aJ:=c3.row) h.er (cR 132 af) λf a1=>(h.ge f a1).cj (cR.sub af),kk (aJ:=cG.row) h.f8 (cR 134 af) λf a1=>(h.jO f a1).cj (cR.sub af),oi]) (h.yc.cj (cR.sub af))
def iN.cj{X}(cR:cj X [43,9,105,45,132,134,124,128,130,147,74,78,82,86,49]){x}(h:iN x):eD X x.cells=false:=by
 have eB:cf X (.aH x.aj (x.fA.map hM.row))=false:=by rw[h.tW];rfl
 simp only[eD,oB,lq,nH,eB,kk (aJ:=dX.row) h.er (cR 74 af) λf a1=>(h.cT f a1).cj (cR.sub af),kk (aJ:=dV.row) h.f8 (cR 78 af) λf a1=>(h.cN f a1).cj (cR.sub af),kk (aJ:=eG.row) h.jy (cR 82 af) λf a1=>(h.el f a1).cj (cR.sub af),kk (aJ:=em.row) h.lj (cR 86 af) λf a1=>(h.e0 f a1).cj (cR.sub af),kk (aJ:=cu.row) h.ny (cR 49 af) λf a1=>(h.gB f a1).cj (cR.sub af),oi]
section
variable{C:Nat->cE}{ext:Nat->Option eS}{Q:e9}(aa:Env C ext Q)
include aa
variable{n:Nat}
omit aa in
def ais{m}(h:n<256)(F:m<256):r8 [[.int 4 n],[.int 4 m]]=some [UInt8.ofNat n,UInt8.ofNat m]:=by
 have aB:Nat.blt n 256=true:=by simpa[Gq]using h
 have kR:Nat.blt m 256=true:=by simpa[Gq]using F
 unfold r8;simp only[aB];unfold r8;simp only[kR];rfl
abbrev ai.flat(k:Nat)(s:bj)(n:Nat):ai:=.mk k s [] n 1 [] 1 [] 1 [] 1 [] (.mk [] 1 []) 0
omit aa in
def wn{k s}(ar:k<100)(ap:s.length<=300)(aD:n<18446744073709551616)(sZ:k≠15:=by decide):GE 1 (ai.flat k s n):=⟨⟨ap,by simp[ai.mem],ar,aD,by simp[ai.types],λ_ h=>by(cases h),.inl rfl,by simp[ai.cg],λ_ h=>by(cases h),.inl rfl,by simp[ai.bM],λ_ h=>by(cases h),.inl rfl,by simp[ai.kids],.inl rfl,rfl,λh=>absurd h sZ⟩,λ_ h=>by(cases h)⟩
def ail(x:cZ):dz C 140 [.J (.aH 1 []),.J (.agg x.cells)] λv=>∃g,v=.aH g [x.cells]/\g / 2=34:=by refine aa.z 140 ff rfl rfl ?_;refine bw ?_;exact⟨rfl,_,rfl,af⟩
omit aa in
def MW{X}{x:cZ}{g}(bI:g / 2=34)(cR:cn 34 X=false)(h:eD X x.cells=false):cf X (.aH g [x.cells])=false:=by simp only[cf,h7,bI,cR,h,oi]
def Tv(x:cZ)(hQ)(jY:List bj)(Mo):dz C 63 [.J (.hy 259 ([Mo,.aH 1 [],.aH hQ (jY.map b6)]++x.cells) 0)] λv=>∃g,v=.aH g [x.cells]/\g / 2=34:=by refine aa.z 63 ff rfl rfl ?_;refine bw ?_;refine aW (ail aa x) ?_;rintro v A ⟨rfl,an,rfl,Yi⟩;refine bw ?_;exact⟨rfl,_,rfl,Yi⟩
variable{g:Nat}(aS:jW Q)
include aS
def abY(x)(hQ)(jY)(a)(aC:a<=Q.length):bU C [] 58 [.bN 1000 0] [(1000,NE hQ jY x),(1001,dD g Q a)] λv A=>(∃a,a<=Q.length/\A=[(1000,NE hQ jY x),(1001,dD g Q a)])/\∃(aj an:Nat)(l:List bj)(G:List c3),v=.gy [.aH aj (l.map b6),.aH an (G.map c3.row)]/\(l=[]/\G=[]\/l=[[84]]/\G=[⟨[84],1,[]⟩]/\aj / 2=9/\an / 2=132):=by
 refine aa.z 58 ff rfl rfl ?_;refine N ?_;refine aW (dy aa aS a 3 aC af af) ?_;rintro v A ⟨⟨r,rfl,ag⟩,bz,ki,rfl⟩;refine bw ?_;refine eh (λh=>?_) (λh=>?_)
 .refine bw ?_;exact⟨⟨bz,ki,rfl⟩,1,1,[],[],rfl,.inl ⟨rfl,rfl⟩⟩
 .refine bw ?_;exact⟨⟨bz,ki,rfl⟩,_,_,[[84]],[⟨[84],1,[]⟩],rfl,.inr ⟨rfl,rfl,af,af⟩⟩
def BI(x)(M:iN x)(hQ)(jY)(Y:jY.length<100)(dr)(hN)(G:List c3)(v7:G.length<1000)(bI:∀x∈G,n3 x)(a)(aC:a<=Q.length):bU C [0,1000] 59 [.bN 1000 0,.J (.bool dr),.J (.aH hN (G.map c3.row))] [(1000,NE hQ jY x),(1001,dD g Q a)] λv A=>(∃a,a<=Q.length/\A=[(1000,NE hQ jY x),(1001,dD g Q a)])/\∃t,v=.agg t.cells/\GT 4 t:=by
 refine aa.z 59 ff rfl rfl ?_;refine N ?_;refine aW (Tv aa x hQ jY _) ?_;rintro v A ⟨rfl,iD,rfl,A4⟩
 (conv=>whnf)
 repeat(first|refine bV.mk (MW (X:=[60,64]) A4 (by decide) (M.cj (by decide))) ?_|refine bZ ?_);(conv=>whnf)
 refine aW (Zm aa [x] (λy aE=>by rw[ji.1 aE];exact M) (by simp) iD hQ x.ay jY (by omega) dr) ?_;rintro v A ⟨rfl,aj,l,rfl,lR,jw⟩;refine N ?_;refine aW (Yd aa aS aj hN l G lR v7 jw bI 2 (by decide) a aC) ?_;rintro v A ⟨⟨t,rfl,au⟩,bz,ki,rfl⟩;refine N ?_;exact⟨⟨bz,ki,rfl⟩,t,rfl,au⟩
def ait(W:List cZ)(tk:∀x∈W,iN x)(oW:W.length<=1)(iD hQ)(MU:bj)(jY:List bj)(Y:jY.length<100)(hN)(G:List c3)(v7:G.length<1000)(bI:∀x∈G,n3 x)(a)(aC:a<=Q.length):bU C [] 210 [.bN 1000 0,.J (.aH iD (W.map cZ.cells)),.J (.str MU),.J (.aH hQ (jY.map b6)),.J (.aH hN (G.map c3.row)),.J (.int 3 2)] [(1000,dD g Q a)] (qb g Q λv=>∃t,v=.agg t.cells/\GT 4 t):=by refine aa.z 210 ff rfl rfl ?_;refine N ?_;refine aW (Zm aa W tk oW iD hQ MU jY I false) ?_;rintro v A ⟨rfl,aj,l,rfl,lR,jw⟩;refine N ?_;refine aW (Yd aa aS aj hN l G lR v7 jw bI 2 af a aC) ?_;rintro v A ⟨⟨t,rfl,au⟩,bz,ki,rfl⟩;refine N ?_;exact⟨⟨t,rfl,au⟩,bz,ki,rfl⟩
variable(p:sj)(bq:Fe p)
include bq
def Ah(left next a)(aC:a<=Q.length):bU C [] 143 [.bN 1000 0] [(1000,iU p left next),(1001,dD g Q a)] (Made p g Q next λv=>∃t,v=.agg t.cells/\GT 4 t):=by refine aa.z 143 ff rfl rfl ?_;refine N ?_;refine aW (ait aa aS p.W bq.ck bq.ef p.iD p.hQ p.cj p.jY bq.LN p.hN p.G (by have:=bq.hQ;omega) bq.ge a aC) ?_;rintro v A ⟨⟨t,rfl,au⟩,bz,ki,rfl⟩;refine N ?_;exact⟨⟨t,rfl,au⟩,bz,left,next,ki,fI _,rfl⟩
omit bq
theorem EO(left next a)(aC:a<=Q.length)(s:bj)(ap:s.length<100000):bU C [] 207 [.bN 1000 0,.J (.str s)] [(1000,iU p left next),(1001,dD g Q a)] λv A=>A=[(1000,iU p left next),(1001,dD g Q a)]/\∃b,v=.bool b:=by refine aa.z 207 ff rfl rfl ?_;refine N ?_;refine aW (Le aa s ap) ?_;rintro v A ⟨rfl,gx,s2,ok,rfl⟩;refine N ?_;exact⟨rfl,_,rfl⟩
theorem aeE(left next a)(aC:a<=Q.length)(aD:next<4611686018427387904):bU C [] 144 [.bN 1000 0] [(1000,iU p left next),(1001,dD g Q a)] λv A=>A=[(1000,iU p left (next+1)),(1001,dD g Q a)]/\∃s:bj,v=.str s/\s.length=3:=by refine aa.z 144 ff rfl rfl ?_;refine bw ?_;have cD:97+(next+1) / 26 % 26<256:=I;have dp:97+(next+1) % 26<256:=I;rw[show r8 [[b9.int 4 (97+(next+1) / 26 % 26)],[b9.int 4 (97+(next+1) % 26)]]=some [UInt8.ofNat (97+(next+1) / 26 % 26),UInt8.ofNat (97+(next+1) % 26)]from ais cD dp];refine bw ?_;exact⟨rfl,_,rfl,rfl⟩
def Ux(left next a)(aC:a<=Q.length)(k)(eL)(V:List cG)(gm:V.length<10000)(D:∀x∈V,GT k x.bL)(F:∀x∈V,x.ay.length<=100)(j)(t)(au:GT j t):bU C [] 142 [.bN 1000 0,.J (.aH eL (V.map cG.row)),.J (.agg t.cells)] [(1000,iU p left next),(1001,dD g Q a)] (Made p g Q next λv=>∃x ok,v=.gy [.agg (ai.cells x),.bool ok]/\GE 1 x):=by
 refine aa.z 142 ff rfl rfl ?_;refine N ?_;refine aW (ajM aa k j eL V gm D t au) ?_;rintro v A ⟨rfl,aj,l,rfl,lR,jw⟩;have er:(l.map b6).length=l.length:=bW;refine N ?_;refine ch (λh=>?_) (λh=>?_)
 .refine bw ?_;exact⟨⟨ai.nil,false,rfl,q5⟩,a,left,next,aC,fI _,rfl⟩
 .refine N ?_;refine aW (dy aa aS a (l.map b6).length aC I I) ?_;rintro v A ⟨⟨r,rfl,ag⟩,bz,ki,rfl⟩;have ft:(l.map b6).length - 1 - r<(l.map b6).length:=I;have⟨x,M,ct⟩:=nU b6 ft;have ct:fT (l.map b6) ((l.map b6).length - 1 - r)=[.str x]:=ct
  (conv=>whnf)
  repeat(first|refine⟨ft,⟨_,ct,?_⟩⟩|refine da ?_);(conv=>whnf)
  obtain⟨y,aE,rfl⟩:=jw x M;exact⟨⟨ai.flat 3 y.ay 0,true,rfl,wn af (by have:=F y aE;omega) af⟩,bz,left,next,ki,fI _,rfl⟩
end
section
variable{C:Nat->cE}{ext:Nat->Option eS}{Q:e9}(aa:Env C ext Q)
include aa
def aqr(s:bj):dz C 310 [.J (.str s)] λv=>∃b,v=.bool b:=by
 refine aa.z 310 ff rfl rfl ?_
 (conv=>whnf)
 repeat' (first|refine bZ ?_|refine a3 ?_|refine s2 ?_ ?_<;>intros|fail)<;>(conv=>whnf)
 all_goals exact⟨rfl,_,rfl⟩
def ag9(s:bj)(ap:s.length<100000):dz C 297 [.J (.str s)] λv=>∃b,v=.bool b:=by
 refine aa.z 297 ff rfl rfl ?_
 (conv=>whnf)
 repeat' (first|(refine aW (Yx aa s ap) ?_;rintro v A ⟨rfl,n,rfl,aD⟩)|(refine aW (aqr aa s) ?_;rintro v A ⟨rfl,b,rfl⟩)|refine bZ ?_|refine a3 ?_|refine s2 ?_ ?_<;>intros|fail)<;>(conv=>whnf)
 all_goals exact⟨rfl,_,rfl⟩
def aq7(g)(l:List bj)(s:bj)(Y:l.length<1000000):dz C 298 [.J (.aH g (l.map b6)),.J (.str s)] λv=>∃b,v=.bool b:=by
 refine aa.z 298 (gK [(0,[3,7,8],[],[])]) rfl rfl ?_;have hm:(l.map b6).length=l.length:=bW;refine N ?_;refine hs b6 l 6 (λ_ (_:Unit)=>[]) (λ_ _=>[]) (λ_ _=>True) ⟨(),trivial,by kernel_rfl⟩ (λd b x r ba aw be ag a7 bt=>?_) (λb ba a7=>?_)
 .unfold b6 at ag;refine dk ?_;refine cQ (λh=>?_) (λh=>?_)
  .refine N ?_;exact⟨rfl,_,rfl⟩
  .refine N ?_;exact bt () _ _ trivial (by kernel_rfl)
 .refine dd ?_;exact⟨rfl,_,rfl⟩
abbrev ao7(W:List cZ)(k m i:Nat)(args:List al):Prop:=∃(y:cZ)(c:em),m<(W.map cZ.cells).length/\fT (W.map cZ.cells) m=y.cells/\i<(y.dn.map em.row).length/\fT (y.dn.map em.row) i=em.row c/\Gp c/\args.length=c.dB.length/\∀x∈args,GT k x
abbrev ci:Nat×fB:=(8,.box 275 4 (.bS [.J (.int 3 0),.J (.int 3 0),.J (.int 3 0),.bx]))
def afO(W)(tk:∀x∈W,iN x)(oW:W.length<=1)(iD)(ec:bj)(k)(ar:k<1000)(t)(au:GT (k+1) t)(hN)(G:List c3)(v7:G.length<1000)(oz:∀x∈G,n3 x):dz C 268 [.J (.aH iD (W.map cZ.cells)),.J (.str ec),.J (.agg t.cells),.J (.aH hN (G.map c3.row))] λv=>∃m i n g args ok,v=.gy [.agg [.int 3 m,.int 3 i,.int 3 n,.aH g (args.map al.row)],.bool ok]/\(ok->n<1000\/n=18446744073709551615/\ao7 W k m i args):=by
 refine aa.z 268 (gK [(0,[7,8,19,20],[],[8,6]),(2,[9,10,11,12,13,14,24,25,26,27,28,29,30,31,32,33],[],[8,6]),(4,[11,12,13,14,28,29,30,31,32,33],[],[8,6]),(6,[14,33],[⟨true,16,3,900,43,2⟩],[8,16,900])]) rfl rfl ?_;have nQ:(W.map cZ.cells).length=W.length:=bW;have c4:(G.map c3.row).length=G.length:=bW;refine N ?_;refine aW (ag9 aa t.ay (by have:=au.ok;have:=(al.mS t).1 this;omega)) ?_;rintro v A ⟨rfl,b,rfl⟩;refine N ?_;refine eO (λaB=>?_) (λaB=>?_)
 .refine N ?_;refine hs c3.row G 18 (λ_ (_:Unit)=>[]) (λ_ _=>[ci,(6,.box 43 2 (.cb t.cells))]) (λ_ _=>True) ⟨(),trivial,by kernel_rfl⟩ (λd b x r ba aw be ag a7 bt=>?_) (λb ba a7=>?_)
  .have aY:d.length<G.length:=I;have M:=oz x (by simp[aw]);unfold c3.row at ag;refine dk ?_;refine cQ (λh=>?_) (λh=>?_)
   .refine bw ?_;refine aW (aq7 aa x.g x.ec ec (by have:=M.len;omega)) ?_;rintro v A ⟨rfl,b,rfl⟩;refine bw ?_;exact⟨rfl,_,_,_,1,[],_,rfl,λ_=>.inl I⟩
   .refine bw ?_;exact bt () _ _ trivial (by kernel_rfl)
  .refine dd ?_;exact⟨rfl,_,_,_,1,[],_,rfl,λh=>by cases h⟩
 .refine N ?_;refine hs cZ.cells W 23 (λ_ (_:Unit)=>[]) (λ_ _=>[ci,(6,.box 43 2 (.cb t.cells))]) (λ_ _=>True) ⟨(),trivial,by kernel_rfl⟩ (λd b y r ba aw be ag a7 bt=>?_) (λb ba a7=>?_)
  .have aY:d.length=0:=by rw[aw]at oW;simp at oW;omega
   have aE:=tk y (by simp[aw]);have cl:(y.dn.map em.row).length=y.dn.length:=bW;have eg:=aE.eg;have arO:=be;have wr:=ag;refine dk ?_;refine hs em.row y.dn 27 (λ_ (_:Unit)=>[]) (λ_ _=>[ci,(6,.box 43 2 (.cb t.cells))]) (λ_ _=>True) ⟨(),trivial,by kernel_rfl⟩ (λd2 b x r gl fb ft ct dq fj=>?_) (λb gl dq=>?_)
   .have g1:d2.length<y.dn.length:=I;have M:=aE.e0 x (by simp[fb]);have be:=ft;have ag:=ct;unfold em.row at ag
    (conv=>whnf)
    repeat' (first|refine .yes (dg.2 be) ?_|refine⟨be,⟨_,ag,?_⟩⟩|refine da ?_|refine a3 ?_|refine s2 ?_ ?_<;>intros|fail)<;>(conv=>whnf)
    rotate_left;all_goals try exact fj () _ _ trivial (by kernel_rfl)
    have a0:x.dB.length=t.l.length:=by simpa using ‹(List.map c3.row x.dB).length=(List.map al.row t.l).length›
    have dm:(t.l.map al.row).length=t.l.length:=bW;have t1:=au.2.1;refine hs al.row t.l 32 (λ_ (_:List al)=>[]) (λ_ l=>[ci,(16,.box 275 4 (.bS [.J (.int 3 d.length),.J (.int 3 d2.length),.J (.int 3 18446744073709551615),.bD 900])),(900,.bF 43 2 (l.map al.row) true)]) (λd l=>l.length=d.length/\∀x∈l,GT k x) ⟨[],⟨rfl,λ_ h=>by cases h⟩,by kernel_rfl⟩ (λd3 c9 z r zK CH JQ iv ng qe=>?_) (λc9 zK ng=>?_)
    .have DU:d3.length<t.l.length:=I;have cA:=au.2.2.2.2 z (by simp[CH]);have fp:(c9.map al.row).length=c9.length:=bW;have bC:=ng.1;have be:=JQ;have ag:=iv;rw[al.dN]at ag;refine zL ?_;refine aW (Rg aa k z cA ar) ?_;rintro v A ⟨rfl,cJ,rfl,Qp⟩;refine bw ?_;exact qe (c9++[cJ]) _ _ ⟨by simp[ng.1],λu hu=>by
      rcases l8.1 hu with hu|hu
      .exact ng.2 u hu
      .rw[ji.1 hu];exact Qp⟩ (by rw[jj,x5,al.dN cJ];kernel_rfl)
    .refine dd ?_;exact⟨rfl,_,_,_,_,c9,_,rfl,λ_=>.inr ⟨rfl,y,x,arO,wr,ft,ct,M,by rw[ng.1,a0],ng.2⟩⟩
   .refine dd ?_;exact bt () _ _ trivial (by kernel_rfl)
  .refine dd ?_;exact⟨rfl,_,_,_,1,[],_,rfl,λh=>by cases h⟩
def QN(W:List cZ)(tk:∀x∈W,iN x)(oW:W.length<=1)(iD)(hN)(G:List c3)(v7:G.length<1000)(oz:∀x∈G,n3 x):∀(k),k<1000->∀(ec:bj)(t),GT k t->dz C 213 [.J (.aH iD (W.map cZ.cells)),.J (.str ec),.J (.agg t.cells),.J (.aH hN (G.map c3.row))] λv=>∃b,v=.bool b:=by
 have nQ:(W.map cZ.cells).length=W.length:=bW;intro k;induction k with
 |zero=>intro _ ec t h;exact h.elim
 |succ k bQ=>
  intro ar ec t au;refine aa.z 213 (gK [(0,[8,9,10,15,16,17,18,19,20],[],[9]),(2,[10,19,20],[],[9])]) rfl rfl ?_;refine N ?_;refine aW (afO aa W tk oW iD ec k I t au hN G v7 oz) ?_;rintro v A ⟨rfl,m,i,n,g,args,ok,rfl,a4⟩;refine N ?_;cases ok with
  |false=>refine N ?_;exact⟨rfl,_,rfl⟩
  |true=>
   rcases a4 rfl with h|⟨rfl,y,c,f1,f2,f3,f4,f5,rf,K1⟩
   .have h:n<1000:=h;refine bw ?_;refine jQ (λ_=>?_) (λh=>absurd h (Nat.not_lt_zero _));refine bw ?_;exact⟨rfl,_,rfl⟩
   .unfold em.row at f4;have c4:(c.dB.map c3.row).length=c.dB.length:=bW;have cl:(args.map al.row).length=args.length:=bW;have en:=f5.hQ
    (conv=>whnf)
    repeat(first|refine⟨f1,⟨_,f2,?_⟩⟩|refine⟨f3,⟨_,f4,?_⟩⟩|refine bZ ?_);(conv=>whnf)
    refine .rJ ?_;rw[In]
    (conv=>whnf)
    repeat(first|refine⟨f1,⟨_,f2,?_⟩⟩|refine⟨f3,⟨_,f4,?_⟩⟩|refine bZ ?_);(conv=>whnf)
    refine hs c3.row c.dB 14 (λ_ (_:Unit)=>[]) (λ_ _=>[(9,.box 275 4 (.cb [.int 3 m,.int 3 i,.int 3 18446744073709551615,.aH g (args.map al.row)]))]) (λ_ _=>True) ⟨(),trivial,by kernel_rfl⟩ (λd b x r ba aw be ag a7 bt=>?_) (λb ba a7=>?_)
    .have aY:d.length<c.dB.length:=I;have M:=f5.ge x (by simp[aw]);unfold c3.row at ag;have Z6:d.length<(args.map al.row).length:=I;have⟨z,cA,BB⟩:=nU al.row Z6;rw[al.dN]at BB;have dm:(x.ec.map b6).length=x.ec.length:=bW;have fc:=M.len;refine dk ?_;refine hs b6 x.ec 18 (λ_ (_:Unit)=>[]) (λ_ _=>[(9,.box 275 4 (.cb [.int 3 m,.int 3 i,.int 3 18446744073709551615,.aH g (args.map al.row)]))]) (λ_ _=>True) ⟨(),trivial,by kernel_rfl⟩ (λd2 b s b3 gl fb ft ct dq fj=>?_) (λb gl dq=>?_)
     .have g1:d2.length<x.ec.length:=I;unfold b6 at ct
      (conv=>whnf)
      repeat(first|refine .yes (dg.2 ft) ?_|refine⟨ft,⟨_,ct,?_⟩⟩|refine⟨Z6,⟨_,BB,?_⟩⟩|(refine aW (bQ I s z (K1 z cA)) ?_;rintro v A ⟨rfl,b,rfl⟩)|refine bZ ?_);(conv=>whnf)
      refine eQ (eO (λh=>?_) (λh=>?_))
      .refine N ?_;exact fj () _ _ trivial (by kernel_rfl)
      .refine N ?_;exact⟨rfl,_,rfl⟩
     .refine dd ?_;exact bt () _ _ trivial (by kernel_rfl)
    .refine dd ?_;exact⟨rfl,_,rfl⟩
abbrev rm(b:Bool):di:=[.bool b]
omit aa in
def U1{α:Type}(f:α->di){l:List α}{i}(h:i<(l.map f).length):∃x,x∈l/\(l.map f)[i]?=some (f x):=by rw[ex]at h;exact⟨l[i],fQ h,by rw[yR,lX h];rfl⟩
def ahu(j)(bl:j<1000)(g)(names:List bj)(aD:names.length<1000):∀(k)(p),GT k p->k<1000->∀(t),GT j t->∀(cK:List Bool)(os:List al),cK.length=names.length->os.length=names.length->(∀t∈os,GT j t)->bU C [] 266 [.J (.agg p.cells),.J (.agg t.cells),.J (.aH g (names.map b6)),.bD 1000,.bD 1001] [(1000,.bF 4 1 (cK.map rm) false),(1001,.bF 43 2 (os.map al.row) false)] λv A=>∃(b:Bool)(act:List Bool)(SS:List al),v=.bool b/\act.length=names.length/\SS.length=names.length/\(∀t∈SS,GT j t)/\A=[(1000,.bF 4 1 (act.map rm) false),(1001,.bF 43 2 (SS.map al.row) false)]:=by
 intro k;induction k with
 |zero=>intro p h;exact h.elim
 |succ k bQ=>
  intro p bq ar t au cK os a1 aV vL;refine aa.z 266 (gK [(0,[13,14],[],[5,6,1000,1001])]) rfl rfl ?_;have⟨n0,ic,hF,oa,uR⟩:=bq;have nQ:(cK.map rm).length=cK.length:=ex ..;have c4:(os.map al.row).length=os.length:=ex ..;have cl:(p.l.map al.row).length=p.l.length:=ex ..;have dm:(t.l.map al.row).length=t.l.length:=ex ..;refine N ?_;refine aW (V1 aa g names p.ay (by omega)) ?_;rintro v A ⟨rfl,rfl|⟨i,aN,rfl⟩⟩;case' inl=>
   (conv=>whnf)
   repeat(first|refine .rJ ?_|refine bZ ?_);(conv=>whnf)
   refine .no In ?_
   (conv=>whnf)
   repeat' (first|refine da ?_|refine a3 ?_|refine s2 ?_ ?_<;>intros|fail)<;>(conv=>whnf)
  case' inr=>
   refine N ?_;refine jQ (λ_=>?_) (λh=>absurd h (Nat.not_lt_zero _));refine N ?_;refine ch (λcA=>?_) (λcA=>?_)
   .have be:i<(cK.map rm).length:=by omega
    have⟨z9,atB,ag⟩:=U1 rm be;unfold rm at ag;have ft:i<(os.map al.row).length:=by omega
    have⟨aej,UN,ct⟩:=U1 al.row ft;rw[al.dN]at ct
    (conv=>whnf)
    repeat(first|refine bV.mk be ?_|refine bV.mk ft ?_|refine⟨_,ag,?_⟩|refine⟨_,ct,?_⟩|refine bZ ?_);(conv=>whnf)
    refine eO (λcA=>?_) (λcA=>?_)
    ·(conv=>whnf)
     repeat(first|refine bV.mk be ?_|refine bV.mk ft ?_|refine⟨_,ag,?_⟩|refine⟨_,ct,?_⟩|refine bZ ?_);(conv=>whnf)
     refine aW (Wh aa j j aej t (vL aej UN) au) ?_;rintro v A ⟨rfl,b,rfl⟩;refine N ?_;exact⟨_,cK,os,rfl,a1,aV,vL,rfl⟩
    ·(conv=>whnf)
     repeat(first|refine bV.mk be ?_|refine bV.mk ft ?_|refine⟨_,ag,?_⟩|refine⟨_,ct,?_⟩|refine bZ ?_);(conv=>whnf)
     refine aW (Rg aa j t au bl) ?_;rintro v A ⟨rfl,a6,rfl,iL⟩
     (conv=>whnf)
     repeat(first|refine bV.mk be ?_|refine bV.mk ft ?_|refine⟨_,ag,?_⟩|refine⟨_,ct,?_⟩|refine bZ ?_);(conv=>whnf)
     exact⟨_,cK.set i true,os.set i a6,rfl,by rw[kg];exact a1,by rw[kg];exact aV,λu hu=>by
      rcases List.mem_or_eq_of_mem_set hu with hu|rfl
      .exact vL u hu
      .exact iL,by rw[List.map_set,List.map_set,al.dN a6]⟩
   (conv=>whnf)
   repeat' (first|refine da ?_|refine a3 ?_|refine s2 ?_ ?_<;>intros|fail)<;>(conv=>whnf)
  all_goals try exact⟨_,cK,os,rfl,a1,aV,vL,rfl⟩
  all_goals
   have a0:p.l.length=t.l.length:=by simpa using ‹(List.map al.row p.l).length=(List.map al.row t.l).length›
   refine hs al.row t.l 9 (λ_ (_:List Bool×List al)=>[]) (λ_ b=>[(5,.box 43 2 (.cb p.cells)),(6,.box 43 2 (.cb t.cells)),(1000,.bF 4 1 (b.1.map rm) false),(1001,.bF 43 2 (b.2.map al.row) false)]) (λ_ b=>b.1.length=names.length/\b.2.length=names.length/\∀t∈b.2,GT j t) ⟨(cK,os),⟨a1,aV,vL⟩,by kernel_rfl⟩ (λd b x r ba aw be ag a7 bt=>?_) (λb ba a7=>?_)
   .have aY:d.length<t.l.length:=by omega
    have ft:d.length<(p.l.map al.row).length:=by omega
    have⟨y,aE,ct⟩:=nU al.row ft;have M:x∈t.l:=by simp[aw]
    have⟨cD,dp⟩:=b;have⟨dR,du,gq⟩:=a7;have cs:GT j x:=by
     cases j with
     |zero=>exact au.elim
     |succ j=>exact(au.2.2.2.2 x M).mono (by omega)
    rw[al.dN]at ag ct;have fp:(cD.map rm).length=cD.length:=ex ..;have h5:(dp.map al.row).length=dp.length:=ex ..
    (conv=>whnf)
    repeat(first|refine .yes (dg.2 be) ?_|refine⟨be,⟨_,ag,?_⟩⟩|refine⟨ft,⟨_,ct,?_⟩⟩|refine da ?_);(conv=>whnf)
    refine aW (bQ y (uR y aE) (by omega) x cs cD dp dR du gq) ?_;rintro v A ⟨b,mh,bH,rfl,bC,aX,b4,rfl⟩;have aP:(cD.map rm).length=(mh.map rm).length:=by rw[ex,ex,dR,bC]
    have a3:(dp.map al.row).length=(bH.map al.row).length:=by rw[ex,ex,du,aX]
    (conv=>whnf)
    repeat(first|refine bV.mk aP ?_|refine bV.mk a3 ?_|refine bZ ?_);(conv=>whnf)
    refine eQ (eO (λh=>?_) (λh=>?_))
    .refine bw ?_;exact bt (mh,bH) _ _ ⟨bC,aX,b4⟩ (by kernel_rfl)
    .refine bw ?_;exact⟨_,mh,bH,rfl,bC,aX,b4,rfl⟩
   .refine dd ?_;exact⟨_,b.1,b.2,rfl,a7.1,a7.2.1,a7.2.2,rfl⟩
def apG(j k)(bl:j<1000)(ar:k<1000)(p)(bq:GT k p)(t)(au:GT j t)(g)(names:List bj)(aD:names.length<500):dz C 211 [.J (.agg p.cells),.J (.agg t.cells),.J (.aH g (names.map b6))] λv=>∃(aj:Nat)(l:List al)(ok:Bool),v=.gy [.aH aj (l.map al.row),.bool ok]/\(ok->l.length=names.length)/\(∀t∈l,GT j t)/\hJ 43 aj l:=by
 refine aa.z 211 (gK [(0,[7,8,15,16],[],[3,4]),(2,[11,21,22],[],[32,29])]) rfl rfl ?_;have er:(names.map b6).length=names.length:=bW;have Qy:∃(aj:Nat)(l:List al)(ok:Bool),b9.gy [.aH 1 [],.bool false]=.gy [.aH aj (l.map al.row),.bool ok]/\(ok=true->l.length=names.length)/\(∀t∈l,GT j t)/\hJ 43 aj l:=⟨1,[],false,rfl,(λh=>by cases h),(λ_ h=>by cases h),.inl rfl⟩;refine N ?_;refine hs b6 names 14 (λ_ (_:Unit)=>[]) (λ_ _=>[(3,.box 43 2 (.cb p.cells)),(4,.box 43 2 (.cb t.cells))]) (λ_ _=>True) ⟨(),trivial,by kernel_rfl⟩ (λd b x r ba aw be ag a7 bt=>?_) (λb ba a7=>?_)
 .have⟨y,aE,x2⟩:=nU b6 (l:=names) (i:=0) I;have aY:d.length<1000:=I;have Ik:((names.map b6).drop 0).take (d.length - 0)=d.map b6:=by rw[aw];simp
  unfold b6 at ag
  (conv=>whnf)
  repeat(first|refine dU.mk _ x2 ?_|refine .yes (dg.2 be) ?_|refine⟨be,⟨_,ag,?_⟩⟩|refine da ?_);(conv=>whnf)
  rcases Nat.eq_zero_or_pos d.length with br|br
  case' inl=>refine mK.zero rfl br ?_;refine N ?_;refine aW (Mt aa 0 [] x af) ?_
  case' inr=>refine mK.some br I ?_;rw[Ik];refine N ?_;refine aW (Mt aa _ d x I) ?_
  all_goals
   rintro v A ⟨rfl,b,rfl⟩
   refine N ?_
   refine eO (λh=>?_) (λh=>?_)
   .refine bw ?_;exact⟨rfl,Qy⟩
   .refine bw ?_;exact bt () _ _ trivial (by kernel_rfl)
 .have aQ:=ahu aa j bl g names I k p bq ar t au (List.replicate (names.map b6).length false) (List.replicate (names.map b6).length (al.mk [] 1 [])) (by rw[AW];exact er) (by rw[AW];exact er) (λt h=>by rw[(List.mem_replicate.1 h).2];exact GT.nil af af (by cases j with|zero=>exact au.elim|succ j=>omega));rw[List.map_replicate,List.map_replicate,al.dN,al.ay,al.g,al.l,hq]at aQ
  (conv=>whnf)
  repeat(first|refine bV.mk ⟨rfl,I⟩ ?_|refine .no (pe _) ?_|refine bZ ?_);(conv=>whnf)
  refine aW aQ ?_;rintro v A ⟨b,cK,os,rfl,bC,aX,b4,rfl⟩;have aP:(List.replicate (names.map b6).length [b9.bool false]).length=(cK.map rm).length:=by simp only[AW,ex,bC]
  have a3:(List.replicate (names.map b6).length [b9.str [],b9.aH 1 []]).length=(os.map al.row).length:=by simp only[AW,ex,aX]
  (conv=>whnf)
  repeat(first|refine bV.mk aP ?_|refine bV.mk a3 ?_|refine bZ ?_);(conv=>whnf)
  refine eQ (eO (λh=>?_) (λh=>?_))
  .have cl:(cK.map rm).length=cK.length:=bW;refine N ?_;refine hs rm cK 20 (λ_ (_:Unit)=>[]) (λ_ _=>[(32,.bF 43 2 (os.map al.row) false),(29,.bF 4 1 (cK.map rm) false)]) (λ_ _=>True) ⟨(),trivial,by kernel_rfl⟩ (λd b x r ba aw be ag a7 bt=>?_) (λb ba a7=>?_)
   .have ct:(cK.map rm)[d.length]?=some [.bool x]:=by rw[aw];simp
    (conv=>whnf)
    repeat(first|refine .yes (dg.2 be) ?_|refine bV.mk be ?_|refine⟨_,ct,?_⟩|refine da ?_);(conv=>whnf)
    refine eQ (eO (λh=>?_) (λh=>?_))
    .refine bw ?_;exact bt () _ _ trivial (by kernel_rfl)
    .refine bw ?_;exact⟨rfl,Qy⟩
   .refine dd ?_;exact⟨rfl,_,os,true,rfl,λ_=>aX,b4,.inr af⟩
  .refine bw ?_;exact⟨rfl,Qy⟩
end
def ai.agg{k}{ay mem:bj}{num aj}{bX:g4}{types:List al}{an}{fo:g4}{cg:List bj}{aM}{dk:g4}{bM:List dI}{bs}{ax:g4}{kids:List ai}(D:bX=types.map al.row)(F:fo=cg.map b6)(aq:dk=bM.map dI.row)(aL:ax=kids.map ai.row):b9.agg [.int 3 k,.str ay,.str mem,.int 3 num,.aH aj bX,.aH an fo,.aH aM dk,.aH bs ax,.str [],.aH 1 [],.int 3 0]=.agg (ai.cells (.mk k ay mem num aj types an cg aM bM bs kids (.mk [] 1 []) 0)):=by subst D F aq aL;rfl
def ai.D1{Ry}{k}{ay mem:bj}{num aj}{bX:g4}{types:List al}{an}{fo:g4}{cg:List bj}{aM}{dk:g4}{bM:List dI}{bs}{ax:g4}{kids:List ai}(D:bX=types.map al.row)(F:fo=cg.map b6)(aq:dk=bM.map dI.row)(aL:ax=kids.map ai.row):b9.gy [.agg [.int 3 k,.str ay,.str mem,.int 3 num,.aH aj bX,.aH an fo,.aH aM dk,.aH bs ax,.str [],.aH 1 [],.int 3 0],.bool Ry]=.gy [.agg (ai.cells (.mk k ay mem num aj types an cg aM bM bs kids (.mk [] 1 []) 0)),.bool Ry]:=by subst D F aq aL;rfl
def pm:([]:g4)=([]:List al).map al.row:=rfl
def mO(t):[t.cells]=[t].map al.row:=by rw[gg,hq,al.dN]
def mG:([]:g4)=([]:List bj).map b6:=rfl
def lm:([]:g4)=([]:List dI).map dI.row:=rfl
def Wj:([]:g4)=([]:List ai).map ai.row:=rfl
def pF(e):[e.cells]=[e].map ai.row:=by rw[gg,hq,ai.dN]
def mM(a b):[a.cells,b.cells]=[a,b].map ai.row:=by rw[gg,gg,hq,ai.dN,ai.dN]
def ae6(a b c):[a.cells,b.cells,c.cells]=[a,b,c].map ai.row:=by rw[gg,gg,gg,hq,ai.dN,ai.dN,ai.dN]
structure jP(g:Nat)(l:List al):Prop where
 len:l.length<=5
 bL:∀t∈l,GT 400 t
 yK:hJ 43 g l
variable{a b:ai}{g n:Nat}
def jP.nil:jP g []:=⟨by simp,λ_ h=>by(cases h),.inl rfl⟩
def jP.one{K t}(bI:g / 2=43)(h:GT K t)(gP:K<=400):jP g [t]:=⟨by simp,λx M=>by rw[ji.1 M];exact h.mono gP,.inr bI⟩
structure km(g:Nat)(l:List bj):Prop where
 len:l.length<=20
 bL:∀t∈l,t.length<=300
 yK:hJ 9 g l
def km.nil:km g []:=⟨by simp,λ_ h=>by(cases h),.inl rfl⟩
def km.one{t}(bI:g / 2=9)(h:t.length<=300):km g [t]:=⟨by simp,λx M=>by rw[ji.1 M];exact h,.inr bI⟩
structure kP(g:Nat)(l:List dI):Prop where
 len:l.length<=20
 bL:∀t∈l,Kx t
 yK:hJ 105 g l
def kP.nil:kP g []:=⟨by simp,λ_ h=>by(cases h),.inl rfl⟩
structure ks(n g:Nat)(l:List ai):Prop where
 len:l.length<=12
 bL:∀t∈l,GE n t
 yK:hJ 45 g l
def ks.nil(n):ks n g []:=⟨by simp,λ_ h=>by(cases h),.inl rfl⟩
def ks.one(bI:g / 2=45)(h:GE n a):ks n g [a]:=⟨by simp,λx M=>by rw[ji.1 M];exact h,.inr bI⟩
def ks.two(bI:g / 2=45)(h:GE n a)(F:GE n b):ks n g [a,b]:=⟨by simp,λx M=>by
 simp only[hS,Ax,Cm]at M;rcases M with rfl|rfl
 .exact h
 .exact F,.inr bI⟩
def ks.three{c}(bI:g / 2=45)(h:GE n a)(F:GE n b)(aq:GE n c):ks n g [a,b,c]:=⟨by simp,λx M=>by
 simp only[hS,Ax,Cm]at M;rcases M with rfl|rfl|rfl
 .exact h
 .exact F
 .exact aq,.inr bI⟩
def kY{k num aj types an cg aM bM bs kids ay mem}(ar:k<100)(D:ay.length<=300)(F:mem.length<=300)(aq:num<18446744073709551616)(t:jP aj types)(m:km an cg)(a:kP aM bM)(x:ks n bs kids)(sZ:k=15->0<kids.length:=by first|exact λh=>absurd h (by decide)|simp):GE (n+1) (.mk k ay mem num aj types an cg aM bM bs kids (.mk [] 1 []) 0):=
 ⟨⟨D,F,ar,aq,t.len,t.bL,t.yK,m.len,m.bL,m.yK,a.len,a.bL,a.yK,x.len,x.yK,rfl,sZ⟩,x.bL⟩
end Go.Tx
