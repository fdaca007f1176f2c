/- A part. -/
import Derived.Test.YtkjmpcfikenlbaaGreatDoorH0
set_option linter.all false
namespace Go.Tx
open Go Go.Ev
def pK(ak aR:Nat)(c:di):Prop:=(ak=134/\(aR=3/\c=[.bool true]\/aR=4/\∃e,c=ai.cells e/\GE 10 e))\/(ak=49/\aR=9/\∃e,c=ai.cells e/\GE 10 e)
section
variable{ak aR:Nat}{c:di}
def pK.cj{l}(cw:pK ak aR c)(D:cj [134] l)(F:cj [49] l):cj [ak] l:=by
 rcases cw with⟨rfl,_⟩|⟨rfl,_⟩
 .exact D
 .exact F
def mV{t}{bX l:di}(h:hg ak aR c (t::bX) l):∃a6 aK,l=a6::aK/\ix ak aR c t a6/\hg ak aR c bX aK:=by simpa only[hg]using h
def qr.xw:∀{bX}{l},qr ak aR c (bX.map .J) l->∃nI,l=nI.map .J/\hg ak aR c bX nI
 |[],l,h=>⟨[],h,by simp only[hg]⟩
 |t::bX,l,h=>by obtain⟨b7,aK,rfl,⟨a6,rfl,D⟩,F⟩:=h;obtain⟨nI,rfl,aq⟩:=qr.xw F;exact⟨a6::nI,rfl,by simp only[hg];exact⟨a6,nI,rfl,D,aq⟩⟩
variable{a:cG}{e g:Nat}{r:bK}{t:b9}{x:cZ}
def XQ(cw:pK 134 aR c)(aC:rS a):∃bz,rS bz/\uV (cG.row a) aR c=cG.row bz:=by
 rcases cw with⟨_,⟨rfl,rfl⟩|⟨rfl,e,rfl,aw⟩⟩|⟨h,_⟩
 .exact⟨{a with has:=true},⟨aC.ay,aC.bL,aC.HK⟩,rfl⟩
 .refine⟨{a with gk:=e},⟨aC.ay,aC.bL,aw⟩,?_⟩;have⟨ay,bL,has,d⟩:=a;cases d;cases e;rfl
 .omega
def YR{a}(cw:pK 49 aR c)(aC:mT a):∃bz,mT bz/\uV (cu.row a) aR c=cu.row bz:=by
 rcases cw with⟨h,_⟩|⟨_,rfl,e,rfl,aw⟩
 .omega
 .refine⟨{a with body:=e},⟨aC.since,aC.ay,aC.hQ,aC.ge,aC.er,aC.jI,aC.jO,aC.f8,aC.eW,aw⟩,?_⟩;have⟨s,p,i,ay,aj,jg,an,b5,eW,has,d⟩:=a;cases d;cases e;rfl
def Xb{r}(cw:pK ak aR c)(aC:rS a)(h:hg ak aR c (cG.row a) r):r=cG.row a:=hg.no (aC.cj (cw.cj af af)) h
def WS(cw:pK ak aR c)(aw:e=134):∀{b5:List cG}{l},(∀a∈b5,rS a)->mU ak aR c e (b5.map cG.row) l->∃iT:List cG,l=iT.map cG.row/\iT.length=b5.length/\∀a∈iT,rS a
 |[],l,aC,h=>by simp only[hq,mU]at h;exact⟨[],h,rfl,λ_ h=>by cases h⟩
 |a::b5,l,aC,h=>by
  simp only[gg,mU]at h;have⟨dC,aK,D,F,aq⟩:=h;have D:=Xb cw (aC a ua) D;subst D;obtain⟨iT,rfl,aL,bO⟩:=WS cw aw (λx M=>aC x (tD _ M)) aq;rcases F with rfl|⟨F,rfl⟩
  .exact⟨a::iT,rfl,by simp[aL],λx M=>by
    rcases hS.1 M with rfl|M
    .exact aC _ ua
    .exact bO x M⟩
  .subst aw;subst F;have⟨bz,aj,an⟩:=XQ cw (aC a ua);exact⟨bz::iT,by rw[an];rfl,by simp[aL],λx M=>by
    rcases hS.1 M with rfl|M
    .exact aj
    .exact bO x M⟩
def al2(cw:pK ak aR c){g}{b5}(hm:hJ 134 g b5)(aC:∀a∈b5,rS a){t}(h:ix ak aR c (.aH g (b5.map cG.row)) t):∃iT:List cG,t=.aH g (iT.map cG.row)/\iT.length=b5.length/\∀a∈iT,rS a:=by
 simp only[ix]at h;obtain⟨gw,rfl,h⟩:=h;cases b5 with
 |nil=>simp only[hq,mU]at h;subst h;exact⟨[],rfl,rfl,λ_ h=>by cases h⟩
 |cons a b5=>
  rcases hm with hm|hm
  .cases hm
  .obtain⟨iT,rfl,D,F⟩:=WS cw hm aC h;exact⟨iT,rfl,D,F⟩
def Yz{α}{ak g}{l m:List α}(h:hJ ak g l)(Y:m.length=l.length):hJ ak g m:=by
 rcases h with rfl|h
 .exact .inl (List.eq_nil_of_length_eq_zero Y)
 .exact .inr h
def XR(cw:pK ak aR c){f}(a1:mT f){r}(h:hg ak aR c (cu.row f) r):∃mh,mT mh/\r=cu.row mh:=by have kQ:∀{t a6:b9},cf [ak] t=false->ix ak aR c t a6->a6=t:=λD F=>ix.no D F;have h:hg ak aR c (.int 3 f.since::.bool f.dr::.bool f.inl::.str f.ay::.aH f.aj (f.dB.map c3.row)::.aH f.an (f.args.map cG.row)::.str f.eW.ay::.aH f.eW.g (f.eW.l.map al.row)::.bool f.has::ai.cells f.body) r:=h;obtain⟨t1,cH,rfl,ef,h⟩:=mV h;obtain⟨j5,cq,rfl,fO,h⟩:=mV h;obtain⟨rW,c9,rfl,j3,h⟩:=mV h;obtain⟨uQ,eg,rfl,lz,h⟩:=mV h;obtain⟨KX,fJ,rfl,n9,h⟩:=mV h;obtain⟨afk,v8,rfl,mC,h⟩:=mV h;obtain⟨DP,aqV,rfl,BG,h⟩:=mV h;obtain⟨DQ,ajY,rfl,Wc,h⟩:=mV h;obtain⟨K3,mY,rfl,VL,h⟩:=mV h;have aP:=kQ (by simp only[cf]) ef;have a3:=kQ (by simp only[cf]) fO;have cW:=kQ (by simp only[cf]) j3;have g5:=kQ (by simp only[cf]) lz;have mm:=kQ (uc a1.er a1.ge (cw.cj af af)) n9;have Ll:=kQ (by simp only[cf]) BG;have Bo:=kQ (a1.eW.cj (cw.cj af af)) Wc;have vU:=kQ (by simp only[cf]) VL;have ajO:=hg.no (a1.yc.cj (cw.cj af af)) h;have⟨iT,FX,bC,aX⟩:=al2 cw a1.f8 a1.jO mC;subst aP a3 cW g5 mm FX Ll Bo vU ajO;exact⟨{f with args:=iT},⟨a1.since,a1.ay,a1.hQ,a1.ge,a1.er,by rw[bC];exact a1.jI,aX,Yz a1.f8 bC,a1.eW,a1.yc⟩,rfl⟩
def XB(cw:pK ak aR c)(aw:e=49):∀{b5:List cu}{l},(∀a∈b5,mT a)->mU ak aR c e (b5.map cu.row) l->∃iT:List cu,l=iT.map cu.row/\iT.length=b5.length/\∀a∈iT,mT a
 |[],l,aC,h=>by simp only[hq,mU]at h;exact⟨[],h,rfl,λ_ h=>by cases h⟩
 |a::b5,l,aC,h=>by
  simp only[gg,mU]at h;have⟨dC,aK,D,F,aq⟩:=h;obtain⟨f,a1,rfl⟩:=XR cw (aC a ua) D;obtain⟨iT,rfl,aL,bO⟩:=XB cw aw (λx M=>aC x (tD _ M)) aq;rcases F with rfl|⟨F,rfl⟩
  .exact⟨f::iT,rfl,by simp[aL],λx M=>by
    rcases hS.1 M with rfl|M
    .exact a1
    .exact bO x M⟩
  .subst aw;subst F;have⟨bz,aj,an⟩:=YR cw a1;exact⟨bz::iT,by rw[an];rfl,by simp[aL],λx M=>by
    rcases hS.1 M with rfl|M
    .exact aj
    .exact bO x M⟩
def aoo(cw:pK ak aR c){g}{b5}(hm:hJ 49 g b5)(aC:∀a∈b5,mT a){t}(h:ix ak aR c (.aH g (b5.map cu.row)) t):∃iT:List cu,t=.aH g (iT.map cu.row)/\iT.length=b5.length/\∀a∈iT,mT a:=by
 simp only[ix]at h;obtain⟨gw,rfl,h⟩:=h;cases b5 with
 |nil=>simp only[hq,mU]at h;subst h;exact⟨[],rfl,rfl,λ_ h=>by cases h⟩
 |cons a b5=>
  rcases hm with hm|hm
  .cases hm
  .obtain⟨iT,rfl,D,F⟩:=XB cw hm aC h;exact⟨iT,rfl,D,F⟩
def asb(cw:pK ak aR c){x}(M:iN x){r}(h:hg ak aR c (cZ.cells x) r):∃cK,r=cZ.cells {x with funcs:=cK}/\cK.length=x.funcs.length/\iN {x with funcs:=cK}:=by
 have kQ:∀{t a6:b9},cf [ak] t=false->ix ak aR c t a6->a6=t:=λD F=>ix.no D F;obtain⟨t1,cH,rfl,ef,h⟩:=mV h;obtain⟨j5,cq,rfl,fO,h⟩:=mV h;obtain⟨rW,c9,rfl,j3,h⟩:=mV h;obtain⟨uQ,eg,rfl,lz,h⟩:=mV h;obtain⟨KX,fJ,rfl,n9,h⟩:=mV h;obtain⟨afk,v8,rfl,mC,h⟩:=mV h;obtain⟨DP,aqV,rfl,BG,h⟩:=mV h;obtain⟨DQ,ajY,rfl,Wc,h⟩:=mV h;obtain⟨K3,mY,rfl,VL,h⟩:=mV h;have aP:=kQ (by simp only[cf]) ef;have a3:=kQ (by simp only[cf]) fO;have cW:=kQ (by simp only[cf]) j3;have g5:=kQ M.nw lz;have mm:=kQ (M.cK (cw.cj af af)) n9;have FX:=kQ (M.tc (cw.cj af af)) mC;have Ll:=kQ (M.ka (cw.cj af af)) BG;have Bo:=kQ (M.uZ (cw.cj af af)) Wc;have lK:mY=[]:=by simpa only[hg]using h
 have⟨cK,vU,bC,aX⟩:=aoo cw M.ny M.gB VL;subst aP a3 cW g5 mm FX Ll Bo vU lK;exact⟨cK,rfl,bC,⟨M.kind,M.rel,M.ay,M.tW,M.cH,M.cT,M.er,M.cq,M.cN,M.f8,M.c9,M.el,M.jy,M.eg,M.e0,M.lj,by rw[show({x with funcs:=cK}:cZ).funcs=cK from rfl,bC];exact M.fJ,aX,Yz M.ny bC⟩⟩
def iO.wr{cK}(h:iO x)(Y:cK.length=x.funcs.length)(bI:iN {x with funcs:=cK}):iO {x with funcs:=cK}:=
 ⟨bI,h.fO,h.j3,h.lz,h.n9,by
  rcases h.mC with⟨D,F⟩|D
  .exact .inl ⟨List.eq_nil_of_length_eq_zero (by rw[show({x with funcs:=cK}:cZ).funcs=cK from rfl,Y,D];rfl),F⟩
  .exact .inr D,h.m0⟩
def Uv{s}(cw:pK ak aR c)(M:iO x)(h:qr ak aR c (.bN s 0::.J (.aH 1 [])::.J (.aH 1 [])::(cZ.cells x).map .J) r):∃cK,r=.bN s 0::.J (.aH 1 [])::.J (.aH 1 [])::(cZ.cells {x with funcs:=cK}).map .J/\cK.length=x.funcs.length/\iO {x with funcs:=cK}:=by obtain⟨b7,aK,rfl,aP,h⟩:=h;have aP:b7=.bN s 0:=aP;subst aP;obtain⟨bX,rfl,br⟩:=qr.xw (bX:=.aH 1 []::.aH 1 []::cZ.cells x) h;obtain⟨t1,cH,rfl,ef,D⟩:=mV br;obtain⟨j5,cq,rfl,fO,F⟩:=mV D;have aP:=ix.no (by simp only[cf]) ef;have a3:=ix.no (by simp only[cf]) fO;subst aP a3;obtain⟨cK,rfl,bC,aX⟩:=asb cw M.ck F;exact⟨cK,rfl,bC,M.wr bC aX⟩
def Vn{Q a}(cw:pK ak aR c)(aS:jW Q)(bI:g / 2=3)(h:qr ak aR c [.J (.op g Q.W),.J (.int 3 a)] r):r=[.J (.op g Q.W),.J (.int 3 a)]:=by obtain⟨bX,rfl,br⟩:=qr.xw (bX:=[.op g Q.W,.int 3 a]) h;have:=hg.no (tV (aS.cj bI (X:=[ak]) (by rcases cw with⟨rfl,_⟩|⟨rfl,_⟩<;>rfl)) (tV (a:=.int 3 a) (by simp only[cf]) BX)) br;rw[this];rfl
def aa2{f}(cw:pK ak aR c)(a1:mT f)(bI:g / 4=49)(h:ix ak aR c (.hy g (cu.row f) 0) t):∃mh,mT mh/\t=.hy g (cu.row mh) 0:=by
 simp only[ix]at h;have⟨dC,D,F⟩:=h;obtain⟨f1,ada,rfl⟩:=XR cw a1 D;rcases F with rfl|⟨F,rfl⟩
 .exact⟨f1,ada,rfl⟩
 .rw[bI]at F;subst F;have⟨bz,aj,an⟩:=YR cw ada;exact⟨bz,aj,by rw[an]⟩
def Xn{f}(cw:pK ak aR c)(a1:rS f)(bI:g / 4=134)(h:ix ak aR c (.hy g (cG.row f) 0) t):∃mh,rS mh/\t=.hy g (cG.row mh) 0:=by
 simp only[ix]at h;have⟨dC,D,F⟩:=h;have D:=Xb cw a1 D;subst D;rcases F with rfl|⟨F,rfl⟩
 .exact⟨f,a1,rfl⟩
 .rw[bI]at F;subst F;have⟨bz,aj,an⟩:=XQ cw a1;exact⟨bz,aj,by rw[an]⟩
end
section
variable{C:Nat->cE}{h:kH}{P:dK}{es:aO}
variable{E L:bK}{GH:Array Edge}{d i aT:Nat}{ah:dM}{k:AA}{ce:bK->bf->Prop}{bJ:yy->bK->bf->Prop}{l:gT}{jc:Nat->Option qq}{av:Array Oper}{c7:String}{A:bf}{v:a2}{x:Operand}
def tK{B}(D:(z7 B.op|| !Nat.blt (B.dst.getD 0) 1000)=false)(F:KU B.dst=λk=>k d)(aq:B.guard=none)(H:w3 C h P es ah d B.op L E A λv L E A=>tJ es aT B.dst v L E λL E=>k4 C h P es aT av (B.dst::ah) l L E A k):k4 C h P es aT av ah (B::l) L E A k:=by unfold k4;rw[D,F,aq];exact H
theorem afE{fe}{t}(D:Nat.blt d 1000)(F:Nat.blt d aT)(aq:jB d es=some i)(aL:∀k,hH es ah L E x k=k v)(bO:j9 E i v=fe)(H:k4 C h P es aT av (some d::ah) l (v::L) fe A k):k4 C h P es aT av ah (⟨some d,.assign x,t,c7,GH,none⟩::l) L E A k:=by
 subst bO
 refine tK (B:=⟨some d,.assign x,t,c7,GH,none⟩) (d:=d) ?_ rfl rfl ?_
 .show(false|| !Nat.blt d 1000)=false
  rw[D];rfl
 .show hH es ah L E x _
  rw[aL]
  show tJ es aT (some d) v L E _
  unfold tJ
  simp only[F,aq]
  rw[AU]
  exact H
theorem Vj(H:k L E A):k4 C h P es aT av ah [] L E A k:=H
theorem Bk{op}{t}(br:(z7 op|| !Nat.blt d 1000)=false)(aQ:∀k,w3 C h P es ah d op L E A k=k v L E A)(F:Nat.blt d aT)(aq:jB d es=none)(H:k4 C h P es aT av (some d::ah) l (v::L) E A k):k4 C h P es aT av ah (⟨some d,op,t,c7,GH,none⟩::l) L E A k:=by
 refine tK (B:=⟨some d,op,t,c7,GH,none⟩) (d:=d) br rfl rfl ?_
 show w3 C h P es ah d op L E A _
 rw[aQ]
 show tJ es aT (some d) v L E _
 unfold tJ
 simp only[F,aq]
 exact H
theorem anF{y g aJ aR iq a9 ak ej bX}{t bL}(aQ:me P (.store t x y)=.wr)(M:∀k,hH es ah L E x k=k (.J (.hy g aJ aR)))(aE:∀k,hH es ah L E y k=k (.J iq))(D:(lw (outs A)&&gC ((outs A).flatMap (t4 A)) 0))(mB:∀k:List Nat->Prop,tH (outs A) k=k a9)(bI:g / 4=ak/\g % 2=1)(hm:cn ak (fq h.dL))(aB:∀k,x7 a9 A 1000 a9 k=k ej)(cw:∀k,Fo E h.xu k=k bX)(H:E1 P t (.hy g aJ aR) iq bX ej λbX ej=>ia [ak] L E A λL E A=>Kz E h.xu bX λE=>xW a9 1000 a9 ej A λA=>k4 C h P es aT av (none::ah) l (.J .undef::L) E A k):k4 C h P es aT av ah (⟨none,.store t x y,bL,c7,GH,none⟩::l) L E A k:=by
 refine tK (B:=⟨none,.store t x y,bL,c7,GH,none⟩) (d:=0) rfl rfl rfl ?_
 show w3 C h P es ah 0 (.store t x y) L E A _
 unfold w3
 rw[aQ]
 show hH es ah L E x _
 rw[M,aE]
 unfold Ls
 simp only[D]
 rw[mB]
 refine Jy.mk ak bI hm ?_
 rw[aB,cw]
 exact H
theorem ae8{n}(H:k4 C h P es aT av [] av.toList [] E A λ_ E A=>ce E A):lG C h jc P es aT (.region n av false) i E A ce bJ:=by
 unfold lG;exact H
theorem ajz{a b}(a1:Ha a=false)(H:lG C h jc P es aT a 0 E A (λE A=>lG C h jc P es aT b 0 E A ce bJ) bJ):lG C h jc P es aT (.seq a b) i E A ce bJ:=by
 unfold lG;simp only[a1];exact H
end
set_option maxRecDepth 100000
set_option maxHeartbeats 8000000
attribute [local irreducible] eo eA bU eE eJ eN cU eX
section
variable{C:Nat->cE}{ext:Nat->Option eS}{Q:e9}(aa:Env C ext Q)
include aa
variable{g:Nat}
variable{p:sj}
def acG{x}(M:iO x)(Mo):dz C 63 [.J (.hy 259 ([Mo,.aH 1 [],.aH 1 []]++x.cells) 0)] λv=>∃g,v=.aH g [x.cells]/\g / 2=34:=Tv aa x 1 [] Mo
omit aa in
omit aa in
def T0{x}(M:iO x){iD}{cj}(ahv:cj.length<=100){f}(a1:mT f){hQ}{jY}(D:jY.length<=1)(F:∀s∈jY,s.length<=100):Fe ⟨iD,[x],cj,hQ,jY,f.aj,f.dB⟩:=
 ⟨fI 1,λy aE=>by rw[ji.1 aE];exact M.ck,ahv,vK D af,F,a1.hQ,a1.ge,a1.er⟩
omit aa in
omit aa in
def adi{f}(bq:Fe p)(a1:mT f):so p f.args 5 5:=⟨bq,a1.jI,λx M=>(a1.jO x M).bL,λx M=>(a1.jO x M).ay⟩
omit aa in
omit aa in
def aix(bq:Fe p):so p [] 5 5:=⟨bq,qG _,(λx M=>by cases M),(λx M=>by cases M)⟩
attribute [local irreducible] cf eD h7
def afz(x)(M:iO x)(aS:jW Q)(gd:g / 2=3)(a)(aC:a<=Q.length):bU C [134,49] 21 [.bN 1000 0] [(1000,jr x),(1001,dD g Q a)] λv A=>∃(y:cZ)(a:Nat),A=[(1000,jr y),(1001,dD g Q a)]/\a<=Q.length/\iO y/\A7 x y/\y.funcs.length=x.funcs.length:=by
 refine aa.z 21 (vd [(0,⟨[1,2,3,4,5,8,9,10,11],[],[],[1000,1001]⟩)]) rfl rfl ?_;have nQ:(x.funcs.map cu.row).length=x.funcs.length:=ex ..;refine bw ?_;refine qU (α:=Nat×cZ×Nat) (λb=>[(7,.J (.int 3 b.1))]) (λb=>[(1000,jr b.2.1),(1001,dD g Q b.2.2)]) (λb=>x.funcs.length - b.1) (λb=>b.1<=x.funcs.length/\iO b.2.1/\A7 x b.2.1/\b.2.1.funcs.length=x.funcs.length/\b.2.2<=Q.length) ⟨(0,x,a),⟨qG _,M,⟨_,_,rfl⟩,rfl,aC⟩,by kernel_rfl⟩ (λb ba a7 bt=>?_);have⟨i,y,bk⟩:=b;have⟨dR,aE,gG,gq,fN⟩:=a7;simp only at dR aE gG gq fN bt ⊢;have yi:=aE.ck.ay;have at8:=aE.ck.fJ;have atQ:=M.ck.fJ;have tm:(y.funcs.map cu.row).length=y.funcs.length:=ex ..;refine bw ?_;refine eh (λaN=>?_) (λaN=>?_)
 .have⟨f,a1,ag⟩:=nU cu.row (l:=y.funcs) (i:=i) (by omega);have pO:=aE.ck.gB f a1;have atl:y.dj / 2=49:=by
   rcases aE.ck.ny with h|h
   .rw[h]at a1;cases a1
   .exact h
  have as2:=pO.jI;have er:(f.args.map cG.row).length=f.args.length:=ex ..
  (conv=>whnf)
  repeat((first|refine dU.mk _ ag ?_|refine .mk ⟨rfl,by simp only[lM,md];omega⟩ ?_|refine .mk (by omega) ?_|refine .mk (by simp only[fP,lM,md];omega) ?_|refine .nice (by omega) ?_|refine .plain ?_|refine .yes (by decide) ?_|refine .no (by decide) ?_|refine qi (by kernel_rfl) ?_);(conv=>whnf))
  refine eh (λar=>?_) (λar=>?_);case' refine_1=>
   refine bw ?_;refine aW (wQ aa aS _ 3 (by assumption) (by decide) (by decide)) ?_;rintro v A ⟨⟨dk,rfl⟩,bu,cy,rfl⟩;cases dk;case' false=>
    (conv=>whnf)
    repeat(first|refine .no rfl ?_|refine bZ ?_);(conv=>whnf)
    have AK:=aE;have G3:=pO;have Lf:=gG;have OT:=gq;have M2:=cy
   case' true=>
    have⟨z,cA,ct⟩:=nU cG.row (l:=f.args) (i:=(f.args.map cG.row).length - 1) (by omega);have J8:=pO.jO z cA;have Yi:f.an / 2=134:=by
     rcases pO.f8 with h|h
     .rw[h]at ar;simp at ar
     .exact h
    have cw:pK 134 3 [.bool true]:=.inl ⟨rfl,.inl ⟨rfl,rfl⟩⟩;have PL:(4*(f.an / 2)+1) / 4=134:=by omega
    (conv=>whnf)
    repeat((first|refine .yes rfl ?_|refine .mk ⟨rfl,by simp only[lM,md];omega⟩ ?_|refine .mk (by omega) ?_|refine .mk (by simp only[fP,lM,md];omega) ?_|refine .nice (by omega) ?_|refine .plain ?_|refine .yes (by decide) ?_|refine .no (by decide) ?_|refine qi (by kernel_rfl) ?_);(conv=>whnf))
    refine dU.mk _ ct ?_;show k4 _ _ _ _ _ _ _ _ _ _ _ _;refine afE rfl rfl rfl (λk=>rfl) (by simp only[j9];exact rfl) ?_;refine Vj ?_;first|refine ajz rfl ?_|skip
    refine ae8 ?_;refine Bk rfl (λk=>rfl) rfl rfl ?_;refine Bk rfl (λk=>rfl) rfl rfl ?_;refine Bk rfl (λk=>rfl) rfl rfl ?_;refine anF (ak:=134) rfl (λk=>rfl) (λk=>rfl) rfl (λk=>rfl) ⟨by omega,by omega⟩ rfl (λk=>rfl) (λk=>rfl) ?_;refine E1.mk (RO (m:=0) (c:=[.bool true]) rfl (by omega) (by omega) (.inr ⟨rfl,rfl,rfl⟩) (tV (by simp only[cf]) BX) (La rfl) (Nat.ne_of_beq_eq_false rfl) rfl (λnI kL ef fO=>?_));rw[PL]at ef fO;obtain⟨t1,cT,rfl,j3,lz⟩:=mV ef;obtain⟨j5,cN,rfl,n9,mC⟩:=mV lz;have BG:cN=[]:=by simpa only[hg]using mC
    subst BG;obtain⟨f1,ak7,rfl⟩:=aa2 cw pO (by omega) j3;obtain⟨gV,aaw,rfl⟩:=Xn cw J8 (by omega) n9;obtain⟨dC,el,rfl,v1,b3,e0,rfl,v2,rfl⟩:=fO;obtain⟨cK,rfl,bC,lr⟩:=Uv cw aE v1;have vo:=Vn cw aS gd v2;subst vo;show ia [134] _ _ _ _;refine i6 trivial ?_;have cD:=aS.cj gd (X:=[134]) rfl;have dp:cf [134] (.aH f.aj (f.dB.map c3.row))=false:=uc pO.er pO.ge (by decide);simp(disch:=first|assumption|with_unfolding_all rfl) only[gg,hq,dF,iI,iV,i1,i2,i3,i0,iY,jn,nZ,m9,pL,ij,lv];refine bw ?_;refine aW (acG aa lr _) ?_;rintro v A ⟨rfl,iD,rfl,A4⟩
    (conv=>whnf)
    repeat(first|refine bV.mk (MW (X:=[60,64]) A4 (by decide) (lr.ck.cj (by decide))) ?_|refine da ?_);(conv=>whnf)
    refine aW (adw aa aS 2 (by decide) 5 5 (by decide) (by decide) ⟨iD,[_],y.ay,1,[],f.aj,f.dB⟩ [] (aix (T0 lr yi pO (qG _) (λs h=>by cases h))) _ aaw.bL 1 10 0 _ (by assumption) (by decide)) ?_;rintro v A ⟨⟨aP,rfl,anl⟩,b1,asp,aqh,dl,mu,rfl⟩;have fb:=anl.mono (show 4+2<=10 by decide);have Jo:pK 134 4 (ai.cells aP):=.inl ⟨rfl,.inr ⟨rfl,aP,rfl,fb⟩⟩;refine bw ?_;refine Jy.mk 134 ⟨by omega,by omega⟩ rfl ?_;refine N ?_;refine E1.mk (RO (m:=10) (c:=ai.cells aP) rfl (by omega) (by omega) (.inl ⟨rfl,rfl⟩) (by rw[PL];exact fb.cj (by decide)) (La rfl) (Nat.ne_of_beq_eq_false rfl) rfl (λnI kL ef fO=>?_));rw[PL]at ef fO;obtain⟨t1,cT,rfl,j3,lz⟩:=mV ef;obtain⟨j5,cN,rfl,n9,mC⟩:=mV lz;have BG:cN=[]:=by simpa only[hg]using mC
    subst BG;obtain⟨f2,agF,rfl⟩:=aa2 Jo ak7 (by omega) j3;obtain⟨gA,asn,rfl⟩:=Xn Jo aaw (by omega) n9;obtain⟨dC,el,rfl,v1,b3,e0,rfl,v2,rfl⟩:=fO;obtain⟨X7,rfl,aX,Oy⟩:=Uv Jo lr v1;have vo:=Vn Jo aS gd v2;subst vo;show ia [134] _ _ _ _;refine i6 trivial ?_;simp(disch:=first|assumption|with_unfolding_all rfl) only[gg,hq,dF,iI,iV,i1,i2,i3,i0,iY,jn,nZ,m9,pL,ij,lv];refine bw ?_;have AK:iO {y with funcs:=X7}:=Oy;have qj:aqh<=160000:=mu;have G3:=agF;have Lf:A7 x {y with funcs:=X7}:=gG.fn (g:=y.dj);have OT:=aX.trans (bC.trans gq);have M2:=dl
  case' refine_2=>refine bw ?_;have AK:=aE;have G3:=pO;have Lf:=gG;have OT:=gq;have M2:=fN
  all_goals
   refine eQ (ch (λaB=>?_) (λaB=>?_))
   rotate_left
   .refine bw ?_;exact bt (i+1,_,_) _ _ (by show x.funcs.length - (i+1)<x.funcs.length - i;omega) ⟨by show i+1<=x.funcs.length;omega,AK,Lf,OT,M2⟩ (by kernel_rfl)
   refine bw ?_
   refine eO (λVP=>?_) (λVP=>?_)
   case' refine_1=>refine bw ?_;refine qm.mk (jA (tV (by simp only[cf]) BX)) ?_;refine bw ?_;have acO:=λiD=>adi (T0 AK (iD:=iD) (cj:=[]) (hQ:=19) (jY:=[y.ay]) (qG _) pO (fI 1) (λs ap=>by rw[ji.1 ap];exact yi)) G3
   case' refine_2=>
    (conv=>whnf)
    repeat((first|refine .mk ⟨rfl,by simp only[lM,md];omega⟩ ?_|refine .mk (by omega) ?_|refine .mk (by simp only[fP,lM,md];omega) ?_|refine .nice (by omega) ?_|refine .plain ?_|refine .yes (by decide) ?_|refine .no (by decide) ?_|refine qi (by kernel_rfl) ?_);(conv=>whnf))
    have acO:=λiD=>adi (T0 AK (iD:=iD) (cj:=y.ay) (hQ:=1) (jY:=[]) yi pO (qG _) (λs ap=>by cases ap)) G3
   all_goals
    refine aW (acG aa AK _) ?_
    rintro v A ⟨rfl,eL,rfl,af9⟩
    (conv=>whnf)
    repeat((first|refine bV.mk (MW (X:=[60,64]) af9 (by decide) (AK.ck.cj (by decide))) ?_|refine .mk ⟨rfl,by simp only[lM,md];omega⟩ ?_|refine .mk (by omega) ?_|refine .mk (by simp only[fP,lM,md];omega) ?_|refine .nice (by omega) ?_|refine .plain ?_|refine .yes (by decide) ?_|refine .no (by decide) ?_|refine qi (by kernel_rfl) ?_);(conv=>whnf))
    refine aW (adw aa aS 5 (by decide) 5 5 (by decide) (by decide) _ _ (acO eL) _ G3.eW _ _ _ _ M2 (nR (Nat.add_le_add_right (by first|omega|decide:_<=160000) _) (by decide))) ?_
    rintro v A ⟨⟨vU,rfl,alW⟩,gZ,aux,auC,jp,vT,rfl⟩
    have J2:=alW.mono (show 4+5<=10 by decide)
    have X9:pK 49 9 (ai.cells vU):=.inr ⟨rfl,rfl,vU,rfl,J2⟩
    have aff:(4*(y.dj / 2)+1) / 4=49:=by omega
    refine bw ?_
    refine Jy.mk 49 ⟨by omega,by omega⟩ rfl ?_
    refine N ?_
    refine E1.mk (RO (m:=10) (c:=ai.cells vU) rfl (by omega) (by omega) (.inl ⟨rfl,rfl⟩) (by rw[aff];exact J2.cj (by decide)) (La rfl) (Nat.ne_of_beq_eq_false rfl) rfl (λnI kL ef fO=>?_))
    rw[aff]at fO
    obtain⟨dC,el,rfl,v1,b3,e0,rfl,v2,rfl⟩:=fO
    obtain⟨aod,rfl,R0,am1⟩:=Uv X9 AK v1
    have vo:=Vn X9 aS gd v2
    subst vo
    show ia [49] _ _ _ _
    refine i6 (by first|exact trivial|exact⟨jA (tV (by simp only[cf]) BX),trivial⟩) ?_
    have cD:=aS.cj gd (X:=[49]) rfl
    have dp:cf [49] (.aH f.aj (f.dB.map c3.row))=false:=uc pO.er pO.ge (by decide)
    simp(disch:=first|assumption|with_unfolding_all rfl) only[gg,hq,dF,iI,iV,i1,i2,i3,i0,iY,jn,nZ,m9,pL,ij,lv]
    refine bw ?_
    exact bt (i+1,_,_) _ _ (by show x.funcs.length - (i+1)<x.funcs.length - i;omega) ⟨by show i+1<=x.funcs.length;omega,am1,Lf.fn (g:=y.dj) (l:=aod),R0.trans OT,jp⟩ (by kernel_rfl)
 .refine bw ?_;exact⟨y,bk,rfl,fN,aE,gG,gq⟩
end
section
variable{C:Nat->cE}{ext:Nat->Option eS}{Q:e9}(aa:Env C ext Q)
include aa
variable{g:Nat}
attribute [local irreducible] cf eD h7
theorem Y3(x)(M:iO x)(aS:jW Q)(gd:g / 2=3)(n)(aD:x.dJ.length+n<=10)(a)(aC:a<=Q.length):bU C [74] 17 [.bN 1000 0,.J (.int 3 n)] [(1000,jr x),(1001,dD g Q a)] λv A=>∃(y:cZ)(a:Nat),A=[(1000,jr y),(1001,dD g Q a)]/\a<=Q.length/\iO y/\I0 x y/\y.dJ.length<=x.dJ.length+n:=by
 refine aa.z 17 (vd [(0,⟨[3,4,5,6,7,8],[93],[],[1000,1001]⟩),(2,⟨[6,8],[],[⟨true,5,5,900,124,4⟩],[5,900,1000,1001]⟩)]) rfl rfl ?_
 refine N ?_
 refine qU (α:=Nat×cZ×Nat) (λb=>[(2,.J (.int 3 b.1))]) (λb=>[(1000,jr b.2.1),(1001,dD g Q b.2.2)]) (λb=>n - b.1) (λb=>b.1<=n/\iO b.2.1/\I0 x b.2.1/\b.2.1.dJ.length<=x.dJ.length+b.1/\b.2.2<=Q.length) ⟨(0,x,a),⟨Nat.zero_le _,M,⟨_,_,rfl⟩,Nat.le_refl _,aC⟩,by kernel_rfl⟩ (λb ba a7 bt=>?_);have⟨i,y,bk⟩:=b;have⟨dR,aE,gG,gq,fN⟩:=a7;simp only at dR aE gG gq fN bt ⊢
 refine bw ?_
 refine eh (λaN=>?_) (λaN=>?_)
 ·refine bw ?_
  refine aW (xX aa [83] i af I) ?_;rintro v A ⟨rfl,la,rfl,AS,kR⟩
  (conv=>whnf)
  repeat' ((first|(refine aW (dy aa aS _ _ (by assumption) af af) ?_;rintro v A ⟨⟨r,rfl,ag⟩,bu,cy,rfl⟩)|refine da ?_|((with_reducible first|apply eh|apply jQ|apply ch|apply cQ|apply eQ|apply mr|apply mD|apply eO)<;>intros))<;>(conv=>whnf))
  all_goals
   refine aW (abY aa aS y 1 [] _ (by assumption)) ?_
   rintro v A ⟨⟨b1,dl,rfl⟩,aj,Jc,c7,G,rfl,bq⟩
   have Fq:G.length<=1:=by rcases bq with⟨_,rfl⟩|⟨_,rfl,_⟩<;>simp
   have oz:∀x∈G,n3 x:=by
    rcases bq with⟨_,rfl⟩|⟨_,rfl,_⟩
    .intro x h;cases h
    .intro x h;rw[List.mem_singleton.1 h];exact⟨af,af,af,af,(λ_ h=>by cases h),.inl rfl⟩
   have y8:hJ 132 Jc G:=by
    rcases bq with⟨_,rfl⟩|⟨_,rfl,_,h⟩
    .exact .inl rfl
    .exact .inr h
   have o4:c7.length<=1/\(∀s∈c7,s.length<=100/\(46:UInt8)∉s/\s≠[65,114,114,97,121])/\hJ 9 aj c7:=by
    rcases bq with⟨rfl,_⟩|⟨rfl,_,h,_⟩
    .exact⟨af,(λ_ h=>by cases h),.inl rfl⟩
    .exact⟨af,λs ap=>by rw[List.mem_singleton.1 ap];decide,.inr h⟩
   refine bw ?_
  all_goals
   generalize Nat.beq r 0=e6
   first|(rename_i pH aeK dO np;generalize Nat.blt pH 4=dr)|obtain⟨dr,rC⟩:∃dr:Bool,dr=false:=⟨_,rfl⟩
   refine Rb (α:=Nat×List eT×Nat) (λb=>[(5,.J (.int 3 b.1))]) (λb=>[(5,.box 74 6 (.bS [.J (.int 3 0),.J (.bool dr),.J (.bool e6),.J (.str ([83]++[la])),.J (.aH aj (c7.map b6)),.bD 900])),(900,.bF 124 4 (b.2.1.map eT.row) true),(1000,jr y),(1001,dD g Q b.2.2)]) (λb=>4 - b.1) (λb=>b.1<=4/\b.2.1.length<=b.1/\(∀f∈b.2.1,L3 f)/\b.2.2<=Q.length) ⟨(0,[],b1),⟨Nat.zero_le _,Nat.le_refl _,(λ_ h=>by cases h),dl⟩,by first|(subst rC;kernel_rfl)|kernel_rfl⟩ (λdp gl dq fj=>?_)
   have⟨k,cK,cP⟩:=dp
   have⟨cT,cN,el,e0⟩:=dq
   simp only at cT cN el e0 fj ⊢
   have bC:(cK.map eT.row).length=cK.length:=bW
   refine bw ?_
   refine aW (dy aa aS cP 4 e0 af af) ?_
   rintro v A ⟨⟨r,rfl,ag⟩,dO,np,rfl⟩
   refine bw ?_
   refine jQ (λVZ=>?_) (λVZ=>?_)
   ·refine bw ?_
    refine aW (xX aa [] k af I) ?_;rintro v A ⟨rfl,rG,rfl,Bh,Pf⟩
    (conv=>whnf)
    repeat' ((first|(refine aW (dy aa aS _ _ (by assumption) af af) ?_;rintro v A ⟨⟨b3,rfl,ct⟩,eb,qS,rfl⟩)|refine da ?_|((with_reducible first|apply eh|apply jQ|apply ch|apply cQ|apply eQ|apply mr|apply mD|apply eO)<;>intros))<;>(conv=>whnf))
    all_goals
     refine aW (BI aa aS y aE.ck 1 [] af _ Jc G I oz _ (by assumption)) ?_
     rintro v A ⟨⟨eY,s0,rfl⟩,t,rfl,au⟩
     refine bw ?_
     first|(generalize Nat.blt 0 b3=MN)|(obtain⟨MN,anW⟩:∃MN:Bool,MN=true:=⟨_,rfl⟩)
     refine fj (k+1,cK++[⟨MN,[]++[rG],t⟩],eY) _ _ (by show 4 - (k+1)<4 - k;omega) ⟨by show k+1<=4;omega,by rw[List.length_append];show cK.length+1<=k+1;omega,qf el ⟨by show 0+1<=100;decide,au.mono af⟩,s0⟩ (by rw[List.map_append];first|(subst anW;kernel_rfl)|kernel_rfl)
   .have f0:∀X,cj X [43,124]->cf X (.aH (2*124+true.toNat) (cK.map eT.row))=false:=λX h=>kk (.inr rfl) (h 124 af) λf a1=>(el f a1).cj (h.sub af);have gx:DD ⟨0,dr,e6,[83]++[la],aj,c7,249,cK⟩:=⟨Nat.zero_le _,by show 1+1<=100;decide,o4.1,o4.2.1,o4.2.2,by show cK.length<=6;omega,el,.inr (af:249 / 2=124)⟩;have f1:∀X,cj X [43,124,9]->eD X [.int 3 0,.bool dr,.bool e6,.str ([83]++[la]),.aH aj (c7.map b6),.aH (2*124+true.toNat) (cK.map eT.row)]=false:=λX h=>by have D:cf X (.aH (2*124+true.toNat) (cK.map eT.row))=false:=kk (.inr rfl) (h 124 af) λf a1=>(el f a1).cj (h.sub af);simp only[eD,oB,nH,lq,D,tP o4.2.2 (h 9 af),Bool.or_false]
    have cl:(y.dJ.map dX.row).length=y.dJ.length:=bW
    refine bw ?_
    refine r9 (aE.fO.A λx=>rfl) af af (by simp only[List.length_cons,List.length_nil];omega) (λbO=>?_) (λbO=>?_);case' refine_1=>refine⟨oj (aE.ck.xs af) (jA (f1 _ af)),?_⟩;show ia [74] _ _ _ _;refine i6 ⟨jA (f1 _ af),trivial⟩ ?_;simp only[List.map_cons,List.map_nil,dF,iI,iV,i1,i2,i3,i0,iY,jn,nZ,m9,ij,ro (aE.fO.full bO),Bb,lq,B7 (f1 [74] af),f0 [74] af,tP o4.2.2 (show cn 9 [74]=false from rfl),uc y8 oz (af:cj [74] [9,132]),aS.cj gd (show cn 3 [74]=false from rfl),aE.ck.nw (X:=[74]),aE.ck.tc (af:cj [74] _),aE.ck.ka (af:cj [74] _),aE.ck.uZ (af:cj [74] _),aE.ck.kn (af:cj [74] _),lv]
    all_goals
     refine bw ?_
     refine bt (i+1,_,dO) _ _ (by show n - (i+1)<n - i;omega) ⟨aN,aE.iy gx I,gG.iy,by rw[List.length_append];show y.dJ.length+1<=x.dJ.length+(i+1);omega,np⟩ (by simp only[jr,cZ.cells,List.map_append];first|rfl|(rw[bO];rfl))
 ·(conv=>whnf)
  repeat refine da ?_;(conv=>whnf)
  exact⟨y,bk,rfl,fN,aE,gG,I⟩
end
section
variable{C:Nat->cE}{ext:Nat->Option eS}{Q:e9}(aa:Env C ext Q)
include aa
variable{g:Nat}
attribute [local irreducible] cf eD h7
abbrev IT(s:bj):al:=.mk s 1 []
theorem X2(x)(M:iO x)(aS:jW Q)(gd:g / 2=3)(n)(aD:x.d9.length+n<=10)(a)(aC:a<=Q.length):bU C [78] 18 [.bN 1000 0,.J (.int 3 n)] [(1000,jr x),(1001,dD g Q a)] λv A=>∃(y:cZ)(a:Nat),A=[(1000,jr y),(1001,dD g Q a)]/\a<=Q.length/\iO y/\HL x y/\y.d9.length<=x.d9.length+n:=by
 refine aa.z 18 (vd [(0,⟨[3,4,5,6,7,8,9,10,11,12,13,14,15,16,17],[142],[],[1000,1001]⟩),(2,⟨[6,14],[],[⟨true,7,1,900,43,2⟩],[5,7,900,1000,1001]⟩),(4,⟨[8,9,15,16,17],[900],[⟨true,5,5,901,128,3⟩],[5,7,901,1000,1001]⟩),(6,⟨[16,17],[],[⟨true,11,2,902,43,2⟩],[5,7,11,901,902,1000,1001]⟩)]) rfl rfl ?_
 (conv=>whnf)
 repeat(refine bZ ?_;conv=>whnf)
 refine qU (α:=Nat×cZ×Nat) (λb=>[(2,.J (.int 3 b.1))]) (λb=>[(1000,jr b.2.1),(1001,dD g Q b.2.2)]) (λb=>n - b.1) (λb=>b.1<=n/\iO b.2.1/\HL x b.2.1/\b.2.1.d9.length<=x.d9.length+b.1/\b.2.2<=Q.length) ⟨(0,x,a),⟨Nat.zero_le _,M,⟨_,_,rfl⟩,Nat.le_refl _,aC⟩,by kernel_rfl⟩ (λb ba a7 bt=>?_)
 obtain⟨i,y,bk⟩:=b
 obtain⟨dR,aE,gG,gq,fN⟩:=a7
 simp only at dR aE gG gq fN bt ⊢
 have yi:=aE.ck.ay
 (conv=>whnf)
 repeat(refine da ?_;conv=>whnf)
 refine eh (λaN=>?_) (λaN=>?_)
 ·(conv=>whnf)
  repeat(refine da ?_;conv=>whnf)
  refine aW (xX aa [85] i af I) ?_
  rintro v A ⟨rfl,la,rfl,AS,kR⟩
  (conv=>whnf)
  repeat' ((first|(refine aW (dy aa aS _ _ (by assumption) af af) ?_;rintro v A ⟨⟨r,rfl,ag⟩,bu,cy,rfl⟩)|refine da ?_|((with_reducible first|apply eh|apply jQ|apply ch|apply cQ|apply eQ|apply mr|apply mD|apply eO)<;>intros))<;>(conv=>whnf))
  all_goals
   refine aW (abY aa aS y 1 [] _ (by assumption)) ?_
   rintro v A ⟨⟨b1,dl,rfl⟩,aj,Jc,c7,G,rfl,bq⟩
   have Fq:G.length<=1:=by rcases bq with⟨_,rfl⟩|⟨_,rfl,_⟩<;>simp
   have oz:∀x∈G,n3 x:=by
    rcases bq with⟨_,rfl⟩|⟨_,rfl,_⟩
    .intro x h;cases h
    .intro x h;rw[List.mem_singleton.1 h];exact⟨af,af,af,af,(λ_ h=>by cases h),.inl rfl⟩
   have y8:hJ 132 Jc G:=by
    rcases bq with⟨_,rfl⟩|⟨_,rfl,_,h⟩
    .exact .inl rfl
    .exact .inr h
   have o4:c7.length<=1/\(∀s∈c7,s.length<=100/\(46:UInt8)∉s/\s≠[65,114,114,97,121])/\hJ 9 aj c7:=by
    rcases bq with⟨rfl,_⟩|⟨rfl,_,h,_⟩
    .exact⟨af,(λ_ h=>by cases h),.inl rfl⟩
    .exact⟨af,λs ap=>by rw[List.mem_singleton.1 ap];decide,.inr h⟩
   have er:(c7.map b6).length=c7.length:=bW
   clear bq
   (conv=>whnf)
   repeat(refine da ?_;conv=>whnf)
  all_goals
   generalize Nat.beq r 0=e6
   first|(rename_i pH aeK dO np;generalize Nat.blt pH 4=dr)|obtain⟨dr,rC⟩:∃dr:Bool,dr=false:=⟨_,rfl⟩
   refine hs b6 c7 13 (λ_ (_:List al)=>[]) (λ_ l=>[(5,.box 78 6 (.bS [.J (.int 3 0),.J (.bool dr),.J (.bool e6),.J (.str ([85]++[la])),.J (.aH aj (c7.map b6)),.bx])),(7,.box 43 2 (.bS [.J (.str (y.ay++[46]++([85]++[la]))),.bD 900])),(900,.bF 43 2 (l.map al.row) true),(1000,jr y),(1001,dD g Q b1)]) (λd l=>l=d.map IT) ⟨[],rfl,by first|(subst rC;kernel_rfl)|kernel_rfl⟩ (λd l z b3 gl aw ft ct dq fj=>?_) (λl gl dq=>?_)
   .have be:=ft
    have ag:=ct
    have dq:l=d.map IT:=dq
    have vu:d.length<c7.length:=I
    have bC:(l.map al.row).length=d.length:=by rw[List.length_map,dq,List.length_map]
    unfold b6 at ag
    (conv=>whnf)
    repeat((first|refine .yes (dg.2 be) ?_|refine⟨be,⟨_,ag,?_⟩⟩|refine da ?_);(conv=>whnf))
    refine aW (ky aa _) ?_
    rintro v A ⟨rfl,rfl⟩
    (conv=>whnf)
    repeat(refine da ?_;conv=>whnf)
    exact fj (l++[IT z]) _ _ (by rw[dq,List.map_append];rfl) (by rw[List.map_append,List.map_singleton,al.dN];first|(subst rC;kernel_rfl)|kernel_rfl)
   .have dq:l=c7.map IT:=dq
    have vt:l.length<=1:=by rw[dq,List.length_map];exact o4.1
    have YO:GT 5 (al.mk (y.ay++[46]++([85]++[la])) 87 l):=by
     have br:(y.ay++[46]++([85]++[la])).length<=300:=by simp only[List.length_append,List.length_cons,List.length_nil];omega
     have D:y.ay++[46]++([85]++[la])≠[65,114,114,97,121]:=λe=>by
      have:(46:UInt8)∈y.ay++[46]++([85]++[la]):=by simp
      rw[e]at this
      revert this;decide
     exact⟨br,vt,.inr (by show 87 / 2=43;decide),λe=>absurd e D,λt au=>by
      have au:t∈c7.map IT:=by rw[<-dq];exact au
      obtain⟨s,ap,rfl⟩:=List.mem_map.1 au
      have:=o4.2.1 s ap
      exact GT.nil I this.2.2 af⟩
    (conv=>whnf)
    repeat((first|refine .no (pe _) ?_|refine bZ ?_);(conv=>whnf))
    refine qU (α:=Nat×List fl×Nat) (λb=>[(7,.J (.int 3 b.1))]) (λb=>[(5,.box 78 6 (.bS [.J (.int 3 0),.J (.bool dr),.J (.bool e6),.J (.str ([85]++[la])),.J (.aH aj (c7.map b6)),.bD 901])),(7,.box 43 2 (.bS [.J (.str (y.ay++[46]++([85]++[la]))),.J (.aH 87 (l.map al.row))])),(901,.bF 128 3 (b.2.1.map fl.row) true),(1000,jr y),(1001,dD g Q b.2.2)]) (λb=>4 - b.1) (λb=>b.1<=4/\b.2.1.length<=b.1/\(∀f∈b.2.1,OU f)/\b.2.2<=Q.length) ⟨(0,[],b1),⟨Nat.zero_le _,Nat.le_refl _,(λ_ h=>by cases h),dl⟩,by first|(subst rC;kernel_rfl)|kernel_rfl⟩ (λga zK ng qe=>?_)
    obtain⟨k,eU,cP⟩:=ga
    obtain⟨cT,cN,el,e0⟩:=ng
    simp only at cT cN el e0 qe ⊢
    have bC:(eU.map fl.row).length=eU.length:=bW
    (conv=>whnf)
    repeat(refine da ?_;conv=>whnf)
    refine aW (dy aa aS cP 4 e0 af af) ?_
    rintro v A ⟨⟨r,rfl,ag⟩,dO,np,rfl⟩
    (conv=>whnf)
    repeat(refine da ?_;conv=>whnf)
    refine jQ (λVZ=>?_) (λVZ=>?_)
    ·(conv=>whnf)
     repeat(refine da ?_;conv=>whnf)
     refine aW (xX aa [99] k af I) ?_
     rintro v A ⟨rfl,rG,rfl,Bh,Pf⟩
     (conv=>whnf)
     repeat' ((first|(refine aW (wQ aa aS _ _ (by assumption) af af) ?_;rintro v A ⟨⟨dk,rfl⟩,eb,qS,rfl⟩)|refine da ?_|((with_reducible first|apply eh|apply jQ|apply ch|apply cQ|apply eQ|apply mr|apply mD|apply eO)<;>intros))<;>(conv=>whnf))
     all_goals
      refine aW (dy aa aS _ 3 (by assumption) af af) ?_
      rintro v A ⟨⟨iQ,rfl,iv⟩,eY,s0,rfl⟩
      (conv=>whnf)
      repeat(refine da ?_;conv=>whnf)
     all_goals
      first|(have:=dk.not)|obtain⟨dk,w4⟩:∃dk:Bool,dk=false:=⟨_,rfl⟩
      refine Rb (α:=Nat×List al×Nat) (λb=>[(9,.J (.int 3 b.1))]) (λb=>[(5,.box 78 6 (.bS [.J (.int 3 0),.J (.bool dr),.J (.bool e6),.J (.str ([85]++[la])),.J (.aH aj (c7.map b6)),.bD 901])),(7,.box 43 2 (.bS [.J (.str (y.ay++[46]++([85]++[la]))),.J (.aH 87 (l.map al.row))])),(11,.box 128 3 (.bS [.J (.bool dk),.J (.str ([99]++[rG])),.bD 902])),(901,.bF 128 3 (eU.map fl.row) true),(902,.bF 43 2 (b.2.1.map al.row) true),(1000,jr y),(1001,dD g Q b.2.2)]) (λb=>b.1) (λb=>b.2.1.length+b.1<=3/\(∀t∈b.2.1,GT 5 t)/\b.2.2<=Q.length) ⟨(iQ,[],eY),⟨by show 0+iQ<=3;omega,(λ_ h=>by cases h),s0⟩,by first|(subst rC;subst w4;kernel_rfl)|(subst w4;kernel_rfl)|(subst rC;kernel_rfl)|kernel_rfl⟩ (λfX wR n8 qC=>?_)
      obtain⟨j,bX,mN⟩:=fX
      obtain⟨cH,cq,c9⟩:=n8
      simp only at cH cq c9 qC ⊢
      have aX:(bX.map al.row).length=bX.length:=bW
      (conv=>whnf)
      repeat' ((first|(refine aW (dy aa aS _ 2 (by assumption) af af) ?_;rintro v A ⟨⟨my,rfl,qx⟩,gZ,jp,rfl⟩)|(refine aW (BI aa aS y aE.ck 1 [] af _ Jc G I oz _ (by assumption)) ?_;rintro v A ⟨⟨pM,Jd,rfl⟩,t,rfl,au⟩)|refine da ?_|((with_reducible first|apply eh|apply jQ|apply ch|apply cQ|apply eQ|apply mr|apply mD|apply eO)<;>intros))<;>(conv=>whnf))
      .exact qC (j - 1,bX++[al.mk (y.ay++[46]++([85]++[la])) 87 l],gZ) _ _ (by show j - 1<j;omega) ⟨by simp only[List.length_append,List.length_singleton];omega,qf cq YO,jp⟩ (by rw[List.map_append,List.map_singleton,al.dN];first|(subst rC;subst w4;kernel_rfl)|(subst w4;kernel_rfl)|(subst rC;kernel_rfl)|kernel_rfl)
      .exact qC (j - 1,bX++[t],pM) _ _ (by show j - 1<j;omega) ⟨by simp only[List.length_append,List.length_singleton];omega,qf cq (au.mono af),Jd⟩ (by rw[List.map_append,List.map_singleton,al.dN];first|(subst rC;subst w4;kernel_rfl)|(subst w4;kernel_rfl)|(subst rC;kernel_rfl)|kernel_rfl)
      .exact qC (j - 1,bX++[t],pM) _ _ (by show j - 1<j;omega) ⟨by simp only[List.length_append,List.length_singleton];omega,qf cq (au.mono af),Jd⟩ (by rw[List.map_append,List.map_singleton,al.dN];first|(subst rC;subst w4;kernel_rfl)|(subst w4;kernel_rfl)|(subst rC;kernel_rfl)|kernel_rfl)
      .exact qe (k+1,eU++[⟨dk,[99]++[rG],87,bX⟩],mN) _ _ (by show 4 - (k+1)<4 - k;omega) ⟨by show k+1<=4;omega,by rw[List.length_append];show eU.length+1<=k+1;omega,qf el ⟨by show 1+1<=100;decide,by show bX.length<=6;omega,cq,.inr (af:87 / 2=43)⟩,c9⟩ (by rw[List.map_append];first|(subst rC;subst w4;kernel_rfl)|(subst w4;kernel_rfl)|(subst rC;kernel_rfl)|kernel_rfl)
    .have f0:∀X,cj X [43,128]->cf X (.aH (2*128+true.toNat) (eU.map fl.row))=false:=λX h=>kk (.inr rfl) (h 128 af) λf a1=>(el f a1).cj (h.sub af)
     have gx:xy ⟨0,dr,e6,[85]++[la],aj,c7,257,eU⟩:=⟨Nat.zero_le _,by show 1+1<=100;decide,o4.1,o4.2.1,o4.2.2,by show eU.length<=6;omega,el,.inr (af:257 / 2=128)⟩
     have f1:∀X,cj X [43,128,9]->eD X [.int 3 0,.bool dr,.bool e6,.str ([85]++[la]),.aH aj (c7.map b6),.aH (2*128+true.toNat) (eU.map fl.row)]=false:=λX h=>by
      simp only[eD,oB,nH,lq,f0 X (h.sub af),tP o4.2.2 (h 9 af),Bool.or_false]
     have f2:cf [78] (.aH 87 (l.map al.row))=false:=kk (ak:=43) (.inr rfl) rfl λt au=>(YO.sub t au).zE af
     have cl:(y.d9.map dV.row).length=y.d9.length:=bW
     (conv=>whnf)
     repeat(refine da ?_;conv=>whnf)
     refine r9 (aE.j3.A λx=>rfl) af af (by simp only[List.length_cons,List.length_nil];omega) (λbO=>?_) (λbO=>?_)
     case' refine_1=>
      refine⟨oj (aE.ck.Tm af) (jA (f1 _ af)),?_⟩
      show ia [78] _ _ _ _
      refine i6 ⟨jA (f1 _ af),trivial⟩ ?_
      simp only[List.map_cons,List.map_nil,dF,iI,iV,i1,i2,i3,i0,iY,jn,nZ,m9,ij,ro (aE.j3.full bO),Bb,lq,B7 (f1 [78] af),f0 [78] af,f2,tP o4.2.2 (show cn 9 [78]=false from rfl),uc y8 oz (af:cj [78] [9,132]),aS.cj gd (show cn 3 [78]=false from rfl),aE.ck.nw (X:=[78]),aE.ck.cK (af:cj [78] _),aE.ck.ka (af:cj [78] _),aE.ck.uZ (af:cj [78] _),aE.ck.kn (af:cj [78] _),lv]
     all_goals
      (conv=>whnf)
      repeat(refine da ?_;conv=>whnf)
      refine bt (i+1,_,dO) _ _ (by show n - (i+1)<n - i;omega) ⟨aN,aE.un gx I,gG.un,by rw[List.length_append];show y.d9.length+1<=x.d9.length+(i+1);omega,np⟩ (by simp only[jr,cZ.cells,List.map_append];first|rfl|(rw[bO];rfl))
 ·(conv=>whnf)
  repeat(refine da ?_;conv=>whnf)
  exact⟨y,bk,rfl,fN,aE,gG,I⟩
end
end Go.Tx
