/- Part of the proof of PrinterLines. -/
import Derived.Test.YtddaefckjmdfoaaGreatDoorH0
set_option linter.all false
namespace Go.Tx
open Go Go.Ev
def pM(el aT:Nat)(c:di):Prop:=(el=106/\(aT=3/\c=[.bool true]\/aT=4/\∃e,c=aj.cells e/\GE 10 e))\/(el=109/\aT=9/\∃e,c=aj.cells e/\GE 10 e)
section
variable{el aT:Nat}{c:di}
def pM.cm{l}(bx:pM el aT c)(B:cm [106] l)(F:cm [109] l):cm [el] l:=by
 rcases bx with⟨rfl,_⟩|⟨rfl,_⟩
 .exact B
 .exact F
def mD{t}{bX l:di}(h:gw el aT c (t::bX) l):∃a6 aM,l=a6::aM/\gH el aT c t a6/\gw el aT c bX aM:=by simpa only[gw] using h
def qc.xD:∀{bX}{l},qc el aT c (bX.map .J) l->∃mI,l=mI.map .J/\gw el aT c bX mI
 |[],l,h=>⟨[],h,by simp only[gw]⟩
 |t::bX,l,h=>by obtain⟨ci,aM,rfl,⟨a6,rfl,B⟩,F⟩:=h;obtain⟨mI,rfl,ah⟩:=qc.xD F;exact⟨a6::mI,rfl,by simp only[gw];exact⟨a6,mI,rfl,B,ah⟩⟩
variable{a:cD}{e g:Nat}{r:bG}{t:b2}{x:cV}
def Zn(bx:pM 106 aT c)(aD:rl a):∃bF,rl bF/\vw (cD.row a) aT c=cD.row bF:=by
 rcases bx with⟨_,⟨rfl,rfl⟩|⟨rfl,e,rfl,ar⟩⟩|⟨h,_⟩
 .exact⟨{a with has:=true},⟨aD.aR,aD.bK,aD.vg⟩,rfl⟩
 .refine⟨{a with gM:=e},⟨aD.aR,aD.bK,ar⟩,?_⟩;have⟨aR,bK,has,d⟩:=a;cases d;cases e;rfl
 .omega
def XV{a}(bx:pM 109 aT c)(aD:mV a):∃bF,mV bF/\vw (dI.row a) aT c=dI.row bF:=by
 rcases bx with⟨h,_⟩|⟨_,rfl,e,rfl,ar⟩
 .omega
 .refine⟨{a with body:=e},⟨aD.since,aD.aR,aD.gl,aD.ge,aD.m1,aD.iE,aD.lb,aD.m2,aD.fk,ar⟩,?_⟩;have⟨s,N,i,aR,g1,hH,g2,bY,fk,has,d⟩:=a;cases d;cases e;rfl
def Zb{r}(bx:pM el aT c)(aD:rl a)(h:gw el aT c (cD.row a) r):r=cD.row a:=gw.no (aD.cm (bx.cm ag ag)) h
def XH(bx:pM el aT c)(ar:e=106):∀{bY:List cD}{l},(∀a∈bY,rl a)->ld el aT c e (bY.map cD.row) l->∃ix:List cD,l=ix.map cD.row/\ix.length=bY.length/\∀a∈ix,rl a
 |[],l,aD,h=>by simp only[je,ld] at h;exact⟨[],h,rfl,λ_ h=>by cases h⟩
 |a::bY,l,aD,h=>by
  simp only[fA,ld] at h;have⟨dc,aM,B,F,ah⟩:=h;have B:=Zb bx (aD a qg) B;subst B;obtain⟨ix,rfl,aE,bt⟩:=XH bx ar (λx I=>aD x (tX _ I)) ah;rcases F with rfl|⟨F,rfl⟩
  .exact⟨a::ix,rfl,by simp [aE],λx I=>by
    rcases fS.1 I with rfl|I
    .exact aD _ qg
    .exact bt x I⟩
  .subst ar;subst F;have⟨bF,g1,g2⟩:=Zn bx (aD a qg);exact⟨bF::ix,by rw[g2];rfl,by simp [aE],λx I=>by
    rcases fS.1 I with rfl|I
    .exact g1
    .exact bt x I⟩
def aqd(bx:pM el aT c){g}{bY}(hm:gV 106 g bY)(aD:∀a∈bY,rl a){t}(h:gH el aT c (.aQ g (bY.map cD.row)) t):∃ix:List cD,t=.aQ g (ix.map cD.row)/\ix.length=bY.length/\∀a∈ix,rl a:=by
 simp only[gH] at h;obtain⟨f7,rfl,h⟩:=h;cases bY with
 |nil=>simp only[je,ld] at h;subst h;exact⟨[],rfl,rfl,λ_ h=>by cases h⟩
 |cons a bY=>
  rcases hm with hm|hm
  .cases hm
  .obtain⟨ix,rfl,B,F⟩:=XH bx hm aD h;exact⟨ix,rfl,B,F⟩
def adt{α}{el g}{l m:List α}(h:gV el g l)(K:m.length=l.length):gV el g m:=by
 rcases h with rfl|h
 .exact .inl (List.eq_nil_of_length_eq_zero K)
 .exact .inr h
def XK(bx:pM el aT c){f}(aI:mV f){r}(h:gw el aT c (dI.row f) r):∃oL,mV oL/\r=dI.row oL:=by have j8:∀{t a6:b2},cA [el] t=false->gH el aT c t a6->a6=t:=λB F=>gH.no B F;have h:gw el aT c (.int 3 f.since::.bool f.jj::.bool f.inl::.str f.aR::.aQ f.g1 (f.fg.map cX.row)::.aQ f.g2 (f.args.map cD.row)::.str f.fk.aR::.aQ f.fk.g (f.fk.l.map ai.row)::.bool f.has::aj.cells f.body) r:=h;obtain⟨t1,df,rfl,dg,h⟩:=mD h;obtain⟨kH,cH,rfl,ej,h⟩:=mD h;obtain⟨rW,dh,rfl,gv,h⟩:=mD h;obtain⟨xE,fj,rfl,kQ,h⟩:=mD h;obtain⟨Dq,fP,rfl,n4,h⟩:=mD h;obtain⟨aeN,ty,rfl,l5,h⟩:=mD h;obtain⟨KI,afF,rfl,C3,h⟩:=mD h;obtain⟨Vq,akw,rfl,UN,h⟩:=mD h;obtain⟨Vt,mK,rfl,Rp,h⟩:=mD h;have aZ:=j8 (by simp only[cA]) dg;have aN:=j8 (by simp only[cA]) ej;have c9:=j8 (by simp only[cA]) gv;have hB:=j8 (by simp only[cA]) kQ;have mo:=j8 (ux aI.m1 aI.ge (bx.cm ag ag)) n4;have MC:=j8 (by simp only[cA]) C3;have z1:=j8 (aI.fk.cm (bx.cm ag ag)) UN;have uR:=j8 (by simp only[cA]) Rp;have anh:=gw.no (aI.t0.cm (bx.cm ag ag)) h;have⟨ix,BF,bq,aS⟩:=aqd bx aI.m2 aI.lb l5;subst aZ aN c9 hB mo BF MC z1 uR anh;exact⟨{f with args:=ix},⟨aI.since,aI.aR,aI.gl,aI.ge,aI.m1,by rw[bq];exact aI.iE,aS,adt aI.m2 bq,aI.fk,aI.t0⟩,rfl⟩
def ads(bx:pM el aT c)(ar:e=109):∀{bY:List dI}{l},(∀a∈bY,mV a)->ld el aT c e (bY.map dI.row) l->∃ix:List dI,l=ix.map dI.row/\ix.length=bY.length/\∀a∈ix,mV a
 |[],l,aD,h=>by simp only[je,ld] at h;exact⟨[],h,rfl,λ_ h=>by cases h⟩
 |a::bY,l,aD,h=>by
  simp only[fA,ld] at h;have⟨dc,aM,B,F,ah⟩:=h;obtain⟨f,aI,rfl⟩:=XK bx (aD a qg) B;obtain⟨ix,rfl,aE,bt⟩:=ads bx ar (λx I=>aD x (tX _ I)) ah;rcases F with rfl|⟨F,rfl⟩
  .exact⟨f::ix,rfl,by simp [aE],λx I=>by
    rcases fS.1 I with rfl|I
    .exact aI
    .exact bt x I⟩
  .subst ar;subst F;have⟨bF,g1,g2⟩:=XV bx aI;exact⟨bF::ix,by rw[g2];rfl,by simp [aE],λx I=>by
    rcases fS.1 I with rfl|I
    .exact g1
    .exact bt x I⟩
def ap9(bx:pM el aT c){g}{bY}(hm:gV 109 g bY)(aD:∀a∈bY,mV a){t}(h:gH el aT c (.aQ g (bY.map dI.row)) t):∃ix:List dI,t=.aQ g (ix.map dI.row)/\ix.length=bY.length/\∀a∈ix,mV a:=by
 simp only[gH] at h;obtain⟨f7,rfl,h⟩:=h;cases bY with
 |nil=>simp only[je,ld] at h;subst h;exact⟨[],rfl,rfl,λ_ h=>by cases h⟩
 |cons a bY=>
  rcases hm with hm|hm
  .cases hm
  .obtain⟨ix,rfl,B,F⟩:=ads bx hm aD h;exact⟨ix,rfl,B,F⟩
def anw(bx:pM el aT c){x}(I:iC x){r}(h:gw el aT c (cV.cells x) r):∃cz,r=cV.cells {x with funcs:=cz}/\cz.length=x.funcs.length/\iC {x with funcs:=cz}:=by
 have j8:∀{t a6:b2},cA [el] t=false->gH el aT c t a6->a6=t:=λB F=>gH.no B F;obtain⟨t1,df,rfl,dg,h⟩:=mD h;obtain⟨kH,cH,rfl,ej,h⟩:=mD h;obtain⟨rW,dh,rfl,gv,h⟩:=mD h;obtain⟨xE,fj,rfl,kQ,h⟩:=mD h;obtain⟨Dq,fP,rfl,n4,h⟩:=mD h;obtain⟨aeN,ty,rfl,l5,h⟩:=mD h;obtain⟨KI,afF,rfl,C3,h⟩:=mD h;obtain⟨Vq,akw,rfl,UN,h⟩:=mD h;obtain⟨Vt,mK,rfl,Rp,h⟩:=mD h;have aZ:=j8 (by simp only[cA]) dg;have aN:=j8 (by simp only[cA]) ej;have c9:=j8 (by simp only[cA]) gv;have hB:=j8 I.kq kQ;have mo:=j8 (I.cz (bx.cm ag ag)) n4;have BF:=j8 (I.vm (bx.cm ag ag)) l5;have MC:=j8 (I.jZ (bx.cm ag ag)) C3;have z1:=j8 (I.xS (bx.cm ag ag)) UN;have hI:mK=[]:=by simpa only[gw] using h
 have⟨cz,uR,bq,aS⟩:=ap9 bx I.m5 I.f9 Rp;subst aZ aN c9 hB mo BF MC z1 uR hI;exact⟨cz,rfl,bq,⟨I.kind,I.rel,I.aR,I.qp,I.df,I.dr,I.m1,I.cH,I.c3,I.m2,I.dh,I.dY,I.m3,I.fj,I.e9,I.m4,by rw[show({x with funcs:=cz}:cV).funcs=cz from rfl,bq];exact I.fP,aS,adt I.m5 bq⟩⟩
def io.wr{cz}(h:io x)(K:cz.length=x.funcs.length)(br:iC {x with funcs:=cz}):io {x with funcs:=cz}:=
 ⟨br,h.ej,h.gv,h.kQ,h.n4,by
  rcases h.l5 with⟨B,F⟩|B
  .exact .inl ⟨List.eq_nil_of_length_eq_zero (by rw[show({x with funcs:=cz}:cV).funcs=cz from rfl,K,B];rfl),F⟩
  .exact .inr B,h.mH⟩
def Rb{s}(bx:pM el aT c)(I:io x)(h:qc el aT c (.bH s 0::.J (.aQ 1 [])::.J (.aQ 1 [])::(cV.cells x).map .J) r):∃cz,r=.bH s 0::.J (.aQ 1 [])::.J (.aQ 1 [])::(cV.cells {x with funcs:=cz}).map .J/\cz.length=x.funcs.length/\io {x with funcs:=cz}:=by obtain⟨ci,aM,rfl,aZ,h⟩:=h;have aZ:ci=.bH s 0:=aZ;subst aZ;obtain⟨bX,rfl,cb⟩:=qc.xD (bX:=.aQ 1 []::.aQ 1 []::cV.cells x) h;obtain⟨t1,df,rfl,dg,B⟩:=mD cb;obtain⟨kH,cH,rfl,ej,F⟩:=mD B;have aZ:=gH.no (by simp only[cA]) dg;have aN:=gH.no (by simp only[cA]) ej;subst aZ aN;obtain⟨cz,rfl,bq,aS⟩:=anw bx I.cf F;exact⟨cz,rfl,bq,I.wr bq aS⟩
def QG{ab a}(bx:pM el aT c)(bi:l6 ab)(br:g / 2=3)(h:qc el aT c [.J (.op g ab.W),.J (.int 3 a)] r):r=[.J (.op g ab.W),.J (.int 3 a)]:=by obtain⟨bX,rfl,cb⟩:=qc.xD (bX:=[.op g ab.W,.int 3 a]) h;have:=gw.no (DB (bi.cm br (X:=[el]) (by rcases bx with⟨rfl,_⟩|⟨rfl,_⟩<;>rfl)) (DB (a:=.int 3 a) (by simp only[cA]) J6)) cb;rw[this];rfl
def adY{f}(bx:pM el aT c)(aI:mV f)(br:g / 4=109)(h:gH el aT c (.gc g (dI.row f) 0) t):∃oL,mV oL/\t=.gc g (dI.row oL) 0:=by
 simp only[gH] at h;have⟨dc,B,F⟩:=h;obtain⟨gN,acb,rfl⟩:=XK bx aI B;rcases F with rfl|⟨F,rfl⟩
 .exact⟨gN,acb,rfl⟩
 .rw[br] at F;subst F;have⟨bF,g1,g2⟩:=XV bx acb;exact⟨bF,g1,by rw[g2]⟩
def ad0{f}(bx:pM el aT c)(aI:rl f)(br:g / 4=106)(h:gH el aT c (.gc g (cD.row f) 0) t):∃oL,rl oL/\t=.gc g (cD.row oL) 0:=by
 simp only[gH] at h;have⟨dc,B,F⟩:=h;have B:=Zb bx aI B;subst B;rcases F with rfl|⟨F,rfl⟩
 .exact⟨f,aI,rfl⟩
 .rw[br] at F;subst F;have⟨bF,g1,g2⟩:=Zn bx aI;exact⟨bF,g1,by rw[g2]⟩
end
section
variable{C:Nat->cG}{h:Hint}{P:dy}{es:aO}
variable{E L:bG}{DY:Array Edge}{d i aP:Nat}{ae:dv}{k:Ah}{b0:bG->be->Prop}{bz:zx->bG->be->Prop}{l:gu}{jI:Nat->Option qY}{an:Array Oper}{cg:String}{A:be}{v:a1}{x:Operand}
def vt{D}(B:(zu D.op|| !Nat.blt (D.dst.getD 0) 1000)=false)(F:H0 D.dst=λk=>k d)(ah:D.guard=none)(H:xj C h P es ae d D.op L E A λv L E A=>vv es aP D.dst v L E λL E=>lL C h P es aP an (D.dst::ae) l L E A k):lL C h P es aP an ae (D::l) L E A k:=by unfold lL;rw[B,F,ah];exact H
theorem anY{d9}{t}(B:Nat.blt d 1000)(F:Nat.blt d aP)(ah:i2 d es=some i)(aE:∀k,gW es ae L E x k=k v)(bt:iT E i v=d9)(H:lL C h P es aP an (some d::ae) l (v::L) d9 A k):lL C h P es aP an ae (⟨some d,.assign x,t,cg,DY,none⟩::l) L E A k:=by
 subst bt
 refine vt (D:=⟨some d,.assign x,t,cg,DY,none⟩) (d:=d) ?_ rfl rfl ?_
 .show(false|| !Nat.blt d 1000)=false
  rw[B];rfl
 .show gW es ae L E x _
  rw[aE]
  show vv es aP (some d) v L E _
  unfold vv
  simp only[F,ah]
  rw[Aj]
  exact H
theorem aiy(H:k L E A):lL C h P es aP an ae [] L E A k:=H
theorem NE{op}{t}(cb:(zu op|| !Nat.blt d 1000)=false)(aw:∀k,xj C h P es ae d op L E A k=k v L E A)(F:Nat.blt d aP)(ah:i2 d es=none)(H:lL C h P es aP an (some d::ae) l (v::L) E A k):lL C h P es aP an ae (⟨some d,op,t,cg,DY,none⟩::l) L E A k:=by
 refine vt (D:=⟨some d,op,t,cg,DY,none⟩) (d:=d) cb rfl rfl ?_
 show xj C h P es ae d op L E A _
 rw[aw]
 show vv es aP (some d) v L E _
 unfold vv
 simp only[F,ah]
 exact H
theorem ans{y g aF aT km bc el dP bX}{t bK}(aw:lN P (.store t x y)=.wr)(I:∀k,gW es ae L E x k=k (.J (.gc g aF aT)))(ap:∀k,gW es ae L E y k=k (.J km))(B:(kR (outs A)&&fQ ((outs A).flatMap (t9 A)) 0))(im:∀k:List Nat->Prop,sX (outs A) k=k bc)(br:g / 4=el/\g % 2=1)(hm:cr el (ev h.du))(av:∀k,yC bc A 1000 bc k=k dP)(bx:∀k,Fx E h.i4 k=k bX)(H:FF P t (.gc g aF aT) km bX dP λbX dP=>jt [el] L E A λL E A=>EY E h.i4 bX λE=>yk bc 1000 bc dP A λA=>lL C h P es aP an (none::ae) l (.J .undef::L) E A k):lL C h P es aP an ae (⟨none,.store t x y,bK,cg,DY,none⟩::l) L E A k:=by
 refine vt (D:=⟨none,.store t x y,bK,cg,DY,none⟩) (d:=0) rfl rfl rfl ?_
 show xj C h P es ae 0 (.store t x y) L E A _
 unfold xj
 rw[aw]
 show gW es ae L E x _
 rw[I,ap]
 unfold OJ
 simp only[B]
 rw[im]
 refine GO.mk el br hm ?_
 rw[av,bx]
 exact H
theorem Xk{n}(H:lL C h P es aP an [] an.toList [] E A λ_ E A=>b0 E A):nt C h jI P es aP (.region n an false) i E A b0 bz:=by
 unfold nt;exact H
theorem ae5{a b}(aI:Ih a=false)(H:nt C h jI P es aP a 0 E A (λE A=>nt C h jI P es aP b 0 E A b0 bz) bz):nt C h jI P es aP (.seq a b) i E A b0 bz:=by
 unfold nt;simp only[aI];exact H
end
set_option maxRecDepth 100000
set_option maxHeartbeats 8000000
attribute [local irreducible] jJ mb bj lQ kS nj ie fe
section
variable{C:Nat->cG}{ext:Nat->Option e0}{ab:fD}(Q:Env C ext ab)
include Q
variable{g:Nat}
variable{N:rY}
def V2{x}(I:io x)(LS):iS C 45 [.J (.gc 283 ([LS,.aQ 1 [],.aQ 1 []]++x.cells) 0)] λv=>∃g,v=.aQ g [x.cells]/\g / 2=34:=T7 Q x 1 [] LS
omit Q in
omit Q in
def SG{x}(I:io x){ig}{cm}(ao8:cm.length<=100){f}(aI:mV f){gl}{jn}(B:jn.length<=1)(F:∀s∈jn,s.length<=100):FG ⟨ig,[x],cm,gl,jn,f.g1,f.fg⟩:=
 ⟨ez 1,λy ap=>by rw[iF.1 ap];exact I.cf,ao8,t3 B ag,F,aI.gl,aI.ge,aI.m1⟩
omit Q in
omit Q in
def adm{f}(hp:FG N)(aI:mV f):sg N f.args 5 5:=⟨hp,aI.iE,λx I=>(aI.lb x I).bK,λx I=>(aI.lb x I).aR⟩
omit Q in
omit Q in
def aph(hp:FG N):sg N [] 5 5:=⟨hp,mz _,(λx I=>by cases I),(λx I=>by cases I)⟩
attribute [local irreducible] cA dw hy
def am3(x)(I:io x)(bi:l6 ab)(it:g / 2=3)(a)(aD:a<=ab.length):bj C [106,109] 18 [.bH 1000 0] [(1000,iP x),(1001,dH g ab a)] λv A=>∃(y:cV)(a:Nat),A=[(1000,iP y),(1001,dH g ab a)]/\a<=ab.length/\io y/\zg x y/\y.funcs.length=x.funcs.length:=by
 refine Q.z 18 (tQ [(0,⟨[1,2,3,4,5,8,9,10,11],[],[],[1000,1001]⟩)]) rfl rfl ?_;have pD:(x.funcs.map dI.row).length=x.funcs.length:=dt ..;refine b8 ?_;refine yQ (α:=Nat×cV×Nat) (λb=>[(7,.J (.int 3 b.1))]) (λb=>[(1000,iP b.2.1),(1001,dH g ab b.2.2)]) (λb=>x.funcs.length - b.1) (λb=>b.1<=x.funcs.length/\io b.2.1/\zg x b.2.1/\b.2.1.funcs.length=x.funcs.length/\b.2.2<=ab.length) ⟨(0,x,a),⟨mz _,I,⟨_,_,rfl⟩,rfl,aD⟩,by kernel_rfl⟩ (λb ba bo bC=>?_);have⟨i,y,bN⟩:=b;have⟨dD,ap,lG,fi,fr⟩:=bo;simp only at dD ap lG fi fr bC ⊢;have yM:=ap.cf.aR;have asN:=ap.cf.fP;have aq2:=I.cf.fP;have m0:(y.funcs.map dI.row).length=y.funcs.length:=dt ..;refine b8 ?_;refine eT (λaH=>?_) (λaH=>?_)
 .have⟨f,aI,ad⟩:=nW dI.row (l:=y.funcs) (i:=i) (by omega);have pz:=ap.cf.f9 f aI;have asR:y.g6 / 2=109:=by
   rcases ap.cf.m5 with h|h
   .rw[h] at aI;cases aI
   .exact h
  have aq5:=pz.iE;have m1:(f.args.map cD.row).length=f.args.length:=dt ..
  (conv=>whnf)
  repeat((first|refine jM.mk _ ad ?_|refine .mk ⟨rfl,by simp only[nD,r8];omega⟩ ?_|refine .mk (by omega) ?_|refine .mk (by simp only[gP,nD,r8];omega) ?_|refine .nice (by omega) ?_|refine .plain ?_|refine .yes (by decide) ?_|refine .no (by decide) ?_|refine oG (by kernel_rfl) ?_);(conv=>whnf))
  refine eT (λaz=>?_) (λaz=>?_);case' refine_1=>
   refine b8 ?_;refine aK (wv Q bi _ 3 (by assumption) (by decide) (by decide)) ?_;rintro v A ⟨⟨dx,rfl⟩,a2,fU,rfl⟩;cases dx;case' false=>
    (conv=>whnf)
    repeat(first|refine .no rfl ?_|refine bn ?_);(conv=>whnf)
    have Ax:=ap;have HQ:=pz;have K8:=lG;have Lg:=fi;have M0:=fU
   case' true=>
    have⟨z,bO,eM⟩:=nW cD.row (l:=f.args) (i:=(f.args.map cD.row).length - 1) (by omega);have Ir:=pz.lb z bO;have I8:f.g2 / 2=106:=by
     rcases pz.m2 with h|h
     .rw[h] at az;simp at az
     .exact h
    have bx:pM 106 3 [.bool true]:=.inl ⟨rfl,.inl ⟨rfl,rfl⟩⟩;have Rd:(4*(f.g2 / 2)+1) / 4=106:=by omega
    (conv=>whnf)
    repeat((first|refine .yes rfl ?_|refine .mk ⟨rfl,by simp only[nD,r8];omega⟩ ?_|refine .mk (by omega) ?_|refine .mk (by simp only[gP,nD,r8];omega) ?_|refine .nice (by omega) ?_|refine .plain ?_|refine .yes (by decide) ?_|refine .no (by decide) ?_|refine oG (by kernel_rfl) ?_);(conv=>whnf))
    refine jM.mk _ eM ?_;show lL _ _ _ _ _ _ _ _ _ _ _ _;refine anY rfl rfl rfl (λk=>rfl) (by simp only[iT];exact rfl) ?_;refine aiy ?_;first|refine ae5 rfl ?_|skip
    refine Xk ?_;refine NE rfl (λk=>rfl) rfl rfl ?_;refine NE rfl (λk=>rfl) rfl rfl ?_;refine NE rfl (λk=>rfl) rfl rfl ?_;refine ans (el:=106) rfl (λk=>rfl) (λk=>rfl) rfl (λk=>rfl) ⟨by omega,by omega⟩ rfl (λk=>rfl) (λk=>rfl) ?_;refine FF.mk (PC (m:=0) (c:=[.bool true]) rfl (by omega) (by omega) (.inr ⟨rfl,rfl,rfl⟩) (DB (by simp only[cA]) J6) (Mz rfl) (Nat.ne_of_beq_eq_false rfl) rfl (λmI jX dg ej=>?_));rw[Rd] at dg ej;obtain⟨t1,dr,rfl,gv,kQ⟩:=mD dg;obtain⟨kH,c3,rfl,n4,l5⟩:=mD kQ;have C3:c3=[]:=by simpa only[gw] using l5
    subst C3;obtain⟨gN,apA,rfl⟩:=adY bx pz (by omega) gv;obtain⟨lF,ad5,rfl⟩:=ad0 bx Ir (by omega) n4;obtain⟨dc,dY,rfl,v1,cl,e9,rfl,v2,rfl⟩:=ej;obtain⟨cz,rfl,bq,sN⟩:=Rb bx ap v1;have tJ:=QG bx bi it v2;subst tJ;show jt [106] _ _ _ _;refine mP trivial ?_;have cw:=bi.cm it (X:=[106]) rfl;have c7:cA [106] (.aQ f.g1 (f.fg.map cX.row))=false:=ux pz.m1 pz.ge (by decide);simp(disch:=first|assumption|with_unfolding_all rfl) only[fA,je,dJ,lA,mh,li,k7,mu,lg,la,lR,nC,lD,oZ,iD,mX];refine b8 ?_;refine aK (V2 Q sN _) ?_;rintro v A ⟨rfl,ig,rfl,zm⟩
    (conv=>whnf)
    repeat(first|refine gz.mk (OK (X:=[66,70]) zm (by decide) (sN.cf.cm (by decide))) ?_|refine b9 ?_);(conv=>whnf)
    refine aK (acZ Q bi 2 (by decide) 5 5 (by decide) (by decide) ⟨ig,[_],y.aR,1,[],f.g1,f.fg⟩ [] (aph (SG sN yM pz (mz _) (λs h=>by cases h))) _ ad5.bK 1 10 0 _ (by assumption) (by decide)) ?_;rintro v A ⟨⟨aZ,rfl,amw⟩,a3,asB,akP,eA,l4,rfl⟩;have eu:=amw.mono (show 4+2<=10 by decide);have Je:pM 106 4 (aj.cells aZ):=.inl ⟨rfl,.inr ⟨rfl,aZ,rfl,eu⟩⟩;refine b8 ?_;refine GO.mk 106 ⟨by omega,by omega⟩ rfl ?_;refine aG ?_;refine FF.mk (PC (m:=10) (c:=aj.cells aZ) rfl (by omega) (by omega) (.inl ⟨rfl,rfl⟩) (by rw[Rd];exact eu.cm (by decide)) (Mz rfl) (Nat.ne_of_beq_eq_false rfl) rfl (λmI jX dg ej=>?_));rw[Rd] at dg ej;obtain⟨t1,dr,rfl,gv,kQ⟩:=mD dg;obtain⟨kH,c3,rfl,n4,l5⟩:=mD kQ;have C3:c3=[]:=by simpa only[gw] using l5
    subst C3;obtain⟨gj,app,rfl⟩:=adY Je apA (by omega) gv;obtain⟨sH,arh,rfl⟩:=ad0 Je ad5 (by omega) n4;obtain⟨dc,dY,rfl,v1,cl,e9,rfl,v2,rfl⟩:=ej;obtain⟨aak,rfl,aS,O5⟩:=Rb Je sN v1;have tJ:=QG Je bi it v2;subst tJ;show jt [106] _ _ _ _;refine mP trivial ?_;simp(disch:=first|assumption|with_unfolding_all rfl) only[fA,je,dJ,lA,mh,li,k7,mu,lg,la,lR,nC,lD,oZ,iD,mX];refine b8 ?_;have Ax:io {y with funcs:=aak}:=O5;have qs:akP<=160000:=l4;have HQ:=app;have K8:zg x {y with funcs:=aak}:=lG.fn (g:=y.g6);have Lg:=aS.trans (bq.trans fi);have M0:=eA
  case' refine_2=>refine b8 ?_;have Ax:=ap;have HQ:=pz;have K8:=lG;have Lg:=fi;have M0:=fr
  all_goals
   refine f4 (fK (λav=>?_) (λav=>?_))
   rotate_left
   .refine b8 ?_;exact bC (i+1,_,_) _ _ (by show x.funcs.length - (i+1)<x.funcs.length - i;omega) ⟨by show i+1<=x.funcs.length;omega,Ax,K8,Lg,M0⟩ (by kernel_rfl)
   refine b8 ?_
   refine eD (λiR=>?_) (λiR=>?_)
   case' refine_1=>refine b8 ?_;refine MO.mk (mG (DB (by simp only[cA]) J6)) ?_;refine b8 ?_;have Yi:=λig=>adm (SG Ax (ig:=ig) (cm:=[]) (gl:=19) (jn:=[y.aR]) (mz _) pz (ez 1) (λs ak=>by rw[iF.1 ak];exact yM)) HQ
   case' refine_2=>
    (conv=>whnf)
    repeat((first|refine .mk ⟨rfl,by simp only[nD,r8];omega⟩ ?_|refine .mk (by omega) ?_|refine .mk (by simp only[gP,nD,r8];omega) ?_|refine .nice (by omega) ?_|refine .plain ?_|refine .yes (by decide) ?_|refine .no (by decide) ?_|refine oG (by kernel_rfl) ?_);(conv=>whnf))
    have Yi:=λig=>adm (SG Ax (ig:=ig) (cm:=y.aR) (gl:=1) (jn:=[]) yM pz (mz _) (λs ak=>by cases ak)) HQ
   all_goals
    refine aK (V2 Q Ax _) ?_
    rintro v A ⟨rfl,ef,rfl,aip⟩
    (conv=>whnf)
    repeat((first|refine gz.mk (OK (X:=[66,70]) aip (by decide) (Ax.cf.cm (by decide))) ?_|refine .mk ⟨rfl,by simp only[nD,r8];omega⟩ ?_|refine .mk (by omega) ?_|refine .mk (by simp only[gP,nD,r8];omega) ?_|refine .nice (by omega) ?_|refine .plain ?_|refine .yes (by decide) ?_|refine .no (by decide) ?_|refine oG (by kernel_rfl) ?_);(conv=>whnf))
    refine aK (acZ Q bi 5 (by decide) 5 5 (by decide) (by decide) _ _ (Yi ef) _ HQ.fk _ _ _ _ M0 (mq (Nat.add_le_add_right (by first|omega|decide:_<=160000) _) (by decide))) ?_
    rintro v A ⟨⟨uR,rfl,akK⟩,a9,asH,asL,iQ,vb,rfl⟩
    have HH:=akK.mono (show 4+5<=10 by decide)
    have aaP:pM 109 9 (aj.cells uR):=.inr ⟨rfl,rfl,uR,rfl,HH⟩
    have abu:(4*(y.g6 / 2)+1) / 4=109:=by omega
    refine b8 ?_
    refine GO.mk 109 ⟨by omega,by omega⟩ rfl ?_
    refine aG ?_
    refine FF.mk (PC (m:=10) (c:=aj.cells uR) rfl (by omega) (by omega) (.inl ⟨rfl,rfl⟩) (by rw[abu];exact HH.cm (by decide)) (Mz rfl) (Nat.ne_of_beq_eq_false rfl) rfl (λmI jX dg ej=>?_))
    rw[abu] at ej
    obtain⟨dc,dY,rfl,v1,cl,e9,rfl,v2,rfl⟩:=ej
    obtain⟨ag9,rfl,XD,ajQ⟩:=Rb aaP Ax v1
    have tJ:=QG aaP bi it v2
    subst tJ
    show jt [109] _ _ _ _
    refine mP (by first|exact trivial|exact⟨mG (DB (by simp only[cA]) J6),trivial⟩) ?_
    have cw:=bi.cm it (X:=[109]) rfl
    have c7:cA [109] (.aQ f.g1 (f.fg.map cX.row))=false:=ux pz.m1 pz.ge (by decide)
    simp(disch:=first|assumption|with_unfolding_all rfl) only[fA,je,dJ,lA,mh,li,k7,mu,lg,la,lR,nC,lD,oZ,iD,mX]
    refine b8 ?_
    exact bC (i+1,_,_) _ _ (by show x.funcs.length - (i+1)<x.funcs.length - i;omega) ⟨by show i+1<=x.funcs.length;omega,ajQ,K8.fn (g:=y.g6) (l:=ag9),XD.trans Lg,iQ⟩ (by kernel_rfl)
 .refine b8 ?_;exact⟨y,bN,rfl,fr,ap,lG,fi⟩
end
section
variable{C:Nat->cG}{ext:Nat->Option e0}{ab:fD}(Q:Env C ext ab)
include Q
variable{g:Nat}
attribute [local irreducible] cA dw hy
theorem abR(x)(I:io x)(bi:l6 ab)(it:g / 2=3)(n)(aB:x.ea.length+n<=10)(a)(aD:a<=ab.length):bj C [44] 14 [.bH 1000 0,.J (.int 3 n)] [(1000,iP x),(1001,dH g ab a)] λv A=>∃(y:cV)(a:Nat),A=[(1000,iP y),(1001,dH g ab a)]/\a<=ab.length/\io y/\G3 x y/\y.ea.length<=x.ea.length+n:=by
 refine Q.z 14 (tQ [(0,⟨[3,4,5,6,7,8],[93],[],[1000,1001]⟩),(2,⟨[6,8],[],[⟨true,5,5,900,84,4⟩],[5,900,1000,1001]⟩)]) rfl rfl ?_
 (conv=>whnf)
 repeat(refine bn ?_;conv=>whnf)
 refine yQ (α:=Nat×cV×Nat) (λb=>[(2,.J (.int 3 b.1))]) (λb=>[(1000,iP b.2.1),(1001,dH g ab b.2.2)]) (λb=>n - b.1) (λb=>b.1<=n/\io b.2.1/\G3 x b.2.1/\b.2.1.ea.length<=x.ea.length+b.1/\b.2.2<=ab.length) ⟨(0,x,a),⟨Nat.zero_le _,I,⟨_,_,rfl⟩,Nat.le_refl _,aD⟩,by kernel_rfl⟩ (λb ba bo bC=>?_);have⟨i,y,bN⟩:=b;have⟨dD,ap,lG,fi,fr⟩:=bo;simp only at dD ap lG fi fr bC ⊢
 (conv=>whnf)
 repeat(refine b9 ?_;conv=>whnf)
 refine eT (λaH=>?_) (λaH=>?_)
 ·(conv=>whnf)
  repeat(refine b9 ?_;conv=>whnf)
  refine aK (yJ Q [83] i ag Y) ?_;rintro v A ⟨rfl,kz,rfl,zq,nr⟩
  (conv=>whnf)
  repeat' ((first|(refine aK (fR Q bi _ _ (by assumption) ag ag) ?_;rintro v A ⟨⟨r,rfl,ad⟩,a2,fU,rfl⟩)|refine b9 ?_|((with_reducible first|apply eT|apply iN|apply fK|apply cC|apply f4|apply kC|apply kB|apply eD)<;>intros))<;>(conv=>whnf))
  all_goals
   refine aK (aez Q bi y 1 [] _ (by assumption)) ?_
   rintro v A ⟨⟨a3,eA,rfl⟩,g1,I4,cg,G,rfl,hp⟩
   have EX:G.length<=1:=by rcases hp with⟨_,rfl⟩|⟨_,rfl,_⟩<;>simp
   have ov:∀x∈G,mY x:=by
    rcases hp with⟨_,rfl⟩|⟨_,rfl,_⟩
    .intro x h;cases h
    .intro x h;rw[List.mem_singleton.1 h];exact⟨ag,ag,ag,ag,(λ_ h=>by cases h),.inl rfl⟩
   have xX:gV 104 I4 G:=by
    rcases hp with⟨_,rfl⟩|⟨_,rfl,_,h⟩
    .exact .inl rfl
    .exact .inr h
   have m6:cg.length<=1/\(∀s∈cg,s.length<=100/\(46:UInt8)∉s/\s≠[65,114,114,97,121])/\gV 9 g1 cg:=by
    rcases hp with⟨rfl,_⟩|⟨rfl,_,h,_⟩
    .exact⟨ag,(λ_ h=>by cases h),.inl rfl⟩
    .exact⟨ag,λs ak=>by rw[List.mem_singleton.1 ak];decide,.inr h⟩
   (conv=>whnf)
   repeat(refine b9 ?_;conv=>whnf)
  all_goals
   generalize Nat.beq r 0=gf
   first|(rename_i oo Yl a5 nK;generalize Nat.blt oo 4=jj)|obtain⟨jj,rV⟩:∃jj:Bool,jj=false:=⟨_,rfl⟩
   refine Ta (α:=Nat×List eF×Nat) (λb=>[(5,.J (.int 3 b.1))]) (λb=>[(5,.box 44 6 (.bE [.J (.int 3 0),.J (.bool jj),.J (.bool gf),.J (.str ([83]++[kz])),.J (.aQ g1 (cg.map cu)),.bQ 900])),(900,.arr 84 4 (b.2.1.map eF.row) true),(1000,iP y),(1001,dH g ab b.2.2)]) (λb=>4 - b.1) (λb=>b.1<=4/\b.2.1.length<=b.1/\(∀f∈b.2.1,OF f)/\b.2.2<=ab.length) ⟨(0,[],a3),⟨Nat.zero_le _,Nat.le_refl _,(λ_ h=>by cases h),eA⟩,by first|(subst rV;kernel_rfl)|kernel_rfl⟩ (λc7 fJ dp eG=>?_)
   have⟨k,cz,a4⟩:=c7
   have⟨dr,c3,dY,e9⟩:=dp
   simp only at dr c3 dY e9 eG ⊢
   have bq:(cz.map eF.row).length=cz.length:=bW
   (conv=>whnf)
   repeat(refine b9 ?_;conv=>whnf)
   refine aK (fR Q bi a4 4 e9 ag ag) ?_
   rintro v A ⟨⟨r,rfl,ad⟩,a5,nK,rfl⟩
   (conv=>whnf)
   repeat(refine b9 ?_;conv=>whnf)
   refine iN (λTL=>?_) (λTL=>?_)
   ·(conv=>whnf)
    repeat(refine b9 ?_;conv=>whnf)
    refine aK (yJ Q [] k ag Y) ?_;rintro v A ⟨rfl,rF,rfl,y3,T5⟩
    (conv=>whnf)
    repeat' ((first|(refine aK (fR Q bi _ _ (by assumption) ag ag) ?_;rintro v A ⟨⟨cl,rfl,eM⟩,dR,ra,rfl⟩)|refine b9 ?_|((with_reducible first|apply eT|apply iN|apply fK|apply cC|apply f4|apply kC|apply kB|apply eD)<;>intros))<;>(conv=>whnf))
    all_goals
     refine aK (De Q bi y ap.cf 1 [] ag _ I4 G Y ov _ (by assumption)) ?_
     rintro v A ⟨⟨en,s7,rfl⟩,t,rfl,al⟩
     (conv=>whnf)
     repeat(refine b9 ?_;conv=>whnf)
     first|(generalize Nat.blt 0 cl=Cb)|(obtain⟨Cb,aps⟩:∃Cb:Bool,Cb=true:=⟨_,rfl⟩)
     refine eG (k+1,cz++[⟨Cb,[]++[rF],t⟩],en) _ _ (by show 4 - (k+1)<4 - k;omega) ⟨by show k+1<=4;omega,by rw[List.length_append];show cz.length+1<=k+1;omega,p8 dY ⟨by show 0+1<=100;decide,al.mono ag⟩,s7⟩ (by rw[List.map_append];first|(subst aps;kernel_rfl)|kernel_rfl)
   .have uH:∀X,cm X [54,84]->cA X (.aQ (2*84+true.toNat) (cz.map eF.row))=false:=λX h=>j6 (.inr rfl) (h 84 ag) λf aI=>(dY f aI).cm (h.sub ag);have eK:FJ ⟨0,jj,gf,[83]++[kz],g1,cg,169,cz⟩:=⟨Nat.zero_le _,by show 1+1<=100;decide,m6.1,m6.2.1,m6.2.2,by show cz.length<=6;omega,dY,.inr (ag:169 / 2=84)⟩;have gN:∀X,cm X [54,84,9]->dw X [.int 3 0,.bool jj,.bool gf,.str ([83]++[kz]),.aQ g1 (cg.map cu),.aQ (2*84+true.toNat) (cz.map eF.row)]=false:=λX h=>by have B:cA X (.aQ (2*84+true.toNat) (cz.map eF.row))=false:=j6 (.inr rfl) (h 84 ag) λf aI=>(dY f aI).cm (h.sub ag);simp only[dw,oB,oX,lr,B,y7 m6.2.2 (h 9 ag),Bool.or_false]
    have cB:(y.ea.map ec.row).length=y.ea.length:=bW
    (conv=>whnf)
    repeat(refine b9 ?_;conv=>whnf)
    refine ys (ap.ej.A λx=>rfl) ag ag (by simp only[List.length_cons,List.length_nil];omega) (λbt=>?_) (λbt=>?_);case' refine_1=>refine⟨tZ (ap.cf.xs ag) (mG (gN _ ag)),?_⟩;show jt [44] _ _ _ _;refine mP ⟨mG (gN _ ag),trivial⟩ ?_;simp only[List.map_cons,List.map_nil,dJ,lA,mh,li,k7,mu,lg,la,lR,nC,lD,iD,s8 (ap.ej.full bt),z7,lr,ER (gN [44] ag),uH [44] ag,y7 m6.2.2 (show cr 9 [44]=false from rfl),ux xX ov (ag:cm [44] [9,104]),bi.cm it (show cr 3 [44]=false from rfl),ap.cf.kq (X:=[44]),ap.cf.vm (ag:cm [44] _),ap.cf.jZ (ag:cm [44] _),ap.cf.xS (ag:cm [44] _),ap.cf.jw (ag:cm [44] _),mX]
    all_goals
     (conv=>whnf)
     repeat(refine b9 ?_;conv=>whnf)
     refine bC (i+1,_,a5) _ _ (by show n - (i+1)<n - i;omega) ⟨aH,ap.lj eK Y,lG.lj,by rw[List.length_append];show y.ea.length+1<=x.ea.length+(i+1);omega,nK⟩ (by simp only[iP,cV.cells,List.map_append];first|rfl|(rw[bt];rfl))
 ·(conv=>whnf)
  repeat refine b9 ?_;(conv=>whnf)
  exact⟨y,bN,rfl,fr,ap,lG,Y⟩
end
section
variable{C:Nat->cG}{ext:Nat->Option e0}{ab:fD}(Q:Env C ext ab)
include Q
variable{g:Nat}
attribute [local irreducible] cA dw hy
abbrev Hk(s:bM):ai:=.mk s 1 []
theorem aen(x)(I:io x)(bi:l6 ab)(it:g / 2=3)(n)(aB:x.dW.length+n<=10)(a)(aD:a<=ab.length):bj C [47] 15 [.bH 1000 0,.J (.int 3 n)] [(1000,iP x),(1001,dH g ab a)] λv A=>∃(y:cV)(a:Nat),A=[(1000,iP y),(1001,dH g ab a)]/\a<=ab.length/\io y/\GV x y/\y.dW.length<=x.dW.length+n:=by
 refine Q.z 15 (tQ [(0,⟨[3,4,5,6,7,8,9,10,11,12,13,14,15,16,17],[142],[],[1000,1001]⟩),(2,⟨[6,14],[],[⟨true,7,1,900,54,2⟩],[5,7,900,1000,1001]⟩),(4,⟨[8,9,15,16,17],[900],[⟨true,5,5,901,87,3⟩],[5,7,901,1000,1001]⟩),(6,⟨[16,17],[],[⟨true,11,2,902,54,2⟩],[5,7,11,901,902,1000,1001]⟩)]) rfl rfl ?_
 (conv=>whnf)
 repeat(refine bn ?_;conv=>whnf)
 refine yQ (α:=Nat×cV×Nat) (λb=>[(2,.J (.int 3 b.1))]) (λb=>[(1000,iP b.2.1),(1001,dH g ab b.2.2)]) (λb=>n - b.1) (λb=>b.1<=n/\io b.2.1/\GV x b.2.1/\b.2.1.dW.length<=x.dW.length+b.1/\b.2.2<=ab.length) ⟨(0,x,a),⟨Nat.zero_le _,I,⟨_,_,rfl⟩,Nat.le_refl _,aD⟩,by kernel_rfl⟩ (λb ba bo bC=>?_)
 obtain⟨i,y,bN⟩:=b
 obtain⟨dD,ap,lG,fi,fr⟩:=bo
 simp only at dD ap lG fi fr bC ⊢
 have yM:=ap.cf.aR
 (conv=>whnf)
 repeat(refine b9 ?_;conv=>whnf)
 refine eT (λaH=>?_) (λaH=>?_)
 ·(conv=>whnf)
  repeat(refine b9 ?_;conv=>whnf)
  refine aK (yJ Q [85] i ag Y) ?_
  rintro v A ⟨rfl,kz,rfl,zq,nr⟩
  (conv=>whnf)
  repeat' ((first|(refine aK (fR Q bi _ _ (by assumption) ag ag) ?_;rintro v A ⟨⟨r,rfl,ad⟩,a2,fU,rfl⟩)|refine b9 ?_|((with_reducible first|apply eT|apply iN|apply fK|apply cC|apply f4|apply kC|apply kB|apply eD)<;>intros))<;>(conv=>whnf))
  all_goals
   refine aK (aez Q bi y 1 [] _ (by assumption)) ?_
   rintro v A ⟨⟨a3,eA,rfl⟩,g1,I4,cg,G,rfl,hp⟩
   have EX:G.length<=1:=by rcases hp with⟨_,rfl⟩|⟨_,rfl,_⟩<;>simp
   have ov:∀x∈G,mY x:=by
    rcases hp with⟨_,rfl⟩|⟨_,rfl,_⟩
    .intro x h;cases h
    .intro x h;rw[List.mem_singleton.1 h];exact⟨ag,ag,ag,ag,(λ_ h=>by cases h),.inl rfl⟩
   have xX:gV 104 I4 G:=by
    rcases hp with⟨_,rfl⟩|⟨_,rfl,_,h⟩
    .exact .inl rfl
    .exact .inr h
   have m6:cg.length<=1/\(∀s∈cg,s.length<=100/\(46:UInt8)∉s/\s≠[65,114,114,97,121])/\gV 9 g1 cg:=by
    rcases hp with⟨rfl,_⟩|⟨rfl,_,h,_⟩
    .exact⟨ag,(λ_ h=>by cases h),.inl rfl⟩
    .exact⟨ag,λs ak=>by rw[List.mem_singleton.1 ak];decide,.inr h⟩
   have m1:(cg.map cu).length=cg.length:=bW
   clear hp
   (conv=>whnf)
   repeat(refine b9 ?_;conv=>whnf)
  all_goals
   generalize Nat.beq r 0=gf
   first|(rename_i oo Yl a5 nK;generalize Nat.blt oo 4=jj)|obtain⟨jj,rV⟩:∃jj:Bool,jj=false:=⟨_,rfl⟩
   refine gG cu cg 13 (λ_ (_:List ai)=>[]) (λ_ l=>[(5,.box 47 6 (.bE [.J (.int 3 0),.J (.bool jj),.J (.bool gf),.J (.str ([85]++[kz])),.J (.aQ g1 (cg.map cu)),.bT])),(7,.box 54 2 (.bE [.J (.str (y.aR++[46]++([85]++[kz]))),.bQ 900])),(900,.arr 54 2 (l.map ai.row) true),(1000,iP y),(1001,dH g ab a3)]) (λd l=>l=d.map Hk) ⟨[],rfl,by first|(subst rV;kernel_rfl)|kernel_rfl⟩ (λd l z cl fJ ar fv eM dp eG=>?_) (λl fJ dp=>?_)
   .have aV:=fv
    have ad:=eM
    have dp:l=d.map Hk:=dp
    have qD:d.length<cg.length:=Y
    have bq:(l.map ai.row).length=d.length:=by rw[List.length_map,dp,List.length_map]
    unfold cu at ad
    (conv=>whnf)
    repeat((first|refine .yes (cZ.2 aV) ?_|refine⟨aV,⟨_,ad,?_⟩⟩|refine b9 ?_);(conv=>whnf))
    refine aK (ou Q _) ?_
    rintro v A ⟨rfl,rfl⟩
    (conv=>whnf)
    repeat(refine b9 ?_;conv=>whnf)
    exact eG (l++[Hk z]) _ _ (by rw[dp,List.map_append];rfl) (by rw[List.map_append,List.map_singleton,ai.dF];first|(subst rV;kernel_rfl)|kernel_rfl)
   .have dp:l=cg.map Hk:=dp
    have Zm:l.length<=1:=by rw[dp,List.length_map];exact m6.1
    have aay:GT 5 (ai.mk (y.aR++[46]++([85]++[kz])) 109 l):=by
     have cb:(y.aR++[46]++([85]++[kz])).length<=300:=by simp only[List.length_append,List.length_cons,List.length_nil];omega
     have B:y.aR++[46]++([85]++[kz])≠[65,114,114,97,121]:=λe=>by
      have:(46:UInt8)∈y.aR++[46]++([85]++[kz]):=by simp
      rw[e] at this
      revert this;decide
     exact⟨cb,Zm,.inr (by show 109 / 2=54;decide),λe=>absurd e B,λt al=>by
      have al:t∈cg.map Hk:=by rw[<-dp];exact al
      obtain⟨s,ak,rfl⟩:=List.mem_map.1 al
      have:=m6.2.1 s ak
      exact GT.nil Y this.2.2 ag⟩
    (conv=>whnf)
    repeat((first|refine .no (lZ _) ?_|refine bn ?_);(conv=>whnf))
    refine yQ (α:=Nat×List eP×Nat) (λb=>[(7,.J (.int 3 b.1))]) (λb=>[(5,.box 47 6 (.bE [.J (.int 3 0),.J (.bool jj),.J (.bool gf),.J (.str ([85]++[kz])),.J (.aQ g1 (cg.map cu)),.bQ 901])),(7,.box 54 2 (.bE [.J (.str (y.aR++[46]++([85]++[kz]))),.J (.aQ 109 (l.map ai.row))])),(901,.arr 87 3 (b.2.1.map eP.row) true),(1000,iP y),(1001,dH g ab b.2.2)]) (λb=>4 - b.1) (λb=>b.1<=4/\b.2.1.length<=b.1/\(∀f∈b.2.1,KO f)/\b.2.2<=ab.length) ⟨(0,[],a3),⟨Nat.zero_le _,Nat.le_refl _,(λ_ h=>by cases h),eA⟩,by first|(subst rV;kernel_rfl)|kernel_rfl⟩ (λfu AT nc qr=>?_)
    obtain⟨k,d8,a4⟩:=fu
    obtain⟨dr,c3,dY,e9⟩:=nc
    simp only at dr c3 dY e9 qr ⊢
    have bq:(d8.map eP.row).length=d8.length:=bW
    (conv=>whnf)
    repeat(refine b9 ?_;conv=>whnf)
    refine aK (fR Q bi a4 4 e9 ag ag) ?_
    rintro v A ⟨⟨r,rfl,ad⟩,a5,nK,rfl⟩
    (conv=>whnf)
    repeat(refine b9 ?_;conv=>whnf)
    refine iN (λTL=>?_) (λTL=>?_)
    ·(conv=>whnf)
     repeat(refine b9 ?_;conv=>whnf)
     refine aK (yJ Q [99] k ag Y) ?_
     rintro v A ⟨rfl,rF,rfl,y3,T5⟩
     (conv=>whnf)
     repeat' ((first|(refine aK (wv Q bi _ _ (by assumption) ag ag) ?_;rintro v A ⟨⟨dx,rfl⟩,dR,ra,rfl⟩)|refine b9 ?_|((with_reducible first|apply eT|apply iN|apply fK|apply cC|apply f4|apply kC|apply kB|apply eD)<;>intros))<;>(conv=>whnf))
     all_goals
      refine aK (fR Q bi _ 3 (by assumption) ag ag) ?_
      rintro v A ⟨⟨hD,rfl,wl⟩,en,s7,rfl⟩
      (conv=>whnf)
      repeat(refine b9 ?_;conv=>whnf)
     all_goals
      first|(have:=dx.not)|obtain⟨dx,wV⟩:∃dx:Bool,dx=false:=⟨_,rfl⟩
      refine Ta (α:=Nat×List ai×Nat) (λb=>[(9,.J (.int 3 b.1))]) (λb=>[(5,.box 47 6 (.bE [.J (.int 3 0),.J (.bool jj),.J (.bool gf),.J (.str ([85]++[kz])),.J (.aQ g1 (cg.map cu)),.bQ 901])),(7,.box 54 2 (.bE [.J (.str (y.aR++[46]++([85]++[kz]))),.J (.aQ 109 (l.map ai.row))])),(11,.box 87 3 (.bE [.J (.bool dx),.J (.str ([99]++[rF])),.bQ 902])),(901,.arr 87 3 (d8.map eP.row) true),(902,.arr 54 2 (b.2.1.map ai.row) true),(1000,iP y),(1001,dH g ab b.2.2)]) (λb=>b.1) (λb=>b.2.1.length+b.1<=3/\(∀t∈b.2.1,GT 5 t)/\b.2.2<=ab.length) ⟨(hD,[],en),⟨by show 0+hD<=3;omega,(λ_ h=>by cases h),s7⟩,by first|(subst rV;subst wV;kernel_rfl)|(subst wV;kernel_rfl)|(subst rV;kernel_rfl)|kernel_rfl⟩ (λfh xl oj qo=>?_)
      obtain⟨M,bX,nX⟩:=fh
      obtain⟨df,cH,dh⟩:=oj
      simp only at df cH dh qo ⊢
      have aS:(bX.map ai.row).length=bX.length:=bW
      (conv=>whnf)
      repeat' ((first|(refine aK (fR Q bi _ 2 (by assumption) ag ag) ?_;rintro v A ⟨⟨lS,rfl,tG⟩,a9,iQ,rfl⟩)|(refine aK (De Q bi y ap.cf 1 [] ag _ I4 G Y ov _ (by assumption)) ?_;rintro v A ⟨⟨qf,Ij,rfl⟩,t,rfl,al⟩)|refine b9 ?_|((with_reducible first|apply eT|apply iN|apply fK|apply cC|apply f4|apply kC|apply kB|apply eD)<;>intros))<;>(conv=>whnf))
      .exact qo (M - 1,bX++[ai.mk (y.aR++[46]++([85]++[kz])) 109 l],a9) _ _ (by show M - 1<M;omega) ⟨by simp only[List.length_append,List.length_singleton];omega,p8 cH aay,iQ⟩ (by rw[List.map_append,List.map_singleton,ai.dF];first|(subst rV;subst wV;kernel_rfl)|(subst wV;kernel_rfl)|(subst rV;kernel_rfl)|kernel_rfl)
      .exact qo (M - 1,bX++[t],qf) _ _ (by show M - 1<M;omega) ⟨by simp only[List.length_append,List.length_singleton];omega,p8 cH (al.mono ag),Ij⟩ (by rw[List.map_append,List.map_singleton,ai.dF];first|(subst rV;subst wV;kernel_rfl)|(subst wV;kernel_rfl)|(subst rV;kernel_rfl)|kernel_rfl)
      .exact qo (M - 1,bX++[t],qf) _ _ (by show M - 1<M;omega) ⟨by simp only[List.length_append,List.length_singleton];omega,p8 cH (al.mono ag),Ij⟩ (by rw[List.map_append,List.map_singleton,ai.dF];first|(subst rV;subst wV;kernel_rfl)|(subst wV;kernel_rfl)|(subst rV;kernel_rfl)|kernel_rfl)
      .exact qr (k+1,d8++[⟨dx,[99]++[rF],109,bX⟩],nX) _ _ (by show 4 - (k+1)<4 - k;omega) ⟨by show k+1<=4;omega,by rw[List.length_append];show d8.length+1<=k+1;omega,p8 dY ⟨by show 1+1<=100;decide,by show bX.length<=6;omega,cH,.inr (ag:109 / 2=54)⟩,dh⟩ (by rw[List.map_append];first|(subst rV;subst wV;kernel_rfl)|(subst wV;kernel_rfl)|(subst rV;kernel_rfl)|kernel_rfl)
    .have uH:∀X,cm X [54,87]->cA X (.aQ (2*87+true.toNat) (d8.map eP.row))=false:=λX h=>j6 (.inr rfl) (h 87 ag) λf aI=>(dY f aI).cm (h.sub ag)
     have eK:yB ⟨0,jj,gf,[85]++[kz],g1,cg,175,d8⟩:=⟨Nat.zero_le _,by show 1+1<=100;decide,m6.1,m6.2.1,m6.2.2,by show d8.length<=6;omega,dY,.inr (ag:175 / 2=87)⟩
     have gN:∀X,cm X [54,87,9]->dw X [.int 3 0,.bool jj,.bool gf,.str ([85]++[kz]),.aQ g1 (cg.map cu),.aQ (2*87+true.toNat) (d8.map eP.row)]=false:=λX h=>by
      simp only[dw,oB,oX,lr,uH X (h.sub ag),y7 m6.2.2 (h 9 ag),Bool.or_false]
     have gj:cA [47] (.aQ 109 (l.map ai.row))=false:=j6 (el:=54) (.inr rfl) rfl λt al=>(aay.sub t al).El ag
     have cB:(y.dW.map eg.row).length=y.dW.length:=bW
     (conv=>whnf)
     repeat(refine b9 ?_;conv=>whnf)
     refine ys (ap.gv.A λx=>rfl) ag ag (by simp only[List.length_cons,List.length_nil];omega) (λbt=>?_) (λbt=>?_)
     case' refine_1=>
      refine⟨tZ (ap.cf.al7 ag) (mG (gN _ ag)),?_⟩
      show jt [47] _ _ _ _
      refine mP ⟨mG (gN _ ag),trivial⟩ ?_
      simp only[List.map_cons,List.map_nil,dJ,lA,mh,li,k7,mu,lg,la,lR,nC,lD,iD,s8 (ap.gv.full bt),z7,lr,ER (gN [47] ag),uH [47] ag,gj,y7 m6.2.2 (show cr 9 [47]=false from rfl),ux xX ov (ag:cm [47] [9,104]),bi.cm it (show cr 3 [47]=false from rfl),ap.cf.kq (X:=[47]),ap.cf.cz (ag:cm [47] _),ap.cf.jZ (ag:cm [47] _),ap.cf.xS (ag:cm [47] _),ap.cf.jw (ag:cm [47] _),mX]
     all_goals
      (conv=>whnf)
      repeat(refine b9 ?_;conv=>whnf)
      refine bC (i+1,_,a5) _ _ (by show n - (i+1)<n - i;omega) ⟨aH,ap.un eK Y,lG.un,by rw[List.length_append];show y.dW.length+1<=x.dW.length+(i+1);omega,nK⟩ (by simp only[iP,cV.cells,List.map_append];first|rfl|(rw[bt];rfl))
 ·(conv=>whnf)
  repeat(refine b9 ?_;conv=>whnf)
  exact⟨y,bN,rfl,fr,ap,lG,Y⟩
end
end Go.Tx
