/- Part of the proof of PrinterLines. -/
import Derived.Test.YtddaefckjmdfoaaGreatDoorG4
set_option linter.all false
namespace Go.Tx
open Go Go.Ev
set_option maxRecDepth 100000
set_option maxHeartbeats 8000000
attribute [local irreducible] jJ mb bj lQ kS nj ie fe
section
variable{C:Nat->cG}{ext:Nat->Option e0}{ab:fD}(Q:Env C ext ab)
include Q
variable{g:Nat}
attribute [local irreducible] cA dw hy
theorem apk(x)(I:iC x)(n4:s3 57 x.g5 x.ed)(l5:s3 109 x.g6 x.funcs)(bi:l6 ab)(it:g / 2=3)(a)(dZ:bM)(t)(k)(al:GT k t)(gZ)(G)(br:gV 104 gZ G)(ov:∀x∈G,mY x)(f:bM)(aB:x.ed.length<30)(kY:x.funcs.length<30):bj C [57,109] 43 [.bH 1000 0,.J (.str dZ),.J (.agg t.cells),.J (.aQ gZ (G.map cX.row)),.J (.str f)] [(1000,iP x),(1001,dH g ab a)] λv A=>A=[(1000,iP {x with g5:=115,ed:=x.ed++[⟨dZ,gZ,G,t,286,[⟨[115,104,111,119],f⟩]⟩],g6:=219,funcs:=x.funcs++[⟨0,false,false,f,gZ,G,212,[⟨[120],t,false,aj.nil⟩],ai.mk [73,110,116] 1 [],true,aj.nil⟩]}),(1001,dH g ab a)]:=by
 refine Q.z 43 cY rfl rfl ?_;have l3:(x.ed.map fc.row).length=x.ed.length:=bW;have me:(x.funcs.map dI.row).length=x.funcs.length:=bW;have gN:∀X,cm X [54,9,104]->dw X [.str dZ,.aQ gZ (G.map cX.row),.str t.aR,.aQ t.g (t.l.map ai.row)]=false:=λX h=>by simp only[dw,lr,ux br ov (h.sub ag),al.cm (h.sub ag),Bool.or_false]
 have gj:∀X,cr 143 X=false->cA X (.aQ (2*143+false.toNat) [[.str [115,104,111,119],.str f]])=false:=λX h=>Wf h (by simp only[dw,lr,Bool.or_false]);have hU:∀X,cm X [54,9,104,143]->dw X [.str dZ,.aQ gZ (G.map cX.row),.str t.aR,.aQ t.g (t.l.map ai.row),.aQ (2*143+false.toNat) [[.str [115,104,111,119],.str f]]]=false:=λX h=>Pf (gN X (h.sub ag)) (DB (gj X (h 143 ag)) J6);have iw:∀X,cm X [54]->dw X [.str [120],.str t.aR,.aQ t.g (t.l.map ai.row),.bool false,.int 3 0,.str [],.str [],.int 3 0,.aQ 1 [],.aQ 1 [],.aQ 1 [],.aQ 1 [],.str [],.aQ 1 [],.int 3 0]=false:=λX h=>by simp only[dw,lr,oX,oB,z7,al.cm h,Bool.or_false]
 have jm:∀X,cm X [54]->cA X (.agg t.cells)=false:=λX h=>ER (Dw.cm h al);have mS:∀X,cm X [54,9,104,106]->dw X [.int 3 0,.bool false,.bool false,.str f,.aQ gZ (G.map cX.row),.aQ (2*106+false.toNat) [[.str [120],.str t.aR,.aQ t.g (t.l.map ai.row),.bool false,.int 3 0,.str [],.str [],.int 3 0,.aQ 1 [],.aQ 1 [],.aQ 1 [],.aQ 1 [],.str [],.aQ 1 [],.int 3 0]],.str [73,110,116],.aQ 1 [],.bool true,.int 3 0,.str [],.str [],.int 3 0,.aQ 1 [],.aQ 1 [],.aQ 1 [],.aQ 1 [],.str [],.aQ 1 [],.int 3 0]=false:=λX h=>by have B:cA X (.aQ (2*106+false.toNat) [[.str [120],.str t.aR,.aQ t.g (t.l.map ai.row),.bool false,.int 3 0,.str [],.str [],.int 3 0,.aQ 1 [],.aQ 1 [],.aQ 1 [],.aQ 1 [],.str [],.aQ 1 [],.int 3 0]])=false:=Wf (h 106 ag) (iw X (h.sub ag));simp only[dw,lr,oX,oB,z7,B,ux br ov (h.sub ag),Bool.or_false]
 have bN:=bi.cm it (X:=[57]) rfl;have a2:cA [57] (.aQ gZ (G.map cX.row))=false:=ux br ov ag;have a3:cA [57] (.aQ t.g (t.l.map ai.row))=false:=al.cm ag;have a4:=I.kq (X:=[57]);have a5:=I.cz (X:=[57]) ag;have dR:=I.vm (X:=[57]) ag;have en:=I.jZ (X:=[57]) ag;have nX:=I.jw (X:=[57]) ag;have cw:=bi.cm it (X:=[109]) rfl;have c7:cA [109] (.aQ gZ (G.map cX.row))=false:=ux br ov ag;have fu:cA [109] (.aQ t.g (t.l.map ai.row))=false:=al.cm ag;have fh:=I.kq (X:=[109]);have hC:=I.cz (X:=[109]) ag;have j9:=I.vm (X:=[109]) ag;have nL:=I.jZ (X:=[109]) ag;have IK:=I.xS (X:=[109]) ag;refine b8 ?_;refine ys (n4.A λx=>rfl) ag ag (by simp only[List.length_cons,List.length_nil];omega) (λbt=>?_) (λbt=>?_);case' refine_1=>refine⟨tZ (I.VY ag) (mG (hU _ ag)),?_⟩;show jt [57] _ _ _ _;refine mP ⟨mG (hU _ ag),trivial⟩ ?_;simp only[List.map_cons,List.map_nil,dJ,lA,mh,li,k7,mu,lg,la,iD,s8 (n4.full bt),z7,lr,bN,a2,a3,a4,a5,dR,en,nX,gj [57] rfl,jm [57] ag,mX]
 all_goals
  refine b8 ?_
  refine cT (ou Q _) ?_
  (conv=>whnf)
  refine⟨mG (iw _ ag),?_⟩
  refine b8 ?_
  refine ys (l5.A λx=>rfl) ag ag (by simp only[List.length_cons,List.length_nil];omega) (λb1=>?_) (λb1=>?_)
  case' refine_1=>refine⟨tZ (I.iY ag) (mG (mS _ ag)),?_⟩;show jt [109] _ _ _ _;refine mP ⟨mG (mS _ ag),by first|exact mG (hU _ ag)|exact tZ (I.VY ag) (mG (hU _ ag)),mG (hU _ ag),trivial⟩ ?_;simp only[List.map_cons,List.map_nil,dJ,lA,mh,li,k7,mu,lg,la,iD,s8 (l5.full b1),z7,lr,cw,c7,fu,fh,hC,j9,nL,IK,jm [109] ag,mX]
  all_goals
   refine b8 ?_
   simp only[iP,cV.cells,List.map_append]
   first|rfl|(rw[b1];rfl)|(rw[bt];rfl)|(rw[bt,b1];rfl)
end
section
variable{C:Nat->cG}{ext:Nat->Option e0}{ab:fD}(Q:Env C ext ab)
include Q
variable{g:Nat}
attribute [local irreducible] cA dw hy
abbrev abo(x:cV)(g:Nat)(ab:fD)(v:b2)(A:be):Prop:=∃(y:cV)(a:Nat),A=[(1000,iP y),(1001,dH g ab a)]/\a<=ab.length/\io y/\vH x y/\y.ed.length<=x.ed.length+1/\y.funcs.length<=x.funcs.length+1
omit Q in
def afv{f}{gZ}{G}{t}{u:bM}(aI:f.length<=100)(br:gV 104 gZ G)(vn:G.length<=1)(ov:∀x∈G,mY x)(al:GT 5 t):mV ⟨0,false,false,f,gZ,G,212,[⟨[120],t,false,aj.nil⟩],ai.mk [73,110,116] 1 [],true,aj.nil⟩:=
 ⟨mz _,aI,vn,ov,br,by show 1<=5;decide,λa aD=>by rw[iF.1 aD];exact⟨by show 1<=100;decide,al,q7.mono ag⟩,.inr (ag:212 / 2=106),GT.nil ag ag ag,q7.mono ag⟩
def Si(x)(I:io x)(bi:l6 ab)(it:g / 2=3)(a)(aD:a<=ab.length)(dZ:bM)(EG:dZ.length<=300)(t)(al:GT 5 t)(gZ)(G)(br:gV 104 gZ G)(vn:G.length<=1)(ov:∀x∈G,mY x)(GX:G≠[]->(46:UInt8)∈t.aR)(f:bM)(aI:f.length<=100)(aB:x.ed.length<30)(kY:x.funcs.length<30):bj C [57,109] 43 [.bH 1000 0,.J (.str dZ),.J (.agg t.cells),.J (.aQ gZ (G.map cX.row)),.J (.str f)] [(1000,iP x),(1001,dH g ab a)] (abo x g ab):=by refine(apk Q x I.cf I.n4 I.l5 bi it a dZ t 5 al gZ G br ov f aB kY).imp ?_;rintro v A rfl;refine⟨_,a,rfl,aD,(I.co (s:=⟨dZ,gZ,G,t,286,[⟨[115,104,111,119],f⟩]⟩) ⟨EG,vn,ov,br,al,GX,by show 1<=5;decide,λb av=>by rw[iF.1 av];exact⟨by show 4<=100;decide,aI⟩,.inr (ag:286 / 2=143)⟩ aB).fn (afv (u:=[]) aI br vn ov al) kY,⟨_,_,_,_,rfl⟩,by simp,by simp⟩
theorem aei(x)(I:io x)(bi:l6 ab)(it:g / 2=3)(a)(aD:a<=ab.length)(dZ:bM)(EG:dZ.length<=300)(aR:bM)(l0:aR.length<=100)(Mp)(cg:List bM)(hp:cg.length<=1)(m6:∀s∈cg,s.length<=100/\(46:UInt8)∉s/\s≠[65,114,114,97,121])(f:bM)(aI:f.length<=100)(aB:x.ed.length<30)(kY:x.funcs.length<30):bj C [57,109] 44 [.bH 1000 0,.J (.str dZ),.J (.str aR),.J (.aQ Mp (cg.map cu)),.J (.str f)] [(1000,iP x),(1001,dH g ab a)] (abo x g ab):=by
 refine Q.z 44 (tQ [(0,⟨[7,8,12,13],[],[⟨false,6,0,900,104,2⟩,⟨true,10,1,901,54,2⟩],[10,900,901,1000,1001]⟩)]) rfl rfl ?_;have yM:=I.cf.aR;have m1:(cg.map cu).length=cg.length:=bW
 (conv=>whnf)
 repeat refine b9 ?_;(conv=>whnf)
 refine gG cu cg 11 (λ_ (_:List ai×List cX×Nat)=>[(6,.bQ 900)]) (λ_ b=>[(10,.box 54 2 (.bE [.J (.str (x.aR++[46]++aR)),.bQ 901])),(900,.arr 104 2 (b.2.1.map cX.row) true),(901,.arr 54 2 (b.1.map ai.row) true),(1000,iP x),(1001,dH g ab b.2.2)]) (λd b=>b.1.length=d.length/\(∀t∈b.1,GT 1 t)/\b.2.1.length=d.length/\(∀x∈b.2.1,mY x)/\b.2.2<=ab.length) ⟨([],[],a),⟨rfl,(λ_ h=>by cases h),rfl,(λ_ h=>by cases h),aD⟩,by kernel_rfl⟩ (λd b z cl ba ar fv eM bo bC=>?_) (λb ba bo=>?_)
 .have⟨bX,C9,bN⟩:=b;have⟨dD,dQ,fi,fr,lY⟩:=bo;simp only at dD dQ fi fr lY bC ⊢;have qD:d.length<cg.length:=Y;have bq:(bX.map ai.row).length=bX.length:=bW;have aS:(C9.map cX.row).length=C9.length:=bW;have bO:=m6 z (by simp [ar]);have aV:=fv;have ad:=eM;unfold cu at ad
  (conv=>whnf)
  repeat((first|refine .yes (cZ.2 aV) ?_|refine⟨aV,⟨_,ad,?_⟩⟩|refine b9 ?_);(conv=>whnf))
  refine aK (ou Q _) ?_;rintro v A ⟨rfl,rfl⟩
  (conv=>whnf)
  repeat' ((first|(refine aK (fR Q bi _ 2 (by assumption) ag ag) ?_;rintro v A ⟨⟨r,rfl,ad⟩,a2,fU,rfl⟩)|refine b9 ?_|((with_reducible first|apply eT|apply iN|apply fK|apply cC|apply f4|apply kC|apply kB|apply eD)<;>intros))<;>(conv=>whnf))
  .exact bC (bX++[.mk z 1 []],C9++[⟨z,18,[dZ]⟩],a2) _ _ ⟨by simp [dD],p8 dQ (GT.nil Y bO.2.2 ag),by simp [fi],p8 fr ⟨bO.1,bO.2.1,bO.2.2,by show 1<=10;decide,λs ak=>by rw[List.mem_singleton.1 ak];exact EG,.inr (ag:18 / 2=9)⟩,fU⟩ (by rw[List.map_append,List.map_append,List.map_singleton,List.map_singleton,ai.dF];kernel_rfl)
  .exact bC (bX++[.mk z 1 []],C9++[⟨z,1,[]⟩],a2) _ _ ⟨by simp [dD],p8 dQ (GT.nil Y bO.2.2 ag),by simp [fi],p8 fr ⟨bO.1,bO.2.1,bO.2.2,by show 0<=10;decide,(λs ak=>by cases ak),.inl rfl⟩,fU⟩ (by rw[List.map_append,List.map_append,List.map_singleton,List.map_singleton,ai.dF];kernel_rfl)
 .have⟨bX,C9,bN⟩:=b;have⟨dD,dQ,fi,fr,lY⟩:=bo;simp only at dD dQ fi fr lY ⊢;have GX:(46:UInt8)∈x.aR++[46]++aR:=by simp
  have al:GT 5 (ai.mk (x.aR++[46]++aR) 109 bX):=⟨by simp only[ai.aR,List.length_append,List.length_cons,List.length_nil];omega,by show bX.length<=1;omega,.inr (ag:109 / 2=54),λe=>by have e:x.aR++[46]++aR=[65,114,114,97,121]:=e;rw[e] at GX;exact absurd GX ag,λt h=>(dQ t h).mono ag⟩;refine de ?_;refine aK (Si Q x I bi it bN lY dZ EG (ai.mk (x.aR++[46]++aR) 109 bX) al 209 C9 (.inr ag) Y fr (λ_=>GX) f aI aB kY) ?_;rintro v A ⟨y,a2,rfl,fU,ap,lG,K⟩;show jt [57,109] _ _ _ _;refine mP trivial ?_;have gN:cA [57,109] (.aQ (2*54+true.toNat) (bX.map ai.row))=false:=j6 (el:=54) (.inr rfl) rfl λt al=>(dQ t al).El ag;have gj:cA [57,109] (.aQ (2*104+true.toNat) (C9.map cX.row))=false:=ux (.inr rfl) fr ag;simp only[List.map_cons,List.map_nil,dJ,lA,mh,li,k7,mu,lg,la,lR,nC,lD,iD,z7,lr,gN,gj];refine aG ?_;exact⟨y,a2,rfl,fU,ap,lG,K⟩
end
section
variable{C:Nat->cG}{ext:Nat->Option e0}{ab:fD}(Q:Env C ext ab)
include Q
variable{g:Nat}
attribute [local irreducible] cA dw hy
theorem aj9(x)(I:io x)(bi:l6 ab)(it:g / 2=3)(n)(aB:x.funcs.length+n+1<=30)(a)(aD:a<=ab.length):bj C [109] 17 [.bH 1000 0,.J (.int 3 n)] [(1000,iP x),(1001,dH g ab a)] λv A=>∃(y:cV)(a:Nat),A=[(1000,iP y),(1001,dH g ab a)]/\a<=ab.length/\io y/\zg x y/\y.funcs.length<=x.funcs.length+n+1:=by
 refine Q.z 17 (tQ [(0,⟨[3,4,5,6,7,8,9,10,11,12,13,14,15,16,17,18,19,20],[189],[],[1000,1001]⟩),(2,⟨[5,6,14,15,16,17,18,19],[],[⟨true,6,1,900,9,1⟩],[5,6,900,1000,1001]⟩),(4,⟨[6,18,19],[],[⟨true,6,1,900,9,1⟩],[5,6,8,900,1000,1001]⟩),(6,⟨[20],[147],[⟨true,5,5,901,106,15⟩],[5,901,1000,1001]⟩)]) rfl rfl ?_;refine aG ?_;refine yQ (α:=Nat×cV×Nat) (λb=>[(2,.J (.int 3 b.1))]) (λb=>[(1000,iP b.2.1),(1001,dH g ab b.2.2)]) (λb=>n - b.1) (λb=>b.1<=n/\io b.2.1/\zg x b.2.1/\b.2.1.funcs.length<=x.funcs.length+b.1/\b.2.2<=ab.length) ⟨(0,x,a),⟨Nat.zero_le _,I,⟨_,_,rfl⟩,Nat.le_refl _,aD⟩,by kernel_rfl⟩ (λb ba bo bC=>?_);obtain⟨i,y,bN⟩:=b;obtain⟨dD,ap,lG,fi,fr⟩:=bo;simp only at dD ap lG fi fr bC ⊢;have yM:=ap.cf.aR;have arp:=ap.cf.rel;refine b8 ?_;refine eT (λaH=>?_) (λaH=>?_)
 .refine b8 ?_;refine aK (yJ Q [102] i ag Y) ?_;rintro v A ⟨rfl,kz,rfl,zq,nr⟩;refine b8 ?_;refine fK (λEM=>?_) (λEM=>?_);case' refine_1=>
   have pn:=ap.mH EM;refine b8 ?_;refine aK (fR Q bi _ _ fr ag ag) ?_;rintro v A ⟨⟨r,rfl,ad⟩,a2,fU,rfl⟩;refine aG ?_;generalize Nat.blt r 4=jj;cases jj;case' false=>
    (conv=>whnf)
    repeat(first|refine .no rfl ?_|refine bn ?_);(conv=>whnf)
    obtain⟨ij,qE,rb⟩:∃s:Nat,s=0/\s<=1000:=⟨_,rfl,Y⟩;obtain⟨qv,FR⟩:∃b:Bool,b=false:=⟨_,rfl⟩;obtain⟨dE,xd⟩:∃b:Bool,b=false:=⟨_,rfl⟩
   case' true=>
    (conv=>whnf)
    repeat(first|refine .yes rfl ?_|(refine aK (fR Q bi a2 3 fU ag ag) ?_;rintro v A ⟨⟨cl,rfl,eM⟩,a3,eA,rfl⟩)|refine bn ?_);(conv=>whnf)
    refine aG ?_;generalize Nat.beq cl 0=inl;refine aK (wv Q bi a3 5 eA ag ag) ?_;rintro v A ⟨⟨dx,rfl⟩,a5,nK,rfl⟩;cases dx;case' false=>
     (conv=>whnf)
     repeat(first|refine .no rfl ?_|refine bn ?_);(conv=>whnf)
     obtain⟨ij,qE,rb⟩:∃s:Nat,s=0/\s<=1000:=⟨_,rfl,Y⟩;obtain⟨qv,FR⟩:∃b:Bool,b=true:=⟨_,rfl⟩;obtain⟨dE,xd⟩:∃b:Bool,b=inl:=⟨_,rfl⟩
    case' true=>
     (conv=>whnf)
     repeat(first|refine .yes rfl ?_|(refine aK (fR Q bi a5 y.rel nK pn Y) ?_;rintro v A ⟨⟨hD,rfl,wl⟩,dR,ra,rfl⟩)|refine bn ?_);(conv=>whnf)
     obtain⟨ij,qE,rb⟩:∃s:Nat,s=1+hD/\s<=1000:=⟨_,rfl,Y⟩;obtain⟨qv,FR⟩:∃b:Bool,b=true:=⟨_,rfl⟩;obtain⟨dE,xd⟩:∃b:Bool,b=inl:=⟨_,rfl⟩
  case' refine_2=>refine aG ?_;obtain⟨ij,qE,rb⟩:∃s:Nat,s=0/\s<=1000:=⟨_,rfl,Y⟩;obtain⟨qv,FR⟩:∃b:Bool,b=false:=⟨_,rfl⟩;obtain⟨dE,xd⟩:∃b:Bool,b=false:=⟨_,rfl⟩
  all_goals
   refine aK (wv Q bi _ 3 (by assumption) ag ag) ?_
   rintro v A ⟨⟨aqA,rfl⟩,en,s7,rfl⟩
   cases aqA
   case' true=>
    (conv=>whnf)
    repeat(first|refine .yes rfl ?_|refine bn ?_);(conv=>whnf)
    refine aK (T7 Q y 1 [] _) ?_;rintro v A ⟨rfl,ig,rfl,zm⟩
    (conv=>whnf)
    repeat(first|refine gz.mk (OK (X:=[66,70]) zm ag (ap.cf.cm ag)) ?_|refine bn ?_);(conv=>whnf)
    refine gG cV.cells [y] 13 (λ_ (_:List bM×Nat)=>[]) (λ_ b=>[(5,.box 109 20 (.bE [.J (.int 3 ij),.J (.bool qv),.J (.bool dE),.J (.str ([102]++[kz])),.bT,.bT,.J (.str []),.bT,.J (.bool true),.J (.int 3 0),.J (.str []),.J (.str []),.J (.int 3 0),.bT,.bT,.bT,.bT,.J (.str []),.bT,.J (.int 3 0)])),(6,.box 104 2 (.bE [.J (.str [84]),.bQ 900])),(900,.arr 9 1 (b.1.map cu) true),(1000,iP y),(1001,dH g ab b.2)]) (λd b=>b.1.length<=1/\(∀s∈b.1,s.length<=300)/\b.2<=ab.length) ⟨([],en),⟨Nat.zero_le _,(λ_ h=>by cases h),s7⟩,by subst qE FR xd;kernel_rfl⟩ (λd b w Zs fJ ar fv I1 dp eG=>?_) (λb fJ dp=>?_)
    .obtain⟨bX,nX⟩:=b;obtain⟨t1,kH,rW⟩:=dp;simp only at t1 kH rW eG ⊢;obtain⟨rfl,rfl⟩:d=[]/\w=y:=by
      cases d with
      |nil=>simp at ar;exact⟨rfl,ar.1.symm⟩
      |cons a l=>simp at ar
     have gO:(w.e7.map eX.row).length=w.e7.length:=bW;have gv:=ap.cf.dh;have aV:=fv;have ad:ib [w.cells] 0=w.cells:=rfl
     (conv=>whnf)
     repeat((first|refine .nice ⟨by decide,by show 1<9223372036854775808;decide⟩ ?_|refine .yes rfl ?_|refine⟨aV,⟨_,ad,?_⟩⟩|refine bn ?_);(conv=>whnf))
     refine gG eX.row w.e7 17 (λ_ (_:List bM×Nat)=>[]) (λ_ b=>[(5,.box 109 20 (.bE [.J (.int 3 ij),.J (.bool qv),.J (.bool dE),.J (.str ([102]++[kz])),.bT,.bT,.J (.str []),.bT,.J (.bool true),.J (.int 3 0),.J (.str []),.J (.str []),.J (.int 3 0),.bT,.bT,.bT,.bT,.J (.str []),.bT,.J (.int 3 0)])),(6,.box 104 2 (.bE [.J (.str [84]),.bQ 900])),(8,.box 34 9 (.cc w.cells)),(900,.arr 9 1 (b.1.map cu) true),(1000,iP w),(1001,dH g ab b.2)]) (λd b=>b.1.length<=1/\(∀s∈b.1,s.length<=300)/\b.2<=ab.length) ⟨(bX,nX),⟨t1,kH,rW⟩,by kernel_rfl⟩ (λd4 fh dZ lS xl CR yE tG oj qo=>?_) (λfh xl oj=>?_)
     .obtain⟨xu,a9⟩:=fh;obtain⟨tv,vI,AH⟩:=oj;simp only at tv vI AH qo ⊢;have ar9:d4.length<w.e7.length:=Y;have EG:=ap.cf.dY dZ (by simp [CR]);have arA:=EG.aR;have bq:(xu.map cu).length=xu.length:=bW;have aV:=yE;have ad:=tG;unfold eX.row at ad
      (conv=>whnf)
      repeat((first|refine cC (λ_=>?_) (λh=>absurd rfl h)|refine .yes (cZ.2 aV) ?_|refine⟨aV,⟨_,ad,?_⟩⟩|refine b9 ?_);(conv=>whnf))
      (conv=>whnf)
      repeat' ((first|refine bn ?_|((with_reducible first|apply eT|apply iN|apply fK|apply cC|apply f4|apply kC|apply kB|apply eD)<;>intros))<;>(conv=>whnf))
      all_goals first
      |refine aK (fR Q bi a9 2 AH ag ag) ?_
      |exact qo (xu,a9) _ _ ⟨tv,vI,AH⟩ (by kernel_rfl)
      all_goals
       rintro v A ⟨⟨aq0,rfl,arK⟩,qf,Ij,rfl⟩
       (conv=>whnf)
       repeat refine bn ?_;(conv=>whnf)
       refine fK (λax=>?_) (λax=>?_)
       ·(conv=>whnf)
        repeat(refine b9 ?_;conv=>whnf)
        exact qo (xu++[w.aR++[46]++dZ.aR],qf) _ _ ⟨by simp only[List.length_append,List.length_singleton];omega,p8 vI pu,Ij⟩ (by rw[List.map_append];kernel_rfl)
       ·(conv=>whnf)
        repeat refine bn ?_;(conv=>whnf)
        exact qo (xu,qf) _ _ ⟨tv,vI,Ij⟩ (by kernel_rfl)
     .obtain⟨xu,a9⟩:=fh;obtain⟨tv,vI,AH⟩:=oj;simp only at tv vI AH ⊢
      (conv=>whnf)
      repeat(first|refine .nice ag ?_|refine .no (lZ _) ?_|refine bn ?_);(conv=>whnf)
      exact eG (xu,a9) _ _ ⟨tv,vI,AH⟩ (by kernel_rfl)
    .obtain⟨bX,nX⟩:=b;obtain⟨t1,kH,rW⟩:=dp;simp only at t1 kH rW ⊢
     (conv=>whnf)
     repeat((first|refine .nice ⟨by show 1<9223372036854775808;decide,by show 1<9223372036854775808;decide⟩ ?_|refine .no rfl ?_|refine b9 ?_);(conv=>whnf))
     have y4:∀x∈([⟨[84],19,bX⟩]:List cX),mY x:=λx h=>by rw[List.mem_singleton.1 h];exact⟨by show 1<=100;decide,(ag:(46:UInt8)∉[84]),(ag:([84]:bM)≠[65,114,114,97,121]),by show bX.length<=10;omega,kH,.inr (ag:19 / 2=9)⟩
     have xX:gV 104 209 ([⟨[84],19,bX⟩]:List cX):=.inr ag;have EX:([⟨[84],19,bX⟩]:List cX).length<=1:=by show 1<=1;decide
     refine aK (fR Q bi nX 4 rW ag ag) ?_;rintro v A ⟨⟨r,rfl,ad⟩,a9,iQ,rfl⟩;refine b8 ?_;refine yQ (α:=Nat×List cD×Nat) (λb=>[(7,.J (.int 3 b.1))]) (λb=>[(5,.box 109 20 (.bE [.J (.int 3 ij),.J (.bool qv),.J (.bool dE),.J (.str ([102]++[kz])),.J (.aQ 209 [[.str [84],.aQ 19 (bX.map cu)]]),.bQ 901,.J (.str []),.bT,.J (.bool true),.J (.int 3 0),.J (.str []),.J (.str []),.J (.int 3 0),.bT,.bT,.bT,.bT,.J (.str []),.bT,.J (.int 3 0)])),(901,.arr 106 15 (b.2.1.map cD.row) true),(1000,iP y),(1001,dH g ab b.2.2)]) (λb=>b.1) (λb=>b.2.1.length+b.1<=3/\(∀t∈b.2.1,rl t)/\b.2.2<=ab.length) ⟨(r,[],a9),⟨by show 0+r<=3;omega,(λ_ h=>by cases h),iQ⟩,by subst qE FR xd;kernel_rfl⟩ (λfu AT nc qr=>?_);obtain⟨M,iE,qf⟩:=fu;obtain⟨df,cH,dh⟩:=nc;simp only at df cH dh qr ⊢;have aS:(iE.map cD.row).length=iE.length:=bW;refine b8 ?_;refine eT (λbb=>?_) (λbb=>?_)
     .refine b8 ?_;refine aK (yJ Q [120] (iE.map cD.row).length ag Y) ?_;rintro v A ⟨rfl,rF,rfl,y3,T5⟩;refine b8 ?_;refine aK (De Q bi y ap.cf 1 [] ag qv 209 [⟨[84],19,bX⟩] Y y4 _ dh) ?_;rintro v A ⟨⟨o4,zb,rfl⟩,t,rfl,al⟩;refine b8 ?_;exact qr (M - 1,iE++[⟨[120]++[rF],t,false,aj.nil⟩],o4) _ _ (by show M - 1<M;omega) ⟨by simp only[List.length_append,List.length_singleton];omega,p8 cH ⟨by show 1+1<=100;decide,al.mono ag,q7.mono ag⟩,zb⟩ (by rw[List.map_append];kernel_rfl)
     .refine b8 ?_;refine aK (De Q bi y ap.cf 1 [] ag qv 209 [⟨[84],19,bX⟩] Y y4 _ dh) ?_;rintro v A ⟨⟨o4,zb,rfl⟩,t,rfl,al⟩;have me:(y.funcs.map dI.row).length=y.funcs.length:=bW;have g1:mV ⟨ij,qv,dE,[102]++[kz],209,[⟨[84],19,bX⟩],213,iE,t,true,aj.nil⟩:=⟨rb,by show 1+1<=100;decide,EX,y4,xX,by show iE.length<=5;omega,cH,.inr (ag:213 / 2=106),al.mono ag,q7.mono ag⟩;have v3:dw [109] (dI.row ⟨ij,qv,dE,[102]++[kz],209,[⟨[84],19,bX⟩],213,iE,t,true,aj.nil⟩)=false:=g1.cm ag;refine b8 ?_;refine ys (ap.l5.A λx=>rfl) ag ag (by simp only[List.length_cons,List.length_nil];omega) (λb1=>?_) (λb1=>?_);case' refine_1=>refine⟨tZ (ap.cf.iY ag) (mG v3),?_⟩;show jt [109] _ _ _ _;refine mP ⟨mG v3,trivial⟩ ?_;have cw:=bi.cm it (X:=[109]) rfl;have fh:=ap.cf.kq (X:=[109]);have hC:=ap.cf.cz (X:=[109]) ag;have j9:=ap.cf.vm (X:=[109]) ag;have nL:=ap.cf.jZ (X:=[109]) ag;have IK:=ap.cf.xS (X:=[109]) ag;have gj:cA [109] (.aQ (2*106+true.toNat) (iE.map cD.row))=false:=j6 (.inr rfl) rfl λf aI=>(cH f aI).cm ag;have hU:cA [109] (.aQ 209 (([⟨[84],19,bX⟩]:List cX).map cX.row))=false:=ux xX y4 ag;have iw:cA [109] (.aQ t.g (t.l.map ai.row))=false:=al.cm ag;have jm:cA [109] (.agg t.cells)=false:=ER (Dw.cm ag al);simp(disch:=first|assumption|with_unfolding_all rfl) only[List.map_cons,List.map_nil,dJ,lA,mh,li,k7,mu,lg,la,lR,nC,lD,oZ,iD,mX,s8 (ap.l5.full b1)]
      all_goals
       refine b8 ?_
       exact bC (i+1,_,o4) _ _ (by show n - (i+1)<n - i;omega) ⟨aH,ap.fn g1 Y,lG.fn,by rw[List.length_append];show y.funcs.length+1<=x.funcs.length+(i+1);omega,zb⟩ (by simp only[iP,cV.cells,List.map_append];first|(rw[b1];kernel_rfl)|kernel_rfl)
   case' false=>
    (conv=>whnf)
    repeat(first|refine .no rfl ?_|refine bn ?_);(conv=>whnf)
    have y4:∀x∈([]:List cX),mY x:=λ_ h=>by cases h
    have xX:gV 104 1 ([]:List cX):=.inl rfl;have EX:([]:List cX).length<=1:=ag;refine aK (fR Q bi en 4 s7 ag ag) ?_;rintro v A ⟨⟨r,rfl,ad⟩,a9,iQ,rfl⟩;refine b8 ?_;refine yQ (α:=Nat×List cD×Nat) (λb=>[(7,.J (.int 3 b.1))]) (λb=>[(5,.box 109 20 (.bE [.J (.int 3 ij),.J (.bool qv),.J (.bool dE),.J (.str ([102]++[kz])),.bT,.bQ 901,.J (.str []),.bT,.J (.bool true),.J (.int 3 0),.J (.str []),.J (.str []),.J (.int 3 0),.bT,.bT,.bT,.bT,.J (.str []),.bT,.J (.int 3 0)])),(901,.arr 106 15 (b.2.1.map cD.row) true),(1000,iP y),(1001,dH g ab b.2.2)]) (λb=>b.1) (λb=>b.2.1.length+b.1<=3/\(∀t∈b.2.1,rl t)/\b.2.2<=ab.length) ⟨(r,[],a9),⟨by show 0+r<=3;omega,(λ_ h=>by cases h),iQ⟩,by subst qE FR xd;kernel_rfl⟩ (λfu AT nc qr=>?_);obtain⟨M,iE,qf⟩:=fu;obtain⟨df,cH,dh⟩:=nc;simp only at df cH dh qr ⊢;have aS:(iE.map cD.row).length=iE.length:=bW;refine b8 ?_;refine eT (λbb=>?_) (λbb=>?_)
    .refine b8 ?_;refine aK (yJ Q [120] (iE.map cD.row).length ag Y) ?_;rintro v A ⟨rfl,rF,rfl,y3,T5⟩;refine b8 ?_;refine aK (De Q bi y ap.cf 1 [] ag qv 1 [] Y y4 _ dh) ?_;rintro v A ⟨⟨o4,zb,rfl⟩,t,rfl,al⟩;refine b8 ?_;exact qr (M - 1,iE++[⟨[120]++[rF],t,false,aj.nil⟩],o4) _ _ (by show M - 1<M;omega) ⟨by simp only[List.length_append,List.length_singleton];omega,p8 cH ⟨by show 1+1<=100;decide,al.mono ag,q7.mono ag⟩,zb⟩ (by rw[List.map_append];kernel_rfl)
    .refine b8 ?_;refine aK (De Q bi y ap.cf 1 [] ag qv 1 [] Y y4 _ dh) ?_;rintro v A ⟨⟨o4,zb,rfl⟩,t,rfl,al⟩;have me:(y.funcs.map dI.row).length=y.funcs.length:=bW;have g1:mV ⟨ij,qv,dE,[102]++[kz],1,[],213,iE,t,true,aj.nil⟩:=⟨rb,by show 1+1<=100;decide,EX,y4,xX,by show iE.length<=5;omega,cH,.inr (ag:213 / 2=106),al.mono ag,q7.mono ag⟩;have v3:dw [109] (dI.row ⟨ij,qv,dE,[102]++[kz],1,[],213,iE,t,true,aj.nil⟩)=false:=g1.cm ag;refine b8 ?_;refine ys (ap.l5.A λx=>rfl) ag ag (by simp only[List.length_cons,List.length_nil];omega) (λb1=>?_) (λb1=>?_);case' refine_1=>refine⟨tZ (ap.cf.iY ag) (mG v3),?_⟩;show jt [109] _ _ _ _;refine mP ⟨mG v3,trivial⟩ ?_;have cw:=bi.cm it (X:=[109]) rfl;have fh:=ap.cf.kq (X:=[109]);have hC:=ap.cf.cz (X:=[109]) ag;have j9:=ap.cf.vm (X:=[109]) ag;have nL:=ap.cf.jZ (X:=[109]) ag;have IK:=ap.cf.xS (X:=[109]) ag;have gj:cA [109] (.aQ (2*106+true.toNat) (iE.map cD.row))=false:=j6 (.inr rfl) rfl λf aI=>(cH f aI).cm ag;have hU:cA [109] (.aQ 1 (([]:List cX).map cX.row))=false:=ux xX y4 ag;have iw:cA [109] (.aQ t.g (t.l.map ai.row))=false:=al.cm ag;have jm:cA [109] (.agg t.cells)=false:=ER (Dw.cm ag al);simp(disch:=first|assumption|with_unfolding_all rfl) only[List.map_cons,List.map_nil,dJ,lA,mh,li,k7,mu,lg,la,lR,nC,lD,oZ,iD,mX,s8 (ap.l5.full b1)]
     all_goals
      refine b8 ?_
      exact bC (i+1,_,o4) _ _ (by show n - (i+1)<n - i;omega) ⟨aH,ap.fn g1 Y,lG.fn,by rw[List.length_append];show y.funcs.length+1<=x.funcs.length+(i+1);omega,zb⟩ (by simp only[iP,cV.cells,List.map_append];first|(rw[b1];kernel_rfl)|kernel_rfl)
 .refine b8 ?_;refine fK (λKd=>?_) (λKd=>?_)
  .refine b8 ?_;refine aK (De Q bi y ap.cf 1 [] ag false 1 [] ag (λ_ h=>by cases h) bN fr) ?_;rintro v A ⟨⟨o4,zb,rfl⟩,t,rfl,al⟩;have me:(y.funcs.map dI.row).length=y.funcs.length:=bW;have g1:mV ⟨0,false,false,[109,97,105,110],1,[],1,[],t,true,aj.nil⟩:=⟨Nat.zero_le _,by show 4<=100;decide,Nat.zero_le _,(λ_ h=>by cases h),.inl rfl,Nat.zero_le _,(λ_ h=>by cases h),.inl rfl,al.mono ag,q7.mono ag⟩;have v3:dw [109] (dI.row ⟨0,false,false,[109,97,105,110],1,[],1,[],t,true,aj.nil⟩)=false:=g1.cm ag;refine b8 ?_;refine ys (ap.l5.A λx=>rfl) ag ag (by simp only[List.length_cons,List.length_nil];omega) (λb1=>?_) (λb1=>?_);case' refine_1=>refine⟨tZ (ap.cf.iY ag) (mG v3),?_⟩;show jt [109] _ _ _ _;refine mP ⟨mG v3,trivial⟩ ?_;have cw:=bi.cm it (X:=[109]) rfl;have fh:=ap.cf.kq (X:=[109]);have hC:=ap.cf.cz (X:=[109]) ag;have j9:=ap.cf.vm (X:=[109]) ag;have nL:=ap.cf.jZ (X:=[109]) ag;have IK:=ap.cf.xS (X:=[109]) ag;have iw:cA [109] (.aQ t.g (t.l.map ai.row))=false:=al.cm ag;have jm:cA [109] (.agg t.cells)=false:=ER (Dw.cm ag al);simp(disch:=first|assumption|with_unfolding_all rfl) only[List.map_cons,List.map_nil,dJ,lA,mh,li,k7,mu,lg,la,lR,nC,lD,oZ,iD,mX,s8 (ap.l5.full b1)]
   all_goals
    refine b8 ?_
    refine⟨_,o4,?_,zb,ap.fn g1 Y,lG.fn,by rw[List.length_append];show y.funcs.length+1<=x.funcs.length+n+1;omega⟩
    simp only[iP,cV.cells,List.map_append]
    first|(rw[b1];kernel_rfl)|kernel_rfl
  .refine b8 ?_;exact⟨y,bN,rfl,fr,ap,lG,Y⟩
end
def vw(r:di)(aT:Nat)(c:di):di:=r.take aT++(c++r.drop (aT+c.length))
section
variable(el aT:Nat)(c:di)
mutual
def gH:b2->b2->Prop
 |.aQ g ab,a6=>∃f7,a6=.aQ g f7/\ld (g / 2) ab f7
 |.gc g aF D,a6=>∃dc,gw aF dc/\(a6=.gc g dc D\/(g / 4=el/\a6=.gc g (vw dc aT c) D))
 |.fn f bY bJ,a6=>∃ix z0,a6=.fn f ix z0/\gw bY ix/\gw bJ z0
 |.agg l,a6=>∃aM,a6=.agg aM/\gw l aM
 |.eJ l,a6=>∃aM,a6=.eJ aM/\gw l aM
 |t,a6=>a6=t
def gw:di->di->Prop
 |[],l=>l=[]
 |t::bX,l=>∃a6 aM,l=a6::aM/\gH t a6/\gw bX aM
def ld(e:Nat):gF->gF->Prop
 |[],l=>l=[]
 |r::am,l=>∃dc aM,gw r dc/\(l=dc::aM\/(e=el/\l=vw dc aT c::aM))/\ld e am aM
end
def GL:a1->a1->Prop
 |.J t,ci=>∃a6,ci=.J a6/\gH el aT c t a6
 |e,ci=>ci=e
def qc:bG->bG->Prop
 |[],l=>l=[]
 |e::es,l=>∃ci aM,l=ci::aM/\GL el aT c e ci/\qc es aM
def GH:be->be->Prop
 |(s,.box e z (.bE r))::l,cH=>∃gC aM,cH=(s,.box e z (.bE gC))::aM/\qc el aT c r gC/\GH l aM
 |(s,.box e z (.cc r))::l,cH=>∃gC aM,cH=(s,.box e z (.cc gC))::aM/\gw el aT c r gC/\GH l aM
 |(s,.arr e z r u)::l,cH=>∃aM,cH=(s,.arr e z r u)::aM/\GH l aM
 |[],cH=>cH=[]
end
def boxes:be->Bool
 |(_,.box _ _ _)::l=>boxes l
 |(_,.arr _ _ _ _)::_=>false
 |[]=>true
section
variable{el aT:Nat}{c:di}
def gw.len:∀{l aM},gw el aT c l aM->aM.length=l.length
 |[],_,h=>by simp only[gw] at h;subst h;rfl
 |_::_,_,h=>by simp only[gw] at h;obtain⟨a6,aM,rfl,_,h⟩:=h;simp [gw.len h]
mutual
def gH.refl:∀t:b2,gH el aT c t t
 |.undef|.bool _|.int _ _|.str _|.nil _|.op _ _=>by simp only[gH]
 |.aQ g ab=>by simp only[gH];exact⟨ab,rfl,ld.refl _ ab⟩
 |.gc g aF D=>by simp only[gH];exact⟨aF,gw.refl aF,.inl rfl⟩
 |.fn _ bY bJ=>by simp only[gH];exact⟨bY,bJ,rfl,gw.refl bY,gw.refl bJ⟩
 |.agg l=>by simp only[gH];exact⟨l,rfl,gw.refl l⟩
 |.eJ l=>by simp only[gH];exact⟨l,rfl,gw.refl l⟩
def gw.refl:∀l:di,gw el aT c l l
 |[]=>by simp only[gw]
 |t::l=>by simp only[gw];exact⟨t,l,rfl,gH.refl t,gw.refl l⟩
def ld.refl(e:Nat):∀l:gF,ld el aT c e l l
 |[]=>by simp only[ld]
 |r::l=>by simp only[ld];exact⟨r,l,gw.refl r,.inl rfl,ld.refl e l⟩
end
mutual
def gH.no:∀{t a6:b2},cA [el] t=false->gH el aT c t a6->a6=t
 |.undef,_,_,h|.bool _,_,_,h|.int _ _,_,_,h|.str _,_,_,h|.nil _,_,_,h|.op _ _,_,_,h=>by simpa only[gH] using h
 |.aQ g ab,a6,I,h=>by
  simp only[gH] at h;obtain⟨f7,rfl,h⟩:=h;cases ab with
  |nil=>simp only[ld] at h;rw[h]
  |cons r l=>simp only[cA] at I;have⟨dS,fw⟩:=tk I;rw[ld.no (λe=>by rw[e] at dS;simp only[cr,fY rfl] at dS;cases dS) fw h]
 |.gc g aF D,a6,I,h=>by
  simp only[cA] at I;have⟨dS,fw⟩:=tk I;simp only[gH] at h;have⟨dc,B,F⟩:=h;rw[gw.no fw B] at F;rcases F with F|⟨F,_⟩
  .exact F
  .rw[F] at dS;simp only[cr,fY rfl] at dS;cases dS
 |.fn _ bY bJ,a6,I,h=>by simp only[cA] at I;have⟨dS,fw⟩:=tk I;simp only[gH] at h;obtain⟨ix,z0,rfl,B,F⟩:=h;rw[gw.no dS B,gw.no fw F]
 |.agg l,a6,I,h=>by simp only[cA] at I;simp only[gH] at h;obtain⟨aM,rfl,h⟩:=h;rw[gw.no I h]
 |.eJ l,a6,I,h=>by simp only[cA] at I;simp only[gH] at h;obtain⟨aM,rfl,h⟩:=h;rw[gw.no I h]
def gw.no:∀{l aM:di},dw [el] l=false->gw el aT c l aM->aM=l
 |[],_,_,h=>by simpa only[gw] using h
 |t::l,_,I,h=>by simp only[dw] at I;have⟨dS,fw⟩:=tk I;simp only[gw] at h;obtain⟨a6,aM,rfl,B,F⟩:=h;rw[gH.no dS B,gw.no fw F]
def ld.no{e}(ar:e≠el):∀{l aM:gF},hy [el] l=false->ld el aT c e l aM->aM=l
 |[],_,_,h=>by simpa only[ld] using h
 |r::l,_,I,h=>by
  simp only[hy] at I;have⟨dS,fw⟩:=tk I;simp only[ld] at h;have⟨dc,aM,B,F,ah⟩:=h;rw[gw.no dS B] at F;rcases F with rfl|⟨F,_⟩
  .rw[ld.no ar fw ah]
  .exact absurd F ar
end
def aaD{r}(h:aT+c.length<=r.length):(vw r aT c).length=r.length:=by unfold vw;simp only[gP,jC,lu];omega
variable{U bh:dO}{a fG n z:Nat}{am:Ev.Rows}{u dK:Bool}{jf:cv}
structure s9(el aT:Nat)(c:di)(U bh:dO)(a fG n z:Nat)(am:Ev.Rows)(u dK:Bool)(jf:cv):Prop where
 Xn:U a=some (.cells am n z el u dK)
 is:bh=λb=>if b=a then some (.cells (am.mT fG ((am.row fG).take aT++(jf++(am.row fG).drop (aT+jf.length)))) n z el u dK) else U b
 lt:fG<n
 cap:n<=am.cap
 len:aT+c.length<=z
 dZ:cJ bh c jf
def s9.ne{b}(h:s9 el aT c U bh a fG n z am u dK jf)(av:b≠a):bh b=U b:=by rw[h.is];simp only[bA av]
def s9.eq(h:s9 el aT c U bh a fG n z am u dK jf):bh a=some (.cells (am.mT fG ((am.row fG).take aT++(jf++(am.row fG).drop (aT+jf.length)))) n z el u dK):=by rw[h.is];exact b3 rfl
def s9.row{M dc}(h:s9 el aT c U bh a fG n z am u dK jf)(bb:M<n)(ad:cJ bh dc (am.row M)):cJ bh dc ((am.mT fG ((am.row fG).take aT++(jf++(am.row fG).drop (aT+jf.length)))).row M)\/cJ bh (vw dc aT c) ((am.mT fG ((am.row fG).take aT++(jf++(am.row fG).drop (aT+jf.length)))).row M):=by
 have:=h.lt;have:=h.cap;rw[Rows.F5 _ _ _ _ Y Y];by_cases e:M=fG
 .rw[b3 e];subst e;refine .inr ((ad.take aT).append (h.dZ.append ?_));rw[h.dZ.length];exact ad.drop _
 .rw[bA e];exact .inl ad
mutual
def bp.wr(h:s9 el aT c U bh a fG n z am u dK jf):∀(t:b2)(v:bl),bp U t v->∃a6,gH el aT c t a6/\bp bh a6 v
 |.undef,v,g=>⟨.undef,by simp only[gH],by simp only[bp]⟩
 |.bool b,v,g=>⟨.bool b,by simp only[gH],by simp only[bp] at g ⊢;exact g⟩
 |.int k b,v,g=>⟨.int k b,by simp only[gH],by simp only[bp] at g ⊢;exact g⟩
 |.str b,v,g=>⟨.str b,by simp only[gH],by simp only[bp] at g ⊢;exact g⟩
 |.nil b,v,g=>⟨.nil b,by simp only[gH],by simp only[bp] at g ⊢;exact g⟩
 |.op b fo,v,g=>⟨.op b fo,by simp only[gH],by simp only[bp] at g ⊢;exact g⟩
 |.aQ g ab,v,gZ=>by
  simp only[bp] at gZ;rcases gZ with⟨rfl,Bf⟩|⟨b,i,hY,tv,lF,p9,dl,RT,fa,SQ,g1,g2,g3,g4,g6,g5,gA,j4⟩
  .exact⟨.aQ g [],by simp only[gH];exact⟨[],rfl,by simp only[ld]⟩,by simp only[bp];exact .inl ⟨trivial,Bf⟩⟩
  .by_cases e:a=b
   .subst e;rw[h.Xn] at g2;cases g2;have⟨f7,dg,ej,gv⟩:=R8 h z am (am.mT fG ((am.row fG).take aT++(jf++(am.row fG).drop (aT+jf.length)))) (g / 2) i ab (λM dc dD dQ K ad=>by
     rcases h.row (Y:M<n) ad with q|q
     .exact .inl q
     .exact .inr ⟨gA.symm,by rw[aaD (by rw[K];exact h.len),K],q⟩) g5
    refine⟨.aQ g f7,by simp only[gH];exact⟨f7,rfl,dg⟩,?_⟩;simp only[bp];refine .inr ⟨a,i,hY,tv,z,_,n,el,u,dK,by rw[ej];exact g1,h.eq,by rw[ej];exact g3,by rw[Rows.wf];exact g4,by rw[ej];exact g6,gv,gA,λq=>?_⟩;have⟨bq,aS⟩:=j4 q;refine⟨λe=>bq ?_,by rw[ej];exact aS⟩;rw[e] at ej;exact List.eq_nil_of_length_eq_zero ej.symm
   .have⟨f7,dg,ej,gv⟩:=R8 h lF p9 p9 (g / 2) i ab (λM dc dD dQ K ad=>.inl ad) g5;refine⟨.aQ g f7,by simp only[gH];exact⟨f7,rfl,dg⟩,?_⟩;simp only[bp];refine .inr ⟨b,i,hY,tv,lF,p9,dl,RT,fa,SQ,by rw[ej];exact g1,by rw[h.ne (λq=>e q.symm)];exact g2,by rw[ej];exact g3,g4,by rw[ej];exact g6,gv,gA,λq=>?_⟩;have⟨bq,aS⟩:=j4 q;refine⟨λe=>bq ?_,by rw[ej];exact aS⟩;rw[e] at ej;exact List.eq_nil_of_length_eq_zero ej.symm
 |.gc g aF D,v,gZ=>by
  simp only[bp] at gZ;have⟨b,r,lF,p9,dl,RT,tv,SQ,g1,g2,g3,g4,g5,g6,gA,j4⟩:=gZ;have⟨dc,dg,ej⟩:=cJ.wr h aF _ g6;have K:=dg.len;by_cases e:a=b
  .subst e;rw[h.Xn] at g2;cases g2;rcases h.row g3 ej with q|q
   .refine⟨.gc g dc D,by simp only[gH];exact⟨dc,dg,.inl rfl⟩,?_⟩;simp only[bp];exact⟨a,r,z,_,n,el,u,dK,g1,h.eq,g3,by rw[Rows.wf];exact g4,by rw[K];exact g5,q,gA,j4⟩
   .refine⟨.gc g (vw dc aT c) D,by simp only[gH];exact⟨dc,dg,.inr ⟨gA.symm,rfl⟩⟩,?_⟩;simp only[bp];exact⟨a,r,z,_,n,el,u,dK,g1,h.eq,g3,by rw[Rows.wf];exact g4,by rw[aaD (by rw[K,g5];exact h.len),K];exact g5,q,gA,j4⟩
  .refine⟨.gc g dc D,by simp only[gH];exact⟨dc,dg,.inl rfl⟩,?_⟩;simp only[bp];exact⟨b,r,lF,p9,dl,RT,tv,SQ,g1,by rw[h.ne (λq=>e q.symm)];exact g2,g3,g4,by rw[K];exact g5,ej,gA,j4⟩
 |.fn f bY bJ,v,g=>by simp only[bp] at g;have⟨da,cC,g1,g2,g3⟩:=g;have⟨ix,dg,ej⟩:=cJ.wr h bY _ g2;have⟨z0,gv,kQ⟩:=cJ.wr h bJ _ g3;exact⟨.fn f ix z0,by simp only[gH];exact⟨ix,z0,rfl,dg,gv⟩,by simp only[bp];exact⟨da,cC,g1,ej,kQ⟩⟩
 |.agg l,v,g=>by simp only[bp] at g;have⟨aM,g1,g2⟩:=g;have⟨ix,dg,ej⟩:=cJ.wr h l _ g2;exact⟨.agg ix,by simp only[gH];exact⟨ix,rfl,dg⟩,by simp only[bp];exact⟨aM,by rw[dg.len];exact g1,ej⟩⟩
 |.eJ l,v,g=>by simp only[bp] at g;have⟨aM,g1,g2⟩:=g;have⟨ix,dg,ej⟩:=cJ.wr h l _ g2;exact⟨.eJ ix,by simp only[gH];exact⟨ix,rfl,dg⟩,by simp only[bp];exact⟨aM,g1,ej⟩⟩
def cJ.wr(h:s9 el aT c U bh a fG n z am u dK jf):∀(t:di)(v:cv),cJ U t v->∃a6,gw el aT c t a6/\cJ bh a6 v
 |[],_,g=>⟨[],by simp only[gw],by simpa only[cJ] using g⟩
 |t::bX,_,g=>by simp only[cJ] at g;obtain⟨v,aM,rfl,g2,g3⟩:=g;have⟨a6,dg,ej⟩:=bp.wr h t _ g2;have⟨mI,gv,kQ⟩:=cJ.wr h bX _ g3;exact⟨a6::mI,by simp only[gw];exact⟨a6,mI,rfl,dg,gv⟩,.cons ej kQ⟩
def R8(h:s9 el aT c U bh a fG n z am u dK jf)(lF:Nat)(p9 lm:Ev.Rows)(e:Nat):∀(i:Nat)(ab:gF),(∀M dc,i<=M->M<i+ab.length->dc.length=lF->cJ bh dc (p9.row M)->cJ bh dc (lm.row M)\/(e=el/\(vw dc aT c).length=lF/\cJ bh (vw dc aT c) (lm.row M)))->fI U lF p9 i ab->∃f7,ld el aT c e ab f7/\f7.length=ab.length/\fI bh lF lm i f7
 |i,[],_,_=>⟨[],by simp only[ld],rfl,by simp only[fI]⟩
 |i,r::ab,bf,g=>by
  simp only[fI] at g;have⟨g1,g2,g3⟩:=g;have⟨dc,dg,ej⟩:=cJ.wr h r _ g2;have⟨f7,gv,kQ,n4⟩:=R8 h lF p9 lm e (i+1) ab (λM dc dD dQ K ad=>bf M dc Y (by simp;omega) K ad) g3;have K:dc.length=lF:=dg.len.trans g1;rcases bf i dc (ez _) (by simp) K ej with q|⟨bq,aS,bU⟩
  .exact⟨dc::f7,by simp only[ld];exact⟨dc,f7,dg,.inl rfl,gv⟩,by simp [kQ],by simp only[fI];exact⟨K,q,n4⟩⟩
  .exact⟨vw dc aT c::f7,by simp only[ld];exact⟨dc,f7,dg,.inr ⟨bq,rfl⟩,gv⟩,by simp [kQ],by simp only[fI];exact⟨aS,bU,n4⟩⟩
end
end
section
variable{el aT:Nat}{c:di}{U bh:dO}{a fG n z:Nat}{am:Ev.Rows}{u dK:Bool}{jf:cv}{Z:Nat->Nat}{A:be}
def cN.wr(h:s9 el aT c U bh a fG n z am u dK jf):∀(e)(v),cN U Z A e v->∃ci,GL el aT c e ci/\cN bh Z A ci v
 |.J t,v,g=>by have⟨a6,dg,ej⟩:=bp.wr h t v g;exact⟨.J a6,⟨a6,rfl,dg⟩,ej⟩
 |.bT,v,g=>⟨.bT,rfl,g⟩
 |.iy,v,g=>⟨.iy,rfl,g⟩
 |.bH s D,v,g=>⟨.bH s D,rfl,g⟩
 |.bQ s,v,g=>⟨.bQ s,rfl,g⟩
 |.fF s r D,v,g=>⟨.fF s r D,rfl,g⟩
 |.agg _,_,g=>g.elim
 |.fn _ _ _,_,g=>g.elim
def fl.wr(h:s9 el aT c U bh a fG n z am u dK jf):∀(l)(v),fl U Z A l v->∃aM,qc el aT c l aM/\fl bh Z A aM v
 |[],v,g=>⟨[],rfl,g⟩
 |e::l,_,g=>by obtain⟨v,kj,rfl,g1,g2⟩:=g;have⟨ci,dg,ej⟩:=cN.wr h e v g1;have⟨aM,gv,kQ⟩:=fl.wr h l kj g2;exact⟨ci::aM,⟨ci,aM,rfl,dg,gv⟩,v,kj,rfl,ej,kQ⟩
def GL.refl(e):GL el aT c e e:=by
 cases e with
 |J t=>exact⟨t,rfl,gH.refl t⟩
 |_=>rfl
def qc.refl:∀l,qc el aT c l l
 |[]=>rfl
 |e::l=>⟨e,l,rfl,GL.refl e,qc.refl l⟩
def qc.len:∀{l aM},qc el aT c l aM->aM.length=l.length
 |[],_,h=>by cases h;rfl
 |_::_,_,h=>by obtain⟨ci,aM,rfl,_,h⟩:=h;simp [qc.len h]
def Zv(h:s9 el aT c U bh a fG n z am u dK jf)(yz:Nat->cv):∀dP,boxes dP->∃jX,GH el aT c dP jX/\∀s bs,look jX s=some bs->∃ci cI aF fB,look dP s=some (.box ci cI aF)/\bs=.box ci cI fB/\(n6 U Z A cI aF (yz s)->n6 bh Z A cI fB (yz s))
 |[],_=>⟨[],rfl,λs bs h=>by cases h⟩
 |(t,.arr _ _ _ _)::l,av=>by cases av
 |(t,.box aZ lF aF)::l,av=>by
  have⟨jX,dg,ej⟩:=Zv h yz l av;have iO:∀fB,(n6 U Z A lF aF (yz t)->n6 bh Z A lF fB (yz t))->∀s bs,look ((t,eS.box aZ lF fB)::jX) s=some bs->∃ci cI i6 aaS,look ((t,eS.box aZ lF aF)::l) s=some (.box ci cI i6)/\bs=.box ci cI aaS/\(n6 U Z A cI i6 (yz s)->n6 bh Z A cI aaS (yz s)):=by
   intro fB ad s bs K;simp only[look] at K ⊢;cases q:Nat.beq t s with
   |true=>rw[q] at K;cases K;have:=cF.1 q;subst this;exact⟨aZ,lF,aF,fB,rfl,rfl,ad⟩
   |false=>rw[q] at K;exact ej s bs K
  cases aF with
  |cc r=>
   by_cases q:cJ U r (yz t)
   .have⟨gC,gv,kQ⟩:=cJ.wr h r _ q;exact⟨_,⟨gC,jX,rfl,gv,dg⟩,iO _ λg=>⟨gv.len.trans g.1,kQ⟩⟩
   .exact⟨_,⟨r,jX,rfl,gw.refl r,dg⟩,iO _ λg=>absurd g.2 q⟩
  |bE r=>
   by_cases q:fl U Z A r (yz t)
   .have⟨gC,gv,kQ⟩:=fl.wr h r _ q;exact⟨_,⟨gC,jX,rfl,gv,dg⟩,iO _ λg=>⟨gv.len.trans g.1,kQ⟩⟩
   .exact⟨_,⟨r,jX,rfl,qc.refl r,dg⟩,iO _ λg=>absurd g.2 q⟩
end
variable{n:Nat}
def Ss(h:0<n):ev [n]=[n]:=by cases n with|zero=>omega|succ n=>rfl
def alJ{s D}(h:0<n):f6 [n] s D=false:=by cases D with|arr=>rfl|box=>(cases n with|zero=>omega|succ n=>rfl)
def PC{P m g v c aT dP bX bZ aF}{t}(ak:eV P t=some (m+1))(br:g % 2=1)(MQ:0<g / 4)(aw:(v=.agg c/\c.length=m+1)\/(c=[v]/\m=0/\pJ v))(I:dw [g / 4] c=false)(RL:aT+(m+1)<=aF.length)(dB:m+1≠aF.length)(av:boxes dP)(CI:∀mI jX,gw (g / 4) aT c bX mI->GH (g / 4) aT c dP jX->bZ mI jX):F2 P t (.gc g aF aT) v bX dP bZ:=by
 intro U Z H k8 nY xD aW hp au BI;simp only[bp] at hp;obtain⟨a,r,z,am,n,el,u,dK,rfl,ex,kd,rT,Kn,aab,W9,jO,aju⟩:=hp;have afO:=jO br;subst afO;subst W9;have⟨gN,gj⟩:=aW.gf _ _ ex;have mC:c.length=m+1:=by
  rcases aw with⟨_,h⟩|⟨rfl,rfl,_⟩
  .exact h
  .rfl
 obtain⟨jf,dz,gg⟩:∃jf,(∀k,jR nY (m+1) k=k jf)/\cJ U c jf:=by
  rcases aw with⟨rfl,h⟩|⟨rfl,rfl,h⟩
  .simp only[bp] at au;obtain⟨aM,rfl,g2⟩:=au;exact⟨aM,λk=>by rw[h];exact D0 _ _ _,g2⟩
  .refine⟨[nY],λk=>?_,.cons au .nil⟩;unfold jR;rw[Hu h au];rfl
 have amB:=gg.length;obtain⟨bh,Xm⟩:∃bh:dO,bh=λb=>if b=a then some (.cells (am.mT r ((am.row r).take aT++(jf++(am.row r).drop (aT+jf.length)))) n z (g / 4) u false) else U b:=⟨_,rfl⟩
 have hle:U.iz [g / 4] bh:=λb D ay I=>by
  rw[Xm];by_cases e:b=a
  .rw[e,ex] at ay;cases ay;simp only[l1,cr,fY rfl] at I;cases I
  .simp only[bA e];exact ay
 have W:s9 (g / 4) aT c U bh a r n z am u false jf:=⟨ex,Xm,kd,rT,Y,cJ.iz hle c jf I gg⟩;have pn:(am.row r).length=z:=aab.length.trans Kn;have X6:∀s D,look dP s=some D->D.real=true->Z s≠a:=λs D K ad e=>by have:=(aW.lt s D K ad).2;rw[e,ex] at this;cases this
 have⟨jX,t1,kH⟩:=Zv (Z:=Z) (A:=dP) W (λs=>match H.get (Z s) with|.cells am _ _ _ _ _=>am.row 0|_=>[]) dP av;have⟨mI,eK,s2⟩:=cJ.wr W bX xD BI;have TF:Shape dP jX:=⟨λs ci cI aF h=>by
  have⟨aN,sH,cl,F3,bq,aS,_⟩:=kH s _ h;cases aS;exact⟨_,bq⟩,λs ci cI ab u h=>by
  have⟨aN,sH,cl,F3,bq,aS,_⟩:=kH s _ h;cases aS⟩
 refine⟨mI,jX,H.put a (.cells (am.mT r ((am.row r).take aT++(jf++(am.row r).drop (aT+jf.length)))) n z (g / 4) u false),bh,Z,CI _ _ eK t1,λk=>?_,⟨λb D ay=>?_,λs D K ad=>?_,λs cP D bs K hJ ad fN e=>?_,λs D K=>?_⟩,⟨λb D ay I=>hle b D ay (by rw[<-Ss MQ];exact I),ez _,λb MZ qE FN=>bd.si eN eN λe=>?_,λb D ay=>?_,λs D K ad=>?_⟩,λ_ _ _=>rfl,s2⟩
 .rw[show jf.length=m+1 from amB.trans mC];exact aag ak rfl gN kd rT dz Y pn Y k
 .by_cases e:b=a
  .subst e;rw[W.eq] at ay;cases ay;exact⟨bd.Nl eN,gj⟩
  .rw[W.ne e] at ay;have⟨bq,aS⟩:=aW.gf b D ay;exact⟨by rw[bd.si eN eN e,bq],aS⟩
 .have⟨aN,sH,cl,F3,bq,aS,_⟩:=kH s _ K;have:=aW.lt s _ bq rfl;exact⟨this.1,by rw[W.ne (X6 s _ bq rfl)];exact this.2⟩
 .have⟨aN,sH,cl,F3,bq,aS,_⟩:=kH s _ K;have⟨c9,Vr,hD,aqT,cU,eI,_⟩:=kH cP _ hJ;exact aW.inj s cP _ _ bq cU rfl rfl e
 .obtain⟨aN,sH,cl,F3,bq,rfl,bU⟩:=kH s _ K;have⟨lm,cQ,eL,jU,nR⟩:=aW.obj s _ bq;rw[cQ] at bU;have bU:=bU nR;refine⟨lm,by rw[bd.si eN eN (X6 s _ bq rfl),cQ],eL,jU,?_⟩;cases F3 with
  |cc l=>exact bU
  |bE l=>exact⟨bU.1,TF.qG bU.2⟩
 .have:=FN _ (by rw[e];exact ex);have this:cr (g / 4) (ev [g / 4])=false:=this;rw[Ss MQ] at this;simp only[cr,fY rfl] at this;cases this
 .by_cases e:b=a
  .exact .inr (.inr (.inr ⟨_,by rw[e];exact ex,by show cr (g / 4) (ev [g / 4])=true;rw[Ss MQ];simp only[cr,fY rfl]⟩))
  .rw[W.ne e] at ay;exact .inl ay
 .have⟨aN,sH,cl,F3,bq,aS,_⟩:=kH s _ K;exact .inr ⟨s,_,bq,rfl,rfl,λh=>absurd h (by show ¬f6 [g / 4] s _=true;rw[alJ MQ];exact x4)⟩
end Go.Tx
