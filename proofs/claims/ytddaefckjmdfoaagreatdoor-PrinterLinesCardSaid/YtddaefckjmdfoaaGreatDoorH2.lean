/- Part of the proof of PrinterLines. -/
import Derived.Test.YtddaefckjmdfoaaGreatDoorH1
set_option linter.all false
namespace Go.Tx
open Go Go.Ev
set_option maxRecDepth 100000
set_option maxHeartbeats 8000000
attribute [local irreducible] jJ mb bj lQ kS nj ie fe
section
variable{C:Nat->cG}{ext:Nat->Option e0}{ab:fD}(Q:Env C ext ab)
include Q
variable{g:Nat}
attribute [local irreducible] cA dw hy
abbrev DR(x:cV):bM:=x.aR++[46,83,104,111,119]
abbrev Yj(s:bM):aj:=.mk 8 [43] [] 0 1 [] 1 [] 1 [] 122 [.mk 10 s [115,104,111,119] 0 108 [ai.mk [84] 1 []] 1 [] 1 [] 122 [.mk 3 [120] [] 0 1 [] 1 [] 1 [] 1 [] (.mk [] 1 []) 0] (.mk [] 1 []) 0,.mk 3 [110] [] 0 1 [] 1 [] 1 [] 1 [] (.mk [] 1 []) 0] (.mk [] 1 []) 0
abbrev Y1(s:bM):dI:=⟨0,false,false,[109,97,114,107,79,102],208,[⟨[84],18,[s]⟩],212,[⟨[120],ai.mk [84] 1 [],false,aj.nil⟩,⟨[110],ai.mk [73,110,116] 1 [],false,aj.nil⟩],ai.mk [73,110,116] 1 [],true,Yj s⟩
variable{s:bM}
omit Q in
omit Q in
def agH(h:s.length<=300):GE 10 (Yj s):=by have v:∀n:bM,n.length<=300->GE 1 (.mk 3 n [] 0 1 [] 1 [] 1 [] 1 [] (.mk [] 1 []) 0):=λn aB=>wa ag aB ag;have t:GT 400 (ai.mk [84] 1 []):=GT.S _ ag ag;exact(kl (n:=2) ag ag ag ag jc.nil jT.nil j5.nil (jW.two ag (kl (n:=1) ag h ag ag (jc.one ag t ag) jT.nil j5.nil (jW.one ag (v _ ag))) ((v _ ag).mono ag))).mono ag
omit Q in
omit Q in
def abs(h:s.length<=300):mV (Y1 s):=by
 refine⟨mz _,by show 6<=100;decide,by show 1<=1;decide,λg br=>?_,.inr (ag:208 / 2=104),by show 2<=5;decide,λa aD=>?_,.inr (ag:212 / 2=106),GT.S _ ag ag,agH h⟩
 .rw[iF.1 br];exact⟨by show 1<=100;decide,(ag:(46:UInt8)∉[84]),(ag:([84]:bM)≠[65,114,114,97,121]),by show 1<=10;decide,λt al=>by rw[iF.1 al];exact h,.inr (ag:18 / 2=9)⟩
 .simp only[fS,AC,Dx] at aD;rcases aD with rfl|rfl
  .exact⟨by show 1<=100;decide,GT.S _ ag ag,q7.mono ag⟩
  .exact⟨by show 1<=100;decide,GT.S _ ag ag,q7.mono ag⟩
abbrev SU:fW:=⟨[115,104,111,119],108,[ai.mk [83,101,108,102] 1 []],ai.mk [73,110,116] 1 [],[]⟩
abbrev abW:fW:=⟨[109,97,114,107],108,[ai.mk [83,101,108,102] 1 [],ai.mk [73,110,116] 1 []],ai.mk [73,110,116] 1 [],[109,97,114,107,79,102]⟩
omit Q in
omit Q in
def VQ:G7 SU:=⟨by decide,by show 1<=5;decide,λt al=>by rw[iF.1 al];exact GT.S _ ag ag,GT.S _ ag ag,by decide,.inr (ag:108 / 2=54)⟩
omit Q in
omit Q in
def ahU:G7 abW:=⟨by decide,by show 2<=5;decide,λt al=>by simp only[fS,AC,Dx] at al;rcases al with rfl|rfl<;>exact GT.S _ ag ag,GT.S _ ag ag,ag,.inr (ag:108 / 2=54)⟩
theorem anQ(x)(I:io x)(bi:l6 ab)(it:g / 2=3)(a)(aD:a<=ab.length)(al:x.e7.length<3)(aw:x.ed.length+1+x.ea.length+x.dW.length<=30)(aI:x.funcs.length+2+x.ea.length+x.dW.length<=30):bj C [50,57,102,109] 16 [.bH 1000 0] [(1000,iP x),(1001,dH g ab a)] λv A=>∃(y:cV)(a:Nat),A=[(1000,iP y),(1001,dH g ab a)]/\a<=ab.length/\io y/\y.kind=x.kind/\y.funcs.length<=x.funcs.length+2+x.ea.length+x.dW.length:=by
 refine Q.z 16 (tQ [(0,⟨[2,3,4,5,6,9,13,14],[],[],[1000,1001]⟩),(2,⟨[2,3,4,5,6,7,8,9,10,11,12,13,14,18,19],[],[],[1000,1001]⟩)]) rfl rfl ?_;have yM:=I.cf.aR;have ajg:GT 5 (ai.mk [83,101,108,102] 1 []):=GT.S _ ag ag;have PR:GT 5 (ai.mk [73,110,116] 1 []):=GT.S _ ag ag;have arT:GT 5 (ai.mk [84] 1 []):=GT.S _ ag ag;have ak:(DR x).length<=300:=pu;have gO:(x.e7.map eX.row).length=x.e7.length:=bW;have me:(x.funcs.map dI.row).length=x.funcs.length:=bW;have cw:=bi.cm it (X:=[109]) rfl;have fh:=I.cf.kq (X:=[109]);have hC:=I.cf.cz (X:=[109]) ag;have j9:=I.cf.vm (X:=[109]) ag;have nL:=I.cf.jZ (X:=[109]) ag;have IK:=I.cf.xS (X:=[109]) ag;have aZ:=bi.cm it (X:=[50]) rfl;have hB:=I.cf.kq (X:=[50]);have mo:=I.cf.cz (X:=[50]) ag;have BF:=I.cf.vm (X:=[50]) ag;have MC:=I.cf.xS (X:=[50]) ag;have z1:=I.cf.jw (X:=[50]) ag;have v3:dw [109] (dI.row (Y1 (DR x)))=false:=(abs ak).cm ag;have qh:∀X (s aR:bM),dw X [.str s,.str aR,.aQ 1 [],.bool false,.int 3 0,.str [],.str [],.int 3 0,.aQ 1 [],.aQ 1 [],.aQ 1 [],.aQ 1 [],.str [],.aQ 1 [],.int 3 0]=false:=λX s aR=>by simp only[dw,lr,oX,oB,z7,Bool.or_false]
 (conv=>whnf)
 repeat(refine b9 ?_;conv=>whnf)
 refine aK (fR Q bi a 5 aD ag ag) ?_;rintro v A ⟨⟨r,rfl,ad⟩,bN,gk,rfl⟩
 (conv=>whnf)
 repeat(refine b9 ?_;conv=>whnf)
 refine aK (wv Q bi bN 5 gk ag ag) ?_;rintro v A ⟨⟨acn,rfl⟩,a2,fU,rfl⟩;generalize Nat.blt r 4=jj
 (conv=>whnf)
 repeat((first|(refine aK (ou Q _) ?_;rintro v A ⟨rfl,rfl⟩)|refine b9 ?_);(conv=>whnf))
 refine aK (fR Q bi a2 2 fU ag ag) ?_;rintro v A ⟨⟨cl,rfl,eM⟩,a3,eA,rfl⟩
 (conv=>whnf)
 repeat(refine b9 ?_;conv=>whnf)
 refine fK (λax=>?_) (λax=>?_);case' refine_1=>
  (conv=>whnf)
  repeat((first|(refine aK (ou Q _) ?_;rintro v A ⟨rfl,rfl⟩)|refine b9 ?_);(conv=>whnf))
  refine⟨ac1 (Dw.cm ag ajg) (mG (Dw.cm ag PR)),?_⟩
  (conv=>whnf)
  repeat((first|(refine aK (ou Q _) ?_;rintro v A ⟨rfl,rfl⟩)|refine b9 ?_);(conv=>whnf))
  refine⟨ac1 (qh _ _ _) (mG (qh _ _ _)),?_⟩
  (conv=>whnf)
  repeat((first|(refine aK (ou Q _) ?_;rintro v A ⟨rfl,rfl⟩)|refine b9 ?_);(conv=>whnf))
  refine ys (I.l5.A λx=>rfl) ag ag (by simp only[List.length_cons,List.length_nil];omega) (λb1=>?_) (λb1=>?_)
 case' refine_1.refine_1=>refine⟨tZ (I.cf.iY ag) (mG v3),?_⟩;show jt [109] _ _ _ _;refine mP ⟨mG v3,by kernel_rfl,by kernel_rfl,by kernel_rfl,trivial⟩ ?_;simp(disch:=first|assumption|with_unfolding_all rfl) only[List.map_cons,List.map_nil,dJ,lA,mh,li,k7,mu,lg,la,lR,nC,lD,oZ,iD,mX,s8 (I.l5.full b1)]
 case' refine_1.refine_1=>refine b8 ?_
 case' refine_1.refine_2=>refine b8 ?_
 case' refine_2=>refine b8 ?_
 all_goals
  refine ys (I.kQ.A λx=>rfl) ag ag (by simp only[List.length_cons,List.length_nil];omega) (λaE=>?_) (λaE=>?_)
  case' refine_1=>
   refine⟨tZ (I.cf.NA ag) (by kernel_rfl),?_⟩;show jt [50] _ _ _ _;refine mP (by
    repeat' (first|exact trivial|apply And.intro)
    all_goals first|exact tZ (I.cf.iY ag) (by kernel_rfl)|kernel_rfl) ?_
   simp(disch:=first|assumption|with_unfolding_all rfl) only[List.map_cons,List.map_nil,dJ,lA,mh,li,k7,mu,lg,la,lR,nC,lD,oZ,iD,mX,s8 (I.kQ.full aE)]
  all_goals
   (conv=>whnf)
   repeat(first|refine cT (ou Q _) ?_|refine b9 ?_);(conv=>whnf)
  all_goals
   first
   |have sN:=(I.fn (abs ak) Y).dZ (s:=⟨0,jj,acn,[83,104,111,119],205,[SU,abW]⟩) ⟨Nat.zero_le _,by show 4<=100;decide,by show 2<=5;decide,λm hm=>by
    simp only[List.mem_cons,List.not_mem_nil,or_false] at hm;rcases hm with rfl|rfl
    .exact VQ
    .exact ahU,.inr (ag:205 / 2=102)⟩ al
    have pr:=Si Q _ sN bi it a3 eA (DR x) ak (ai.mk [73,110,116] 1 []) PR 1 [] (.inl rfl) ag (λ_ h=>by cases h) (λh=>absurd rfl h) [115,104,111,119,73,110,116] ag (by show x.ed.length<30;omega) (by rw[List.length_append];show x.funcs.length+1<30;omega);simp only[iP,cV.cells,List.map_append,b1,aE,List.nil_append] at pr;refine aK pr ?_
   |have sN:=I.dZ (s:=⟨0,jj,acn,[83,104,111,119],204,[SU]⟩) ⟨Nat.zero_le _,by show 4<=100;decide,by show 1<=5;decide,λm hm=>by rw[List.mem_singleton.1 hm];exact VQ,.inr (ag:204 / 2=102)⟩ al
    have pr:=Si Q _ sN bi it a3 eA (DR x) ak (ai.mk [73,110,116] 1 []) PR 1 [] (.inl rfl) ag (λ_ h=>by cases h) (λh=>absurd rfl h) [115,104,111,119,73,110,116] ag (by show x.ed.length<30;omega) (by show x.funcs.length<30;omega)
    simp only[iP,cV.cells,List.map_append,aE,List.nil_append] at pr
    refine aK pr ?_
   rintro v A ⟨y,a4,rfl,ik,ap,lG,K⟩
   have az:y.kind=x.kind/\y.ea=x.ea/\y.dW=x.dW/\y.ed.length<=x.ed.length+1/\y.funcs.length<=x.funcs.length+2:=by have B:=K.1;have F:=K.2;simp only[List.length_append,List.length_singleton] at B F;obtain⟨_,_,_,_,rfl⟩:=lG;exact⟨rfl,rfl,rfl,B,Y⟩
   obtain⟨dr,c3,dY,e9,f9⟩:=az
   clear K lG pr sN
   show jt [57,109] _ _ _ _
   refine mP (by
    repeat' (first|exact trivial|apply And.intro)
    all_goals kernel_rfl) ?_
   simp(disch:=first|assumption|with_unfolding_all rfl) only[List.map_cons,List.map_nil,dJ,lA,mh,li,k7,mu,lg,la,lR,nC,lD,oZ,iD,mX]
   refine b8 ?_
  all_goals
   have cB:(y.ea.map ec.row).length=y.ea.length:=bW
   have df:=ap.cf.df
   have asi:y.ea.length=x.ea.length:=by rw[c3]
   have ast:y.dW.length=x.dW.length:=by rw[dY]
   have SB:=ap.cf.cz (X:=[57,109]) ag
   have arb:=ap.cf.vm (X:=[57,109]) ag
   have cH:=ap.cf.cH
   refine gG ec.row y.ea 12 (λ_ (_:cV×Nat)=>[]) (λ_ b=>[(1000,iP b.1),(1001,dH g ab b.2)]) (λd b=>io b.1/\vH y b.1/\b.1.ed.length<=y.ed.length+d.length/\b.1.funcs.length<=y.funcs.length+d.length/\b.2<=ab.length) ⟨(y,a4),⟨ap,vH.refl y,Nat.le_refl _,Nat.le_refl _,ik⟩,by kernel_rfl⟩ (λd b s Zs ba ar fv I1 bo bC=>?_) (λb ba bo=>?_)
   .obtain⟨z,a5⟩:=b;obtain⟨dD,dQ,fi,fr,lY⟩:=bo;simp only at dD dQ fi fr lY bC ⊢;have qD:d.length<y.ea.length:=Y;have Co:=ap.cf.dr s (by simp [ar]);have aV:=fv;have ad:=I1;unfold ec.row at ad;refine tl ?_;refine aK (fR Q bi a5 2 lY ag ag) ?_;rintro v A ⟨⟨PT,rfl,Y6⟩,dR,ra,rfl⟩;refine b8 ?_;refine fK (λUW=>?_) (λUW=>?_)
    .refine b8 ?_;refine aK (yJ Q [115,104,111,119,83] d.length ag Y) ?_;rintro v A ⟨rfl,kz,rfl,zq,nr⟩;refine b8 ?_;refine aK (aei Q z dD bi it dR ra (DR x) ak s.aR Co.aR s.g1 s.params Co.pl Co.n7 ([115,104,111,119,83]++[kz]) (by show 5+1<=100;decide) Y Y) ?_;rintro v A ⟨CW,en,rfl,s7,Sp,Px,ak4⟩;show jt [57,109] _ _ _ _;refine mP trivial ?_;simp(disch:=first|assumption|with_unfolding_all rfl) only[List.map_cons,List.map_nil,dJ,lA,mh,li,k7,mu,lg,la,lR,nC,lD,oZ,iD,mX];refine b8 ?_;exact bC (CW,en) _ _ ⟨Sp,dQ.trans Px,by show CW.ed.length<=y.ed.length+(d++[s]).length;rw[List.length_append];show _<=_+(d.length+1);omega,by show CW.funcs.length<=y.funcs.length+(d++[s]).length;rw[List.length_append];show _<=_+(d.length+1);omega,s7⟩ (by kernel_rfl)
    .refine b8 ?_;exact bC (z,dR) _ _ ⟨dD,dQ,by show z.ed.length<=y.ed.length+(d++[s]).length;rw[List.length_append];omega,by show z.funcs.length<=y.funcs.length+(d++[s]).length;rw[List.length_append];omega,ra⟩ (by kernel_rfl)
   .obtain⟨z,a5⟩:=b;obtain⟨dD,dQ,fi,fr,lY⟩:=bo;simp only at dD dQ fi fr lY ⊢;have az:z.kind=y.kind/\z.dW=y.dW:=by obtain⟨_,_,_,_,rfl⟩:=dQ;exact⟨rfl,rfl⟩
    obtain⟨m1,m2⟩:=az;have m3:z.dW.length=x.dW.length:=by rw[m2,dY]
    have dV:(z.dW.map eg.row).length=z.dW.length:=bW;have arI:=dD.cf.vm (X:=[57,109]) ag;have sH:=dD.cf.cH;refine de ?_;refine gG eg.row z.dW 17 (λ_ (_:cV×Nat)=>[]) (λ_ b=>[(1000,iP b.1),(1001,dH g ab b.2)]) (λd b=>io b.1/\vH z b.1/\b.1.ed.length<=z.ed.length+d.length/\b.1.funcs.length<=z.funcs.length+d.length/\b.2<=ab.length) ⟨(z,a5),⟨dD,vH.refl z,Nat.le_refl _,Nat.le_refl _,lY⟩,by kernel_rfl⟩ (λd b s Zs fJ eu fv I1 dp eG=>?_) (λb fJ dp=>?_)
    .obtain⟨w,dR⟩:=b;obtain⟨Bg,Be,KE,KG,Do⟩:=dp;simp only at Bg Be KE KG Do eG ⊢;have qD:d.length<z.dW.length:=Y;have Co:=dD.cf.c3 s (by simp [eu]);have aV:=fv;have ad:=I1;unfold eg.row at ad;refine tl ?_;refine aK (fR Q bi dR 2 Do ag ag) ?_;rintro v A ⟨⟨PT,rfl,Y6⟩,en,s7,rfl⟩;refine b8 ?_;refine fK (λUW=>?_) (λUW=>?_)
     .refine b8 ?_;refine aK (yJ Q [115,104,111,119,85] d.length ag Y) ?_;rintro v A ⟨rfl,kz,rfl,zq,nr⟩;refine b8 ?_;refine aK (aei Q w Bg bi it en s7 (DR x) ak s.aR Co.aR s.g1 s.params Co.pl Co.n7 ([115,104,111,119,85]++[kz]) (by show 5+1<=100;decide) Y Y) ?_;rintro v A ⟨CW,nX,rfl,PS,Sp,Px,ak4⟩;show jt [57,109] _ _ _ _;refine mP trivial ?_;simp(disch:=first|assumption|with_unfolding_all rfl) only[List.map_cons,List.map_nil,dJ,lA,mh,li,k7,mu,lg,la,lR,nC,lD,oZ,iD,mX];refine b8 ?_;exact eG (CW,nX) _ _ ⟨Sp,Be.trans Px,by show CW.ed.length<=z.ed.length+(d++[s]).length;rw[List.length_append];show _<=_+(d.length+1);omega,by show CW.funcs.length<=z.funcs.length+(d++[s]).length;rw[List.length_append];show _<=_+(d.length+1);omega,PS⟩ (by kernel_rfl)
     .refine b8 ?_;exact eG (w,en) _ _ ⟨Bg,Be,by show w.ed.length<=z.ed.length+(d++[s]).length;rw[List.length_append];omega,by show w.funcs.length<=z.funcs.length+(d++[s]).length;rw[List.length_append];omega,s7⟩ (by kernel_rfl)
    .obtain⟨w,dR⟩:=b;obtain⟨Bg,Be,KE,KG,Do⟩:=dp;simp only at Bg Be KE KG Do ⊢;refine de ?_;refine⟨w,dR,rfl,Do,Bg,?_,?_⟩
     .rw[<-dr,<-m1];obtain⟨_,_,_,_,rfl⟩:=Be;rfl
     .omega
end
end Go.Tx
namespace Go.Tx
open Go.Ev Go
inductive su:bG->bG->Prop
 |nil:su [] []
 |same {e:a1} {l aM:bG}:su l aM->su (e::l) (e::aM)
 |bT {g:Nat} {l aM:bG}:su l aM->su (.bT::l) (.J (.aQ g [])::aM)
def su.refl:∀l,su l l
 |[]=>.nil
 |_::l=>.same (su.refl l)
def su.len:∀{l aM},su l aM->aM.length=l.length
 |_,_,.nil=>rfl
 |_,_,.same h=>mJ (· +1) h.len
 |_,_,.bT h=>mJ (· +1) h.len
variable{t a6:be}{U:dO}{Z:Nat->Nat}
def su.qG{A}:∀{l aM}{r},su l aM->fl U Z A l r->fl U Z A aM r
 |_,_,_,.nil,g=>g
 |_,_,_,.same h,g=>by obtain⟨v,gC,rfl,g1,g2⟩:=g;exact⟨v,gC,rfl,g1,h.qG g2⟩
 |_,_,_,.bT h,g=>by obtain⟨v,gC,rfl,g1,g2⟩:=g;exact⟨v,gC,rfl,by have g1:v=.nil .s:=g1;show bp U (.aQ _ []) v;rw[g1];unfold bp;exact .inl ⟨rfl,.inl rfl⟩,h.qG g2⟩
inductive rO:be->be->Prop
 |nil:rO [] []
 |same {s:Nat} {D:eS} {t a6:be}:rO t a6->rO ((s,D)::t) ((s,D)::a6)
 |box {s el z:Nat} {l aM:bG} {t a6:be}:su l aM->rO t a6->rO ((s,.box el z (.bE l))::t) ((s,.box el z (.bE aM))::a6)
def F1(D bs:eS):Prop:=D=bs\/∃el z l aM,D=.box el z (.bE l)/\bs=.box el z (.bE aM)/\su l aM
def rO.df:∀{t a6},rO t a6->∀s D,look t s=some D->∃bs,look a6 s=some bs/\F1 D bs
 |_,_,.nil,s,D,h=>by cases h
 |_,_,.same (s:=ij) (D:=ei) (t:=t) (a6:=a6) h,s,D,K=>by
  simp only[look] at K ⊢;cases q:Nat.beq ij s with
  |true=>rw[q] at K;exact⟨_,rfl,.inl (by cases K;rfl)⟩
  |false=>rw[q] at K;exact h.df s D K
 |_,_,.box (s:=ij) (t:=t) (a6:=a6) ar h,s,D,K=>by
  simp only[look] at K ⊢;cases q:Nat.beq ij s with
  |true=>rw[q] at K;cases K;exact⟨_,rfl,.inr ⟨_,_,_,_,rfl,rfl,ar⟩⟩
  |false=>rw[q] at K;exact h.df s D K
def rO.cH:∀{t a6},rO t a6->∀s bs,look a6 s=some bs->∃D,look t s=some D/\F1 D bs
 |_,_,.nil,s,D,h=>by cases h
 |_,_,.same (s:=ij) (D:=ei) (t:=t) (a6:=a6) h,s,D,K=>by
  simp only[look] at K ⊢;cases q:Nat.beq ij s with
  |true=>rw[q] at K;exact⟨_,rfl,.inl (by cases K;rfl)⟩
  |false=>rw[q] at K;exact h.cH s D K
 |_,_,.box (s:=ij) (t:=t) (a6:=a6) ar h,s,D,K=>by
  simp only[look] at K ⊢;cases q:Nat.beq ij s with
  |true=>rw[q] at K;cases K;exact⟨_,rfl,.inr ⟨_,_,_,_,rfl,rfl,ar⟩⟩
  |false=>rw[q] at K;exact h.cH s D K
def F1.real{D bs}(h:F1 D bs):bs.real=D.real:=by rcases h with rfl|⟨el,z,l,aM,rfl,rfl,_⟩<;>rfl
def F1.f6{X}{s}{D bs}(h:F1 D bs):Tx.f6 X s bs=Tx.f6 X s D:=by rcases h with rfl|⟨el,z,l,aM,rfl,rfl,_⟩<;>rfl
def rO.shape(h:rO t a6):Shape t a6:=by
 refine⟨λs el z aF K=>?_,λs el z ab u K=>?_⟩
 .have⟨D,B,F⟩:=h.cH s _ K;rcases F with rfl|⟨eC,cI,l,aM,rfl,ah,_⟩
  .exact⟨_,B⟩
  .cases ah;exact⟨_,B⟩
 .have⟨D,B,F⟩:=h.cH s _ K;rcases F with rfl|⟨eC,cI,l,aM,rfl,ah,_⟩
  .exact⟨_,rfl,B⟩
  .cases ah
def rO.ok{H}(h:rO t a6)(aW:bL U Z t H):bL U Z a6 H:=by
 refine⟨aW.gf,λs D K ad=>?_,λs cP D bs K hJ ad fN=>?_,λs D K=>?_⟩
 .have⟨ei,B,F⟩:=h.cH s D K;exact aW.lt s ei B (by rw[<-F.real];exact ad)
 .have⟨ei,B,F⟩:=h.cH s D K;have⟨cQ,ah,aE⟩:=h.cH cP bs hJ;exact aW.inj s cP ei cQ B ah (by rw[<-F.real];exact ad) (by rw[<-aE.real];exact fN)
 .have⟨ei,B,F⟩:=h.cH s D K;have ah:=h.shape.obj (aW.obj s ei B) λ_=>rfl;rcases F with rfl|⟨el,z,l,aM,rfl,rfl,aE⟩
  .exact ah
  .have⟨am,g1,g2,g3,g4,g5⟩:=ah;exact⟨am,g1,g2,g3,by rw[aE.len];exact g4,aE.qG g5⟩
def bj.sub{C}{X}{f}{args}{A bw}{bZ}(h:bj C X f args bw bZ)(ak:rO A bw):bj C X f args A bZ:=by
 intro U Z H eE aW aD;have⟨r,nl,v,aq,bh,bV,q,run,Nt,aU,dZ,aH⟩:=h U Z H eE (ak.ok aW) (ak.shape.o8 aD);refine⟨r,nl,v,aq,bh,bV,q,run,Nt,⟨aU.le,aU.next,λa aD B F=>aU.same a aD (λt D K ad aI=>?_) F,λa D ay=>?_,λt D K ad=>?_⟩,dZ,λt D K=>?_⟩
 .have⟨ei,g1,g2⟩:=ak.cH t D K;exact B t ei g1 (by rw[<-g2.real];exact ad) (by rw[<-g2.f6];exact aI)
 .rcases aU.new a D ay with h|h|⟨t,bs,K,ad,ar⟩|h
  .exact .inl h
  .exact .inr (.inl h)
  .have⟨ei,g1,g2⟩:=ak.cH t bs K;exact .inr (.inr (.inl ⟨t,ei,g1,by rw[<-g2.real];exact ad,ar⟩))
  .exact .inr (.inr (.inr h))
 .rcases aU.eO t D K ad with h|⟨Bb,bs,hJ,fN,ar,aI⟩
  .exact .inl h
  .have⟨ei,g1,g2⟩:=ak.cH Bb bs hJ;exact .inr ⟨Bb,ei,g1,by rw[<-g2.real];exact fN,ar,by rw[<-g2.f6];exact aI⟩
 .have⟨ei,g1,g2⟩:=ak.df t D K;exact aH t ei g1
set_option maxRecDepth 100000
set_option maxHeartbeats 8000000
attribute [local irreducible] jJ mb bj lQ kS nj ie fe
section
variable{C:Nat->cG}{ext:Nat->Option e0}{ab:fD}(Q:Env C ext ab)
include Q
variable{g:Nat}
attribute [local irreducible] cA dw hy
abbrev V5(kind rel:Nat)(aR:bM):cV:=⟨kind,aR,rel,1,[],1,[],1,[],1,[],1,[],1,[]⟩
omit Q in
def ZT{kind rel aR}(az:kind<=10)(pn:rel<=1000)(EM:kind=1->0<rel)(l0:aR.length<=100):io (V5 kind rel aR):=
 ⟨⟨az,pn,l0,rfl,by simp,by simp,.inl rfl,by simp,by simp,.inl rfl,by simp,by simp,.inl rfl,by simp,by simp,.inl rfl,by simp,by simp,.inl rfl⟩,.inl ⟨rfl,rfl⟩,.inl ⟨rfl,rfl⟩,.inl ⟨rfl,rfl⟩,.inl ⟨rfl,rfl⟩,.inl ⟨rfl,rfl⟩,EM⟩
omit Q in
def Wm{kind rel}{aR:bM}{D}:rO [(1000,.box 70 12 (.bE [.bH 1001 0,.J (.aQ 1 []),.bT,.J (.int 3 kind),.J (.str aR),.J (.int 3 rel),.bT,.bT,.bT,.bT,.bT,.bT])),(1001,D)] [(1000,iP (V5 kind rel aR)),(1001,D)]:=
 .box (.same (.same (.bT (.same (.same (.same (.bT (.bT (.bT (.bT (.bT (.bT .nil)))))))))))) (.same .nil)
def ahV(bi:l6 ab)(it:g / 2=3)(a)(aD:a<=ab.length)(kind rel)(aR:bM)(az:kind<=10)(pn:rel<=1000)(EM:kind=1->0<rel)(l0:aR.length<=100):bj C [44,47,50,57,102,106,109] 7 [.bH 1000 0,.J (.int 3 kind),.J (.str aR),.J (.int 3 rel),.J (.aQ 1 [])] [(1000,dH g ab a)] λv A=>∃(y:cV)(a:Nat),v=.agg y.cells/\iC y/\A=[(1000,dH g ab a)]/\a<=ab.length:=by
 have uI:cA [44] (.op g ab.W)=false:=bi.cm it rfl;have fZ:cA [47] (.op g ab.W)=false:=bi.cm it rfl;have D9:cA [50,57,102,109] (.op g ab.W)=false:=bi.cm it rfl;have Nf:cA [109] (.op g ab.W)=false:=bi.cm it rfl;have O7:cA [106,109] (.op g ab.W)=false:=bi.cm it rfl;refine Q.z 7 (tQ [(0,⟨[7,8,13,14,15,16,17],[],[],[10,22,1000]⟩)]) rfl rfl ?_
 (conv=>whnf)
 repeat(refine b9 ?_;conv=>whnf)
 refine fK (λKd=>?_) (λKd=>?_);case' refine_1=>
  (conv=>whnf)
  repeat(refine b9 ?_;conv=>whnf)
  refine yQ (α:=Unit) (λ_=>[]) (λ_=>[(10,.box 34 9 (.bE [.J (.int 3 0),.J (.str []),.J (.int 3 0),.bT,.bT,.bT,.bT,.bT,.bT])),(22,.box 70 12 (.bE [.bH 1000 0,.J (.aQ 1 []),.bT,.J (.int 3 kind),.J (.str aR),.J (.int 3 0),.bT,.bT,.bT,.bT,.bT,.bT])),(1000,dH g ab a)]) (λ_=>0) (λ_=>True) ⟨(),trivial,by kernel_rfl⟩ (λ_ ba _ bC=>?_);subst Kd;have cb:=ZT (kind:=2) (rel:=0) (aR:=aR) Y Y Y l0
  (conv=>whnf)
  repeat((first|refine .nice ⟨ag,ag⟩ ?_|refine .no rfl ?_|refine b9 ?_);(conv=>whnf))
  refine aK (fR Q bi _ _ aD ag ag) ?_;rintro v A ⟨⟨cl,rfl,eM⟩,a2,fU,rfl⟩;show lL _ _ _ _ _ _ _ _ _ _ _ _;refine vt rfl rfl rfl ?_
  (conv=>whnf)
  refine aK (bj.sub (abR Q _ cb bi it cl (by show 0+cl<=10;omega) a2 fU) Wm) ?_;rintro v A ⟨kO,a3,rfl,eA,sN,Qj,j7⟩;show jt [44] _ _ _ _;refine mP trivial ?_;simp(disch:=first|assumption|with_unfolding_all rfl) only[fA,je,dJ,lA,mh,li,k7,mu,lg,la,lR,nC,lD,oZ,iD,mX]
  (conv=>whnf)
  repeat(refine b9 ?_;conv=>whnf)
  refine aK (fR Q bi _ _ eA ag ag) ?_;rintro v A ⟨⟨lS,rfl,tG⟩,a4,ik,rfl⟩;show lL _ _ _ _ _ _ _ _ _ _ _ _;refine vt rfl rfl rfl ?_
  (conv=>whnf)
  have aZ:kO.dW=[]/\kO.e7=[]/\kO.ed=[]/\kO.funcs=[]:=by obtain⟨_,_,rfl⟩:=Qj;exact⟨rfl,rfl,rfl,rfl⟩
  refine aK (aen Q kO sN bi it lS (by rw[aZ.1];show 0+lS<=10;omega) a4 ik) ?_;rintro v A ⟨y,a5,rfl,nK,ap,lG,gS⟩;have kN:y.funcs.length=0:=by obtain⟨_,_,rfl⟩:=lG;show kO.funcs.length=0;rw[aZ.2.2.2];rfl
  show jt [47] _ _ _ _;refine mP trivial ?_;simp(disch:=first|assumption|with_unfolding_all rfl) only[fA,je,dJ,lA,mh,li,k7,mu,lg,la,lR,nC,lD,oZ,iD,mX]
  (conv=>whnf)
  repeat(refine b9 ?_;conv=>whnf)
 case' refine_2=>
  (conv=>whnf)
  repeat(refine b9 ?_;conv=>whnf)
  refine yQ (α:=Unit) (λ_=>[]) (λ_=>[(10,.box 34 9 (.bE [.J (.int 3 0),.J (.str []),.J (.int 3 0),.bT,.bT,.bT,.bT,.bT,.bT])),(22,.box 70 12 (.bE [.bH 1000 0,.J (.aQ 1 []),.bT,.J (.int 3 kind),.J (.str aR),.J (.int 3 rel),.bT,.bT,.bT,.bT,.bT,.bT])),(1000,dH g ab a)]) (λ_=>0) (λ_=>True) ⟨(),trivial,by kernel_rfl⟩ (λ_ ba _ bC=>?_);have cb:=ZT (kind:=kind) (rel:=rel) (aR:=aR) az pn EM l0
  (conv=>whnf)
  repeat((first|refine .nice ⟨ag,ag⟩ ?_|refine .no rfl ?_|refine fK (λh=>absurd h Kd) (λ_=>?_)|refine b9 ?_);(conv=>whnf))
  refine aK (fR Q bi _ _ aD ag ag) ?_;rintro v A ⟨⟨cl,rfl,eM⟩,a2,fU,rfl⟩;show lL _ _ _ _ _ _ _ _ _ _ _ _;refine vt rfl rfl rfl ?_
  (conv=>whnf)
  first|refine .mk Y ?_|refine .nice Y ?_
  show lL _ _ _ _ _ _ _ _ _ _ _ _;refine vt rfl rfl rfl ?_
  (conv=>whnf)
  refine aK (bj.sub (abR Q _ cb bi it (1+cl) (by show 0+(1+cl)<=10;omega) a2 fU) Wm) ?_;rintro v A ⟨kO,a3,rfl,eA,sN,Qj,j7⟩;have eK:kO.ea.length<=3:=by have:kO.ea.length<=0+(1+cl):=j7;omega
  show jt [44] _ _ _ _;refine mP trivial ?_;simp(disch:=first|assumption|with_unfolding_all rfl) only[fA,je,dJ,lA,mh,li,k7,mu,lg,la,lR,nC,lD,oZ,iD,mX]
  (conv=>whnf)
  repeat(refine b9 ?_;conv=>whnf)
  refine aK (fR Q bi _ _ eA ag ag) ?_;rintro v A ⟨⟨lS,rfl,tG⟩,a4,ik,rfl⟩;show lL _ _ _ _ _ _ _ _ _ _ _ _;refine vt rfl rfl rfl ?_
  (conv=>whnf)
  have aZ:kO.dW=[]/\kO.e7=[]/\kO.ed=[]/\kO.funcs=[]:=by obtain⟨_,_,rfl⟩:=Qj;exact⟨rfl,rfl,rfl,rfl⟩
  refine aK (aen Q kO sN bi it lS (by rw[aZ.1];show 0+lS<=10;omega) a4 ik) ?_;rintro v A ⟨p5,a5,rfl,nK,O5,apV,gS⟩;have aN:p5.ea.length<=3/\p5.dW.length<=2/\p5.e7.length=0/\p5.ed.length=0/\p5.funcs.length=0:=by
   rw[aZ.1] at gS;obtain⟨_,u,rfl⟩:=apV;refine⟨eK,?_,?_,?_,?_⟩
   .have:u.length<=0+lS:=gS;show u.length<=2;omega
   .show kO.e7.length=0;rw[aZ.2.1];rfl
   .show kO.ed.length=0;rw[aZ.2.2.1];rfl
   .show kO.funcs.length=0;rw[aZ.2.2.2];rfl
  show jt [47] _ _ _ _;refine mP trivial ?_;simp(disch:=first|assumption|with_unfolding_all rfl) only[fA,je,dJ,lA,mh,li,k7,mu,lg,la,lR,nC,lD,oZ,iD,mX]
  (conv=>whnf)
  repeat(refine b9 ?_;conv=>whnf)
  refine aK (fR Q bi _ _ nK ag ag) ?_;rintro v A ⟨⟨RH,rfl,ab3⟩,dR,ra,rfl⟩
  (conv=>whnf)
  repeat(refine b9 ?_;conv=>whnf)
  refine eT (λb1=>?_) (λb1=>?_);case' refine_1=>
   refine Xk ?_;refine NE rfl (λk=>rfl) rfl rfl ?_;refine vt rfl rfl rfl ?_
   (conv=>whnf)
   refine aK (anQ Q p5 O5 bi it dR ra Y Y Y) ?_;rintro v A ⟨y,a5,rfl,nK,ap,-,asm⟩;have kN:y.funcs.length<=7:=Y;show jt [50,57,102,109] _ _ _ _;refine mP trivial ?_;simp(disch:=first|assumption|with_unfolding_all rfl) only[fA,je,dJ,lA,mh,li,k7,mu,lg,la,lR,nC,lD,oZ,iD,mX]
   (conv=>whnf)
   repeat(refine b9 ?_;conv=>whnf)
  case' refine_2=>
   (conv=>whnf)
   repeat(refine b9 ?_;conv=>whnf)
   obtain⟨y,rfl⟩:∃y,y=p5:=⟨_,rfl⟩;have kN:y.funcs.length<=7:=Y;have ap:=O5;obtain⟨a5,rfl⟩:∃b,b=dR:=⟨_,rfl⟩;have nK:=ra
 all_goals
  refine aK (fR Q bi _ _ nK ag ag) ?_
  rintro v A ⟨⟨PT,rfl,Y6⟩,en,s7,rfl⟩
  show lL _ _ _ _ _ _ _ _ _ _ _ _
  refine vt rfl rfl rfl ?_
  (conv=>whnf)
  first|refine .mk Y ?_|refine .nice Y ?_
  show lL _ _ _ _ _ _ _ _ _ _ _ _
  refine vt rfl rfl rfl ?_
  (conv=>whnf)
  refine aK (aj9 Q y ap bi it (1+PT) Y en s7) ?_
  rintro v A ⟨z,nX,rfl,PS,bO,aro,arq⟩
  show jt [109] _ _ _ _
  refine mP trivial ?_
  simp(disch:=first|assumption|with_unfolding_all rfl) only[fA,je,dJ,lA,mh,li,k7,mu,lg,la,lR,nC,lD,oZ,iD,mX]
  (conv=>whnf)
  repeat(refine b9 ?_;conv=>whnf)
  refine aK (am3 Q z bO bi it nX PS) ?_
  rintro v A ⟨w,a9,rfl,iQ,bx,ark,asz⟩
  show jt [106,109] _ _ _ _
  refine mP trivial ?_
  simp(disch:=first|assumption|with_unfolding_all rfl) only[fA,je,dJ,lA,mh,li,k7,mu,lg,la,lR,nC,lD,oZ,iD,mX]
  (conv=>whnf)
  repeat(refine b9 ?_;conv=>whnf)
  exact⟨w,a9,rfl,bx.cf,rfl,iQ⟩
end
end Go.Tx
