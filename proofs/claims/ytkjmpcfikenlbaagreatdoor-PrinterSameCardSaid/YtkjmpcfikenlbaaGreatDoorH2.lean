/- A part. -/
import Derived.Test.YtkjmpcfikenlbaaGreatDoorH1
set_option linter.all false
namespace Go.Tx
open Go Go.Ev
set_option maxRecDepth 100000
set_option maxHeartbeats 8000000
attribute [local irreducible] eo eA bU eE eJ eN cU eX
section
variable{C:Nat->cE}{ext:Nat->Option eS}{Q:e9}(aa:Env C ext Q)
include aa
variable{g:Nat}
attribute [local irreducible] cf eD h7
abbrev GF(x:cZ):bj:=x.ay++[46,83,104,111,119]
abbrev WU(s:bj):ai:=.mk 8 [43] [] 0 1 [] 1 [] 1 [] 90 [.mk 10 s [115,104,111,119] 0 86 [al.mk [84] 1 []] 1 [] 1 [] 90 [.mk 3 [120] [] 0 1 [] 1 [] 1 [] 1 [] (.mk [] 1 []) 0] (.mk [] 1 []) 0,.mk 3 [110] [] 0 1 [] 1 [] 1 [] 1 [] (.mk [] 1 []) 0] (.mk [] 1 []) 0
abbrev Wx(s:bj):cu:=⟨0,false,false,[109,97,114,107,79,102],264,[⟨[84],18,[s]⟩],268,[⟨[120],al.mk [84] 1 [],false,ai.nil⟩,⟨[110],al.mk [73,110,116] 1 [],false,ai.nil⟩],al.mk [73,110,116] 1 [],true,WU s⟩
variable{s:bj}
omit aa in
omit aa in
def ahZ(h:s.length<=300):GE 10 (WU s):=by have v:∀n:bj,n.length<=300->GE 1 (.mk 3 n [] 0 1 [] 1 [] 1 [] 1 [] (.mk [] 1 []) 0):=λn aD=>wn af aD af;have t:GT 400 (al.mk [84] 1 []):=GT.S _ af af;exact(kY (n:=2) af af af af jP.nil km.nil kP.nil (ks.two af (kY (n:=1) af h af af (jP.one af t af) km.nil kP.nil (ks.one af (v _ af))) ((v _ af).mono af))).mono af
omit aa in
omit aa in
def Xz(h:s.length<=300):mT (Wx s):=by
 refine⟨qG _,by show 6<=100;decide,by show 1<=1;decide,λg bI=>?_,.inr (af:264 / 2=132),by show 2<=5;decide,λa aC=>?_,.inr (af:268 / 2=134),GT.S _ af af,ahZ h⟩
 .rw[ji.1 bI];exact⟨by show 1<=100;decide,(af:(46:UInt8)∉[84]),(af:([84]:bj)≠[65,114,114,97,121]),by show 1<=10;decide,λt au=>by rw[ji.1 au];exact h,.inr (af:18 / 2=9)⟩
 .simp only[hS,Ax,Cm]at aC;rcases aC with rfl|rfl
  .exact⟨by show 1<=100;decide,GT.S _ af af,q5.mono af⟩
  .exact⟨by show 1<=100;decide,GT.S _ af af,q5.mono af⟩
abbrev Rs:fS:=⟨[115,104,111,119],86,[al.mk [83,101,108,102] 1 []],al.mk [73,110,116] 1 [],[]⟩
abbrev Z5:fS:=⟨[109,97,114,107],86,[al.mk [83,101,108,102] 1 [],al.mk [73,110,116] 1 []],al.mk [73,110,116] 1 [],[109,97,114,107,79,102]⟩
omit aa in
omit aa in
def Yn:J4 Rs:=⟨by decide,by show 1<=5;decide,λt au=>by rw[ji.1 au];exact GT.S _ af af,GT.S _ af af,by decide,.inr (af:86 / 2=43)⟩
omit aa in
omit aa in
def amy:J4 Z5:=⟨by decide,by show 2<=5;decide,λt au=>by simp only[hS,Ax,Cm]at au;rcases au with rfl|rfl<;>exact GT.S _ af af,GT.S _ af af,af,.inr (af:86 / 2=43)⟩
theorem anh(x)(M:iO x)(aS:jW Q)(gd:g / 2=3)(a)(aC:a<=Q.length)(au:x.e2.length<3)(aQ:x.dn.length+1+x.dJ.length+x.d9.length<=30)(a1:x.funcs.length+2+x.dJ.length+x.d9.length<=30):bU C [82,86,130,49] 19 [.bN 1000 0] [(1000,jr x),(1001,dD g Q a)] λv A=>∃(y:cZ)(a:Nat),A=[(1000,jr y),(1001,dD g Q a)]/\a<=Q.length/\iO y/\y.kind=x.kind/\y.funcs.length<=x.funcs.length+2+x.dJ.length+x.d9.length:=by
 refine aa.z 19 (vd [(0,⟨[2,3,4,5,6,9,13,14],[],[],[1000,1001]⟩),(2,⟨[2,3,4,5,6,7,8,9,10,11,12,13,14,18,19],[],[],[1000,1001]⟩)]) rfl rfl ?_;have yi:=M.ck.ay;have iz:GT 5 (al.mk [83,101,108,102] 1 []):=GT.S _ af af;have QO:GT 5 (al.mk [73,110,116] 1 []):=GT.S _ af af;have asI:GT 5 (al.mk [84] 1 []):=GT.S _ af af;have ap:(GF x).length<=300:=y5;have fp:(x.e2.map eG.row).length=x.e2.length:=bW;have io:(x.funcs.map cu.row).length=x.funcs.length:=bW;have cD:=aS.cj gd (X:=[49]) rfl;have fX:=M.ck.nw (X:=[49]);have hO:=M.ck.cK (X:=[49]) af;have kd:=M.ck.tc (X:=[49]) af;have nE:=M.ck.ka (X:=[49]) af;have CK:=M.ck.uZ (X:=[49]) af;have aP:=aS.cj gd (X:=[82]) rfl;have g5:=M.ck.nw (X:=[82]);have mm:=M.ck.cK (X:=[82]) af;have FX:=M.ck.tc (X:=[82]) af;have Ll:=M.ck.uZ (X:=[82]) af;have Bo:=M.ck.kn (X:=[82]) af;have u7:eD [49] (cu.row (Wx (GF x)))=false:=(Xz ap).cj af;have xe:∀X (s ay:bj),eD X [.str s,.str ay,.aH 1 [],.bool false,.int 3 0,.str [],.str [],.int 3 0,.aH 1 [],.aH 1 [],.aH 1 [],.aH 1 [],.str [],.aH 1 [],.int 3 0]=false:=λX s ay=>by simp only[eD,lq,nH,oB,Bb,Bool.or_false]
 (conv=>whnf)
 repeat(refine da ?_;conv=>whnf)
 refine aW (dy aa aS a 5 aC af af) ?_;rintro v A ⟨⟨r,rfl,ag⟩,bk,cY,rfl⟩
 (conv=>whnf)
 repeat(refine da ?_;conv=>whnf)
 refine aW (wQ aa aS bk 5 cY af af) ?_;rintro v A ⟨⟨Zh,rfl⟩,bu,cy,rfl⟩;generalize Nat.blt r 4=dr
 (conv=>whnf)
 repeat((first|(refine aW (ky aa _) ?_;rintro v A ⟨rfl,rfl⟩)|refine da ?_);(conv=>whnf))
 refine aW (dy aa aS bu 2 cy af af) ?_;rintro v A ⟨⟨b3,rfl,ct⟩,b1,dl,rfl⟩
 (conv=>whnf)
 repeat(refine da ?_;conv=>whnf)
 refine ch (λa0=>?_) (λa0=>?_);case' refine_1=>
  (conv=>whnf)
  repeat((first|(refine aW (ky aa _) ?_;rintro v A ⟨rfl,rfl⟩)|refine da ?_);(conv=>whnf))
  refine⟨ac3 (Ga.cj af iz) (jA (Ga.cj af QO)),?_⟩
  (conv=>whnf)
  repeat((first|(refine aW (ky aa _) ?_;rintro v A ⟨rfl,rfl⟩)|refine da ?_);(conv=>whnf))
  refine⟨ac3 (xe _ _ _) (jA (xe _ _ _)),?_⟩
  (conv=>whnf)
  repeat((first|(refine aW (ky aa _) ?_;rintro v A ⟨rfl,rfl⟩)|refine da ?_);(conv=>whnf))
  refine r9 (M.mC.A λx=>rfl) af af (by simp only[List.length_cons,List.length_nil];omega) (λcr=>?_) (λcr=>?_)
 case' refine_1.refine_1=>refine⟨oj (M.ck.i9 af) (jA u7),?_⟩;show ia [49] _ _ _ _;refine i6 ⟨jA u7,by kernel_rfl,by kernel_rfl,by kernel_rfl,trivial⟩ ?_;simp(disch:=first|assumption|with_unfolding_all rfl) only[List.map_cons,List.map_nil,dF,iI,iV,i1,i2,i3,i0,iY,jn,nZ,m9,pL,ij,lv,ro (M.mC.full cr)]
 case' refine_1.refine_1=>refine bw ?_
 case' refine_1.refine_2=>refine bw ?_
 case' refine_2=>refine bw ?_
 all_goals
  refine r9 (M.lz.A λx=>rfl) af af (by simp only[List.length_cons,List.length_nil];omega) (λaL=>?_) (λaL=>?_)
  case' refine_1=>
   refine⟨oj (M.ck.Fl af) (by kernel_rfl),?_⟩;show ia [82] _ _ _ _;refine i6 (by
    repeat' (first|exact trivial|apply And.intro)
    all_goals first|exact oj (M.ck.i9 af) (by kernel_rfl)|kernel_rfl) ?_
   simp(disch:=first|assumption|with_unfolding_all rfl) only[List.map_cons,List.map_nil,dF,iI,iV,i1,i2,i3,i0,iY,jn,nZ,m9,pL,ij,lv,ro (M.lz.full aL)]
  all_goals
   (conv=>whnf)
   repeat(first|refine hZ (ky aa _) ?_|refine da ?_);(conv=>whnf)
  all_goals
   first
   |have lr:=(M.fn (Xz ap) I).ec (s:=⟨0,dr,Zh,[83,104,111,119],261,[Rs,Z5]⟩) ⟨Nat.zero_le _,by show 4<=100;decide,by show 2<=5;decide,λm hm=>by
    simp only[List.mem_cons,List.not_mem_nil,or_false]at hm;rcases hm with rfl|rfl
    .exact Yn
    .exact amy,.inr (af:261 / 2=130)⟩ au
    have qA:=Rh aa _ lr aS gd b1 dl (GF x) ap (al.mk [73,110,116] 1 []) QO 1 [] (.inl rfl) af (λ_ h=>by cases h) (λh=>absurd rfl h) [115,104,111,119,73,110,116] af (by show x.dn.length<30;omega) (by rw[List.length_append];show x.funcs.length+1<30;omega);simp only[jr,cZ.cells,List.map_append,cr,aL,List.nil_append]at qA;refine aW qA ?_
   |have lr:=M.ec (s:=⟨0,dr,Zh,[83,104,111,119],260,[Rs]⟩) ⟨Nat.zero_le _,by show 4<=100;decide,by show 1<=5;decide,λm hm=>by rw[List.mem_singleton.1 hm];exact Yn,.inr (af:260 / 2=130)⟩ au
    have qA:=Rh aa _ lr aS gd b1 dl (GF x) ap (al.mk [73,110,116] 1 []) QO 1 [] (.inl rfl) af (λ_ h=>by cases h) (λh=>absurd rfl h) [115,104,111,119,73,110,116] af (by show x.dn.length<30;omega) (by show x.funcs.length<30;omega)
    simp only[jr,cZ.cells,List.map_append,aL,List.nil_append]at qA
    refine aW qA ?_
   rintro v A ⟨y,cP,rfl,gz,aE,gG,Y⟩
   have ar:y.kind=x.kind/\y.dJ=x.dJ/\y.d9=x.d9/\y.dn.length<=x.dn.length+1/\y.funcs.length<=x.funcs.length+2:=by have D:=Y.1;have F:=Y.2;simp only[List.length_append,List.length_singleton]at D F;obtain⟨_,_,_,_,rfl⟩:=gG;exact⟨rfl,rfl,rfl,D,I⟩
   obtain⟨cT,cN,el,e0,gB⟩:=ar
   clear Y gG qA lr
   show ia [86,49] _ _ _ _
   refine i6 (by
    repeat' (first|exact trivial|apply And.intro)
    all_goals kernel_rfl) ?_
   simp(disch:=first|assumption|with_unfolding_all rfl) only[List.map_cons,List.map_nil,dF,iI,iV,i1,i2,i3,i0,iY,jn,nZ,m9,pL,ij,lv]
   refine bw ?_
  all_goals
   have cl:(y.dJ.map dX.row).length=y.dJ.length:=bW
   have cH:=aE.ck.cH
   have at6:y.dJ.length=x.dJ.length:=by rw[cN]
   have asK:y.d9.length=x.d9.length:=by rw[el]
   have NM:=aE.ck.cK (X:=[86,49]) af
   have aie:=aE.ck.tc (X:=[86,49]) af
   have cq:=aE.ck.cq
   refine hs dX.row y.dJ 12 (λ_ (_:cZ×Nat)=>[]) (λ_ b=>[(1000,jr b.1),(1001,dD g Q b.2)]) (λd b=>iO b.1/\vY y b.1/\b.1.dn.length<=y.dn.length+d.length/\b.1.funcs.length<=y.funcs.length+d.length/\b.2<=Q.length) ⟨(y,cP),⟨aE,vY.refl y,Nat.le_refl _,Nat.le_refl _,gz⟩,by kernel_rfl⟩ (λd b s ZK ba aw ft JO a7 bt=>?_) (λb ba a7=>?_)
   .obtain⟨z,dO⟩:=b;obtain⟨dR,du,gq,fN,kF⟩:=a7;simp only at dR du gq fN kF bt ⊢;have vu:d.length<y.dJ.length:=I;have Do:=aE.ck.cT s (by simp[aw]);have be:=ft;have ag:=JO;unfold dX.row at ag;refine zL ?_;refine aW (dy aa aS dO 2 kF af af) ?_;rintro v A ⟨⟨Si,rfl,acw⟩,eb,qS,rfl⟩;refine bw ?_;refine ch (λTz=>?_) (λTz=>?_)
    .refine bw ?_;refine aW (xX aa [115,104,111,119,83] d.length af I) ?_;rintro v A ⟨rfl,la,rfl,AS,kR⟩;refine bw ?_;refine aW (adb aa z dR aS gd eb qS (GF x) ap s.ay Do.ay s.aj s.params Do.pl Do.tF ([115,104,111,119,83]++[la]) (by show 5+1<=100;decide) I I) ?_;rintro v A ⟨CU,eY,rfl,s0,UW,Vc,aiy⟩;show ia [86,49] _ _ _ _;refine i6 trivial ?_;simp(disch:=first|assumption|with_unfolding_all rfl) only[List.map_cons,List.map_nil,dF,iI,iV,i1,i2,i3,i0,iY,jn,nZ,m9,pL,ij,lv];refine bw ?_;exact bt (CU,eY) _ _ ⟨UW,du.trans Vc,by show CU.dn.length<=y.dn.length+(d++[s]).length;rw[List.length_append];show _<=_+(d.length+1);omega,by show CU.funcs.length<=y.funcs.length+(d++[s]).length;rw[List.length_append];show _<=_+(d.length+1);omega,s0⟩ (by kernel_rfl)
    .refine bw ?_;exact bt (z,eb) _ _ ⟨dR,du,by show z.dn.length<=y.dn.length+(d++[s]).length;rw[List.length_append];omega,by show z.funcs.length<=y.funcs.length+(d++[s]).length;rw[List.length_append];omega,qS⟩ (by kernel_rfl)
   .obtain⟨z,dO⟩:=b;obtain⟨dR,du,gq,fN,kF⟩:=a7;simp only at dR du gq fN kF ⊢;have ar:z.kind=y.kind/\z.d9=y.d9:=by obtain⟨_,_,_,_,rfl⟩:=du;exact⟨rfl,rfl⟩
    obtain⟨er,f8⟩:=ar;have jy:z.d9.length=x.d9.length:=by rw[f8,el]
    have dm:(z.d9.map dV.row).length=z.d9.length:=bW;have amx:=dR.ck.tc (X:=[86,49]) af;have gA:=dR.ck.cq;refine dd ?_;refine hs dV.row z.d9 17 (λ_ (_:cZ×Nat)=>[]) (λ_ b=>[(1000,jr b.1),(1001,dD g Q b.2)]) (λd b=>iO b.1/\vY z b.1/\b.1.dn.length<=z.dn.length+d.length/\b.1.funcs.length<=z.funcs.length+d.length/\b.2<=Q.length) ⟨(z,dO),⟨dR,vY.refl z,Nat.le_refl _,Nat.le_refl _,kF⟩,by kernel_rfl⟩ (λd b s ZK gl fb ft JO dq fj=>?_) (λb gl dq=>?_)
    .obtain⟨w,eb⟩:=b;obtain⟨wJ,zi,IG,HH,Dc⟩:=dq;simp only at wJ zi IG HH Dc fj ⊢;have vu:d.length<z.d9.length:=I;have Do:=dR.ck.cN s (by simp[fb]);have be:=ft;have ag:=JO;unfold dV.row at ag;refine zL ?_;refine aW (dy aa aS eb 2 Dc af af) ?_;rintro v A ⟨⟨Si,rfl,acw⟩,eY,s0,rfl⟩;refine bw ?_;refine ch (λTz=>?_) (λTz=>?_)
     .refine bw ?_;refine aW (xX aa [115,104,111,119,85] d.length af I) ?_;rintro v A ⟨rfl,la,rfl,AS,kR⟩;refine bw ?_;refine aW (adb aa w wJ aS gd eY s0 (GF x) ap s.ay Do.ay s.aj s.params Do.pl Do.tF ([115,104,111,119,85]++[la]) (by show 5+1<=100;decide) I I) ?_;rintro v A ⟨CU,mN,rfl,Ri,UW,Vc,aiy⟩;show ia [86,49] _ _ _ _;refine i6 trivial ?_;simp(disch:=first|assumption|with_unfolding_all rfl) only[List.map_cons,List.map_nil,dF,iI,iV,i1,i2,i3,i0,iY,jn,nZ,m9,pL,ij,lv];refine bw ?_;exact fj (CU,mN) _ _ ⟨UW,zi.trans Vc,by show CU.dn.length<=z.dn.length+(d++[s]).length;rw[List.length_append];show _<=_+(d.length+1);omega,by show CU.funcs.length<=z.funcs.length+(d++[s]).length;rw[List.length_append];show _<=_+(d.length+1);omega,Ri⟩ (by kernel_rfl)
     .refine bw ?_;exact fj (w,eY) _ _ ⟨wJ,zi,by show w.dn.length<=z.dn.length+(d++[s]).length;rw[List.length_append];omega,by show w.funcs.length<=z.funcs.length+(d++[s]).length;rw[List.length_append];omega,s0⟩ (by kernel_rfl)
    .obtain⟨w,eb⟩:=b;obtain⟨wJ,zi,IG,HH,Dc⟩:=dq;simp only at wJ zi IG HH Dc ⊢;refine dd ?_;refine⟨w,eb,rfl,Dc,wJ,?_,?_⟩
     .rw[<-cT,<-er];obtain⟨_,_,_,_,rfl⟩:=zi;rfl
     .omega
end
end Go.Tx
namespace Go.Tx
open Go.Ev Go
inductive sq:bK->bK->Prop
 |nil:sq [] []
 |same {e:a2} {l aK:bK}:sq l aK->sq (e::l) (e::aK)
 |bx {g:Nat} {l aK:bK}:sq l aK->sq (.bx::l) (.J (.aH g [])::aK)
def sq.refl:∀l,sq l l
 |[]=>.nil|_::l=>.same (sq.refl l)
def sq.len:∀{l aK},sq l aK->aK.length=l.length
 |_,_,.nil=>rfl|_,_,.same h=>fr (· +1) h.len|_,_,.bx h=>fr (· +1) h.len
variable{t a6:bf}{U:ek}{Z:Nat->Nat}
def sq.qo{A}:∀{l aK}{r},sq l aK->gc U Z A l r->gc U Z A aK r
 |_,_,_,.nil,g=>g
 |_,_,_,.same h,g=>by obtain⟨v,eH,rfl,aj,an⟩:=g;exact⟨v,eH,rfl,aj,h.qo an⟩
 |_,_,_,.bx h,g=>by obtain⟨v,eH,rfl,aj,an⟩:=g;exact⟨v,eH,rfl,by have aj:v=.nil .s:=aj;show bR U (.aH _ []) v;rw[aj];unfold bR;exact .inl ⟨rfl,.inl rfl⟩,h.qo an⟩
inductive rq:bf->bf->Prop
 |nil:rq [] []
 |same {s:Nat} {B:fB} {t a6:bf}:rq t a6->rq ((s,B)::t) ((s,B)::a6)
 |box {s ak z:Nat} {l aK:bK} {t a6:bf}:sq l aK->rq t a6->rq ((s,.box ak z (.bS l))::t) ((s,.box ak z (.bS aK))::a6)
def FW(B bH:fB):Prop:=B=bH\/∃ak z l aK,B=.box ak z (.bS l)/\bH=.box ak z (.bS aK)/\sq l aK
def rq.cH:∀{t a6},rq t a6->∀s B,look t s=some B->∃bH,look a6 s=some bH/\FW B bH
 |_,_,.nil,s,B,h=>by cases h
 |_,_,.same (s:=jb) (B:=fD) (t:=t) (a6:=a6) h,s,B,Y=>by
  simp only[look]at Y ⊢;cases q:Nat.beq jb s with
  |true=>rw[q]at Y;exact⟨_,rfl,.inl (by cases Y;rfl)⟩
  |false=>rw[q]at Y;exact h.cH s B Y
 |_,_,.box (s:=jb) (t:=t) (a6:=a6) aw h,s,B,Y=>by
  simp only[look]at Y ⊢;cases q:Nat.beq jb s with
  |true=>rw[q]at Y;cases Y;exact⟨_,rfl,.inr ⟨_,_,_,_,rfl,rfl,aw⟩⟩
  |false=>rw[q]at Y;exact h.cH s B Y
def rq.cq:∀{t a6},rq t a6->∀s bH,look a6 s=some bH->∃B,look t s=some B/\FW B bH
 |_,_,.nil,s,B,h=>by cases h
 |_,_,.same (s:=jb) (B:=fD) (t:=t) (a6:=a6) h,s,B,Y=>by
  simp only[look]at Y ⊢;cases q:Nat.beq jb s with
  |true=>rw[q]at Y;exact⟨_,rfl,.inl (by cases Y;rfl)⟩
  |false=>rw[q]at Y;exact h.cq s B Y
 |_,_,.box (s:=jb) (t:=t) (a6:=a6) aw h,s,B,Y=>by
  simp only[look]at Y ⊢;cases q:Nat.beq jb s with
  |true=>rw[q]at Y;cases Y;exact⟨_,rfl,.inr ⟨_,_,_,_,rfl,rfl,aw⟩⟩
  |false=>rw[q]at Y;exact h.cq s B Y
def FW.real{B bH}(h:FW B bH):bH.real=B.real:=by rcases h with rfl|⟨ak,z,l,aK,rfl,rfl,_⟩<;>rfl
def FW.hr{X}{s}{B bH}(h:FW B bH):Tx.hr X s bH=Tx.hr X s B:=by rcases h with rfl|⟨ak,z,l,aK,rfl,rfl,_⟩<;>rfl
def rq.shape(h:rq t a6):Shape t a6:=by
 refine⟨λs ak z aJ Y=>?_,λs ak z Q u Y=>?_⟩
 .have⟨B,D,F⟩:=h.cq s _ Y;rcases F with rfl|⟨e8,cJ,l,aK,rfl,aq,_⟩
  .exact⟨_,D⟩
  .cases aq;exact⟨_,D⟩
 .have⟨B,D,F⟩:=h.cq s _ Y;rcases F with rfl|⟨e8,cJ,l,aK,rfl,aq,_⟩
  .exact⟨_,rfl,D⟩
  .cases aq
def rq.ok{H}(h:rq t a6)(a4:b0 U Z t H):b0 U Z a6 H:=by
 refine⟨a4.e6,λs B Y ag=>?_,λs dx B bH Y iJ ag f7=>?_,λs B Y=>?_⟩
 .have⟨fD,D,F⟩:=h.cq s B Y;exact a4.lt s fD D (by rw[<-F.real];exact ag)
 .have⟨fD,D,F⟩:=h.cq s B Y;have⟨cL,aq,aL⟩:=h.cq dx bH iJ;exact a4.inj s dx fD cL D aq (by rw[<-F.real];exact ag) (by rw[<-aL.real];exact f7)
 .have⟨fD,D,F⟩:=h.cq s B Y;have aq:=h.shape.obj (a4.obj s fD D) λ_=>rfl;rcases F with rfl|⟨ak,z,l,aK,rfl,rfl,aL⟩
  .exact aq
  .have⟨ax,aj,an,aM,bs,cp⟩:=aq;exact⟨ax,aj,an,aM,by rw[aL.len];exact bs,aL.qo cp⟩
def bU.sub{C}{X}{f}{args}{A bE}{b8}(h:bU C X f args bE b8)(ap:rq A bE):bU C X f args A b8:=by
 intro U Z H fV a4 aC;have⟨r,m3,v,az,bm,b2,q,run,FA,a8,ec,aN⟩:=h U Z H fV (ap.ok a4) (ap.shape.lC aC);refine⟨r,m3,v,az,bm,b2,q,run,FA,⟨a8.le,a8.next,λa aC D F=>a8.same a aC (λt B Y ag a1=>?_) F,λa B aV=>?_,λt B Y ag=>?_⟩,ec,λt B Y=>?_⟩
 .have⟨fD,aj,an⟩:=ap.cq t B Y;exact D t fD aj (by rw[<-an.real];exact ag) (by rw[<-an.hr];exact a1)
 .rcases a8.new a B aV with h|h|⟨t,bH,Y,ag,aw⟩|h
  .exact .inl h
  .exact .inr (.inl h)
  .have⟨fD,aj,an⟩:=ap.cq t bH Y;exact .inr (.inr (.inl ⟨t,fD,aj,by rw[<-an.real];exact ag,aw⟩))
  .exact .inr (.inr (.inr h))
 .rcases a8.fE t B Y ag with h|⟨t0,bH,iJ,f7,aw,a1⟩
  .exact .inl h
  .have⟨fD,aj,an⟩:=ap.cq t0 bH iJ;exact .inr ⟨t0,fD,aj,by rw[<-an.real];exact f7,aw,by rw[<-an.hr];exact a1⟩
 .have⟨fD,aj,an⟩:=ap.cH t B Y;exact aN t fD aj
set_option maxRecDepth 100000
set_option maxHeartbeats 8000000
attribute [local irreducible] eo eA bU eE eJ eN cU eX
section
variable{C:Nat->cE}{ext:Nat->Option eS}{Q:e9}(aa:Env C ext Q)
include aa
variable{g:Nat}
attribute [local irreducible] cf eD h7
abbrev YU(kind rel:Nat)(ay:bj):cZ:=⟨kind,ay,rel,1,[],1,[],1,[],1,[],1,[],1,[]⟩
omit aa in
def Ye{kind rel ay}(ar:kind<=10)(nv:rel<=1000)(qV:kind=1->0<rel)(l5:ay.length<=100):iO (YU kind rel ay):=
 ⟨⟨ar,nv,l5,rfl,by simp,by simp,.inl rfl,by simp,by simp,.inl rfl,by simp,by simp,.inl rfl,by simp,by simp,.inl rfl,by simp,by simp,.inl rfl⟩,.inl ⟨rfl,rfl⟩,.inl ⟨rfl,rfl⟩,.inl ⟨rfl,rfl⟩,.inl ⟨rfl,rfl⟩,.inl ⟨rfl,rfl⟩,qV⟩
omit aa in
def Yr{kind rel}{ay:bj}{B}:rq [(1000,.box 64 12 (.bS [.bN 1001 0,.J (.aH 1 []),.bx,.J (.int 3 kind),.J (.str ay),.J (.int 3 rel),.bx,.bx,.bx,.bx,.bx,.bx])),(1001,B)] [(1000,jr (YU kind rel ay)),(1001,B)]:=
 .box (.same (.same (.bx (.same (.same (.same (.bx (.bx (.bx (.bx (.bx (.bx .nil)))))))))))) (.same .nil)
def alR(aS:jW Q)(gd:g / 2=3)(a)(aC:a<=Q.length)(kind rel)(ay:bj)(ar:kind<=10)(nv:rel<=1000)(qV:kind=1->0<rel)(l5:ay.length<=100):bU C [74,78,82,86,130,134,49] 7 [.bN 1000 0,.J (.int 3 kind),.J (.str ay),.J (.int 3 rel),.J (.aH 1 [])] [(1000,dD g Q a)] λv A=>∃(y:cZ)(a:Nat),v=.agg y.cells/\iN y/\A=[(1000,dD g Q a)]/\a<=Q.length/\0<y.funcs.length:=by
 have qd:cf [74] (.op g Q.W)=false:=aS.cj gd rfl;have g1:cf [78] (.op g Q.W)=false:=aS.cj gd rfl;have DU:cf [82,86,130,49] (.op g Q.W)=false:=aS.cj gd rfl;have L1:cf [49] (.op g Q.W)=false:=aS.cj gd rfl;have MG:cf [134,49] (.op g Q.W)=false:=aS.cj gd rfl;refine aa.z 7 (vd [(0,⟨[7,8,13,14,15,16,17],[],[],[10,22,1000]⟩)]) rfl rfl ?_
 (conv=>whnf)
 repeat(refine da ?_;conv=>whnf)
 refine ch (λkb=>?_) (λkb=>?_);case' refine_1=>
  (conv=>whnf)
  repeat(refine da ?_;conv=>whnf)
  refine qU (α:=Unit) (λ_=>[]) (λ_=>[(10,.box 34 9 (.bS [.J (.int 3 0),.J (.str []),.J (.int 3 0),.bx,.bx,.bx,.bx,.bx,.bx])),(22,.box 64 12 (.bS [.bN 1000 0,.J (.aH 1 []),.bx,.J (.int 3 kind),.J (.str ay),.J (.int 3 0),.bx,.bx,.bx,.bx,.bx,.bx])),(1000,dD g Q a)]) (λ_=>0) (λ_=>True) ⟨(),trivial,by kernel_rfl⟩ (λ_ ba _ bt=>?_);subst kb;have br:=Ye (kind:=2) (rel:=0) (ay:=ay) I I I l5
  (conv=>whnf)
  repeat((first|refine .nice ⟨af,af⟩ ?_|refine .no rfl ?_|refine da ?_);(conv=>whnf))
  refine aW (dy aa aS _ _ aC af af) ?_;rintro v A ⟨⟨b3,rfl,ct⟩,bu,cy,rfl⟩;show k4 _ _ _ _ _ _ _ _ _ _ _ _;refine tK rfl rfl rfl ?_
  (conv=>whnf)
  refine aW (bU.sub (Y3 aa _ br aS gd b3 (by show 0+b3<=10;omega) bu cy) Yr) ?_;rintro v A ⟨kx,b1,rfl,dl,lr,SP,lR⟩;show ia [74] _ _ _ _;refine i6 trivial ?_;simp(disch:=first|assumption|with_unfolding_all rfl) only[gg,hq,dF,iI,iV,i1,i2,i3,i0,iY,jn,nZ,m9,pL,ij,lv]
  (conv=>whnf)
  repeat(refine da ?_;conv=>whnf)
  refine aW (dy aa aS _ _ dl af af) ?_;rintro v A ⟨⟨my,rfl,qx⟩,cP,gz,rfl⟩;show k4 _ _ _ _ _ _ _ _ _ _ _ _;refine tK rfl rfl rfl ?_
  (conv=>whnf)
  have aP:kx.d9=[]/\kx.e2=[]/\kx.dn=[]/\kx.funcs=[]:=by obtain⟨_,_,rfl⟩:=SP;exact⟨rfl,rfl,rfl,rfl⟩
  refine aW (X2 aa kx lr aS gd my (by rw[aP.1];show 0+my<=10;omega) cP gz) ?_;rintro v A ⟨y,dO,rfl,np,aE,gG,jw⟩;have pz:y.funcs.length=0:=by obtain⟨_,_,rfl⟩:=gG;show kx.funcs.length=0;rw[aP.2.2.2];rfl
  show ia [78] _ _ _ _;refine i6 trivial ?_;simp(disch:=first|assumption|with_unfolding_all rfl) only[gg,hq,dF,iI,iV,i1,i2,i3,i0,iY,jn,nZ,m9,pL,ij,lv]
  (conv=>whnf)
  repeat(refine da ?_;conv=>whnf)
 case' refine_2=>
  (conv=>whnf)
  repeat(refine da ?_;conv=>whnf)
  refine qU (α:=Unit) (λ_=>[]) (λ_=>[(10,.box 34 9 (.bS [.J (.int 3 0),.J (.str []),.J (.int 3 0),.bx,.bx,.bx,.bx,.bx,.bx])),(22,.box 64 12 (.bS [.bN 1000 0,.J (.aH 1 []),.bx,.J (.int 3 kind),.J (.str ay),.J (.int 3 rel),.bx,.bx,.bx,.bx,.bx,.bx])),(1000,dD g Q a)]) (λ_=>0) (λ_=>True) ⟨(),trivial,by kernel_rfl⟩ (λ_ ba _ bt=>?_);have br:=Ye (kind:=kind) (rel:=rel) (ay:=ay) ar nv qV l5
  (conv=>whnf)
  repeat((first|refine .nice ⟨af,af⟩ ?_|refine .no rfl ?_|refine ch (λh=>absurd h kb) (λ_=>?_)|refine da ?_);(conv=>whnf))
  refine aW (dy aa aS _ _ aC af af) ?_;rintro v A ⟨⟨b3,rfl,ct⟩,bu,cy,rfl⟩;show k4 _ _ _ _ _ _ _ _ _ _ _ _;refine tK rfl rfl rfl ?_
  (conv=>whnf)
  first|refine .mk I ?_|refine .nice I ?_
  show k4 _ _ _ _ _ _ _ _ _ _ _ _;refine tK rfl rfl rfl ?_
  (conv=>whnf)
  refine aW (bU.sub (Y3 aa _ br aS gd (1+b3) (by show 0+(1+b3)<=10;omega) bu cy) Yr) ?_;rintro v A ⟨kx,b1,rfl,dl,lr,SP,lR⟩;have gx:kx.dJ.length<=3:=by have:kx.dJ.length<=0+(1+b3):=lR;omega
  show ia [74] _ _ _ _;refine i6 trivial ?_;simp(disch:=first|assumption|with_unfolding_all rfl) only[gg,hq,dF,iI,iV,i1,i2,i3,i0,iY,jn,nZ,m9,pL,ij,lv]
  (conv=>whnf)
  repeat(refine da ?_;conv=>whnf)
  refine aW (dy aa aS _ _ dl af af) ?_;rintro v A ⟨⟨my,rfl,qx⟩,cP,gz,rfl⟩;show k4 _ _ _ _ _ _ _ _ _ _ _ _;refine tK rfl rfl rfl ?_
  (conv=>whnf)
  have aP:kx.d9=[]/\kx.e2=[]/\kx.dn=[]/\kx.funcs=[]:=by obtain⟨_,_,rfl⟩:=SP;exact⟨rfl,rfl,rfl,rfl⟩
  refine aW (X2 aa kx lr aS gd my (by rw[aP.1];show 0+my<=10;omega) cP gz) ?_;rintro v A ⟨n1,dO,rfl,np,Oy,ar5,jw⟩;have a3:n1.dJ.length<=3/\n1.d9.length<=2/\n1.e2.length=0/\n1.dn.length=0/\n1.funcs.length=0:=by
   rw[aP.1]at jw;obtain⟨_,u,rfl⟩:=ar5;refine⟨gx,?_,?_,?_,?_⟩
   .have:u.length<=0+my:=jw;show u.length<=2;omega
   .show kx.e2.length=0;rw[aP.2.1];rfl
   .show kx.dn.length=0;rw[aP.2.2.1];rfl
   .show kx.funcs.length=0;rw[aP.2.2.2];rfl
  show ia [78] _ _ _ _;refine i6 trivial ?_;simp(disch:=first|assumption|with_unfolding_all rfl) only[gg,hq,dF,iI,iV,i1,i2,i3,i0,iY,jn,nZ,m9,pL,ij,lv]
  (conv=>whnf)
  repeat(refine da ?_;conv=>whnf)
  refine aW (dy aa aS _ _ np af af) ?_;rintro v A ⟨⟨PO,rfl,Xl⟩,eb,qS,rfl⟩
  (conv=>whnf)
  repeat(refine da ?_;conv=>whnf)
  refine eh (λcr=>?_) (λcr=>?_);case' refine_1=>
   refine ae8 ?_;refine Bk rfl (λk=>rfl) rfl rfl ?_;refine tK rfl rfl rfl ?_
   (conv=>whnf)
   refine aW (anh aa n1 Oy aS gd eb qS I I I) ?_;rintro v A ⟨y,dO,rfl,np,aE,-,atI⟩;have pz:y.funcs.length<=7:=I;show ia [82,86,130,49] _ _ _ _;refine i6 trivial ?_;simp(disch:=first|assumption|with_unfolding_all rfl) only[gg,hq,dF,iI,iV,i1,i2,i3,i0,iY,jn,nZ,m9,pL,ij,lv]
   (conv=>whnf)
   repeat(refine da ?_;conv=>whnf)
  case' refine_2=>
   (conv=>whnf)
   repeat(refine da ?_;conv=>whnf)
   obtain⟨y,rfl⟩:∃y,y=n1:=⟨_,rfl⟩;have pz:y.funcs.length<=7:=I;have aE:=Oy;obtain⟨dO,rfl⟩:∃b,b=eb:=⟨_,rfl⟩;have np:=qS
 all_goals
  refine aW (dy aa aS _ _ np af af) ?_
  rintro v A ⟨⟨Si,rfl,acw⟩,eY,s0,rfl⟩
  show k4 _ _ _ _ _ _ _ _ _ _ _ _
  refine tK rfl rfl rfl ?_
  (conv=>whnf)
  first|refine .mk I ?_|refine .nice I ?_
  show k4 _ _ _ _ _ _ _ _ _ _ _ _
  refine tK rfl rfl rfl ?_
  (conv=>whnf)
  refine aW (aio aa y aE aS gd (1+Si) I eY s0) ?_
  rintro v A ⟨z,mN,rfl,Ri,cA,at7,ats,GN⟩
  show ia [49] _ _ _ _
  refine i6 trivial ?_
  simp(disch:=first|assumption|with_unfolding_all rfl) only[gg,hq,dF,iI,iV,i1,i2,i3,i0,iY,jn,nZ,m9,pL,ij,lv]
  (conv=>whnf)
  repeat(refine da ?_;conv=>whnf)
  refine aW (afz aa z cA aS gd mN Ri) ?_
  rintro v A ⟨w,gZ,rfl,jp,cw,atr,ajf⟩
  show ia [134,49] _ _ _ _
  refine i6 trivial ?_
  simp(disch:=first|assumption|with_unfolding_all rfl) only[gg,hq,dF,iI,iV,i1,i2,i3,i0,iY,jn,nZ,m9,pL,ij,lv]
  (conv=>whnf)
  repeat(refine da ?_;conv=>whnf)
  exact⟨w,gZ,rfl,cw.ck,rfl,jp,by rw[ajf];omega⟩
end
end Go.Tx
