/- Part of the proof of PrinterLines. -/
import Derived.Test.YtddaefckjmdfoaaGreatDoorX2
set_option linter.all false
namespace Go.Tx
open Go Go.Ev
variable{n:Nat}{A:be}{U:dO}
def adL{Z}:∀{bX}{l},eW U Z A (bX.map .J) l->cJ U bX l
 |[],l,h=>by simpa only[je,eW,cJ] using h
 |t::bX,l,h=>by obtain⟨v,aM,rfl,B,F⟩:=h;exact .cons B (adL F)
open Classical in
noncomputable def uE(X:aO)(U:dO):dO:=λa=>match U a with
 |some D=>if cr (l1 D) X=true then none else some D
 |none=>none
open Classical in
noncomputable def qy(n:Nat)(U bh:dO):dO:=λa=>match bh a with
 |some D=>some D
 |none=>if a<n then U a else none
def JQ{X}{U}{a}{D}(h:uE X U a=some D):U a=some D/\cr (l1 D) X=false:=by
 unfold uE at h;cases ax:U a with
 |none=>rw[ax] at h;cases h
 |some bs=>
  rw[ax] at h;simp only at h;split at h
  .cases h
  .rename_i aB;cases h;exact⟨rfl,by simpa using aB⟩
def H1{bh a D}(h:qy n U bh a=some D):bh a=some D\/(bh a=none/\a<n/\U a=some D):=by
 unfold qy at h;cases ax:bh a with
 |some bs=>rw[ax] at h;cases h;exact .inl rfl
 |none=>
  rw[ax] at h;simp only at h;split at h
  .rename_i K;exact .inr ⟨rfl,K,h⟩
  .cases h
def bj.aqh{C}{X}{f}{bX:di}{bZ}(h:bj C X f (bX.map .J) [] bZ)(I:dw (ev X) bX=false):bj C [] f (bX.map .J) [] bZ:=by
 intro U Z H eE aW q2;have N8:(uE (ev X) U).le U:=λa D ay=>(JQ ay).1;have iz:U.iz (ev X) (uE (ev X) U):=λa D ay hm=>by unfold uE;rw[ay];simp only;rw[bA (by rw[hm];exact x4)]
 have BM:bL (uE (ev X) U) Z [] H:=⟨λa D ay=>aW.gf a D (N8 a D ay),λs D h=>(by cases h),λs cP D bs h=>(by cases h),λs D h=>(by cases h)⟩;have a0:eW (uE (ev X) U) Z [] (bX.map .J) eE:=cJ.o8 (cJ.iz iz _ _ I (adL q2));have⟨r,bw,v,aq,bh,bV,q,run,nz,aU,dZ,aH⟩:=h _ Z H eE BM a0;have Sy:bh.le (qy H.next U bh):=λa D ay=>by unfold qy;rw[ay]
 have same:∀a,a<H.next->aq.get a=H.get a:=λa aD=>aU.same a aD (λs D h=>by cases h) λD ay=>(JQ ay).2;have eO:∀s D,look bw s=some D->D.real=true->H.next<=bV s:=λs D K ad=>by
  rcases aU.eO s D K ad with h|⟨_,_,h,_⟩
  .exact h
  .cases h
 have kK:∀a D,bh a=some D->U a=some D\/H.next<=a:=λa D ay=>by
  rcases aU.new a D ay with h|h|⟨_,_,h,_⟩|⟨ei,h,hm⟩
  .exact .inl (N8 _ _ h)
  .exact .inr h
  .cases h
  .rw[(JQ h).2] at hm;cases hm
 have ze:ji id bh bV bw (qy H.next U bh) bV bw:=λe v h=>by
  cases e with
  |J t=>exact bp.mono Sy _ _ h
  |_=>exact h
 refine⟨r,bw,v,aq,qy H.next U bh,bV,q,run,⟨λa D ay=>?_,λs D K ad=>⟨(nz.lt s D K ad).1,?_⟩,nz.inj,λs D K=>?_⟩,⟨λa D ay _=>?_,aU.next,λa aD _ _=>same a aD,λa D ay=>?_,λs D K ad=>.inl (eO s D K ad)⟩,bp.mono Sy _ _ dZ,aH⟩
 .rcases H1 ay with h|⟨_,B,F⟩
  .exact nz.gf a D h
  .rw[same a B];exact⟨(aW.gf a D F).1,nV B aU.next⟩
 .cases ax:qy H.next U bh (bV s) with
  |none=>rfl
  |some bs=>
   rcases H1 ax with h|⟨_,B,_⟩
   .rw[(nz.lt s D K ad).2] at h;cases h
   .have:=eO s D K ad;omega
 .have:=(nz.obj s D K).hZ (bh:=qy H.next U bh) (bw:=bw) (aq:=aq) ze Sy rfl λ_=>rfl;have e:gx id D=D:=by
   cases D with
   |box el z aF=>cases aF<;>simp [gx]
   |arr=>rfl
  rwa [e] at this
 .have B:=(aW.gf a D ay).2;unfold qy;cases ax:bh a with
  |none=>simp only;rw[b3 B];exact ay
  |some bs=>
   rcases kK a bs ax with h|h
   .rw[ay] at h;cases h;rfl
   .omega
 .rcases H1 ay with h|⟨_,_,h⟩
  .rcases kK a D h with h|h
   .exact .inl h
   .exact .inr (.inl h)
  .exact .inl h
def bj.afl{C}{f el}{bX:di}{P:di->Prop}(h:bj C [] f (bX.map .J) [] λv A=>∃aF,v=.gc (4*el+3) aF 0/\dw [el] aF=false/\P aF)(I:dw [el] bX=false):zZ C f bX λeC z aF=>eC=el/\z=aF.length/\P aF:=by
 classical
 intro U Z H eE aW q2
 have N8:(uE [el] U).le U:=λa D ay=>(JQ ay).1
 have iz:U.iz [el] (uE [el] U):=λa D ay hm=>by
  unfold uE
  rw[ay]
  simp only
  rw[bA (by rw[hm];exact x4)]
 have BM:bL (uE [el] U) Z [] H:=⟨λa D ay=>aW.gf a D (N8 a D ay),λs D h=>(by cases h),λs cP D bs h=>(by cases h),λs D h=>(by cases h)⟩
 have a0:eW (uE [el] U) Z [] (bX.map .J) eE:=cJ.o8 (cJ.iz iz _ _ I q2)
 obtain⟨r,bw,v,aq,bh,bV,⟨aF,rfl,hq,PL⟩,run,nz,aU,dZ,aH⟩:=h _ Z H eE BM a0
 simp only[bp] at dZ
 obtain⟨a,r,z,am,n,eC,u,dK,rfl,t1,kH,rW,xE,Dq,aeN,KI,Vq⟩:=dZ
 obtain⟨rfl,rfl,rfl,Vt⟩:=Vq Y
 have KI:=KI Y
 subst KI
 have e:eC=el:=Y
 subst e
 have kK:∀b D,bh b=some D->(U b=some D/\cr (l1 D) [eC]=false)\/H.next<=b:=λb D ay=>by
  rcases aU.new b D ay with h|h|⟨_,_,h,_⟩|⟨ei,h,hm⟩
  .exact .inl (JQ h)
  .exact .inr h
  .cases h
  .cases hm
 have fresh:H.next<=a:=by
  rcases kK a _ t1 with⟨_,h⟩|h
  .simp only[l1,cr,fY rfl] at h
   cases h
  .exact h
 have same:∀b,b<H.next->aq.get b=H.get b:=λb av=>aU.same b av (λs D h=>by cases h) λD ay=>rfl
 have lt:=nz.gf a _ t1
 let nO:dO:=λb=>if b=a then none else qy H.next U bh b
 have ex:∀b D,nO b=some D->b≠a/\qy H.next U bh b=some D:=λb D ay=>by
  have ay:(if b=a then none else qy H.next U bh b)=some D:=ay
  split at ay
  .cases ay
  .rename_i dB;exact⟨dB,ay⟩
 have afJ:bh.iz [eC] nO:=λb D ay hm=>by
  show(if b=a then none else qy H.next U bh b)=some D
  rw[bA (λe=>?_)]
  .unfold qy;rw[ay]
  .subst e
   rw[t1] at ay
   cases ay
   simp only[l1,cr,fY rfl] at hm
   cases hm
 refine⟨eC,z,aF,a,am,aq,nO,⟨rfl,xE.symm,PL⟩,run,λb D ay=>?_,aU.next,same,λb D ay=>?_,λb D ay=>?_,fresh,lt.2,?_,lt.1,rW,Vt,xE,cJ.iz afJ _ _ hq Dq⟩
 .have av:=(aW.gf b D ay).2
  show(if b=a then none else qy H.next U bh b)=some D
  rw[bA Y]
  unfold qy
  cases ax:bh b with
  |none=>simp only;rw[b3 av];exact ay
  |some bs=>
   rcases kK b bs ax with⟨h,_⟩|h
   .rw[ay] at h;cases h;rfl
   .omega
 .have⟨_,h⟩:=ex b D ay
  rcases H1 h with h|⟨_,B,F⟩
  .exact nz.gf b D h
  .rw[same b B]
   exact⟨(aW.gf b D F).1,nV B aU.next⟩
 .have⟨_,h⟩:=ex b D ay
  rcases H1 h with h|⟨_,_,h⟩
  .exact(kK b D h).imp And.left id
  .exact .inl h
 .show(if a=a then none else qy H.next U bh a)=none
  rw[b3 rfl]
noncomputable abbrev J9:dy:=LA Proofs.Tryz.prog
def ag8:aO:=[7,8,13,14,15,16,17,18,19,40,41,43,44,47,110,113,114,115,116,119,120,121,122,123,126,219,222,227,228,229,177,178,261]
def Om:List (Nat×aO):=[(14,[44]),(15,[47]),(16,[50,57,102,109]),(43,[57,109]),(44,[57,109]),(17,[109]),(18,[106,109]),(41,[0,1000]),(7,[44,47,50,57,102,106,109]),(177,[5]),(178,[5]),(59,[5]),(61,[5]),(63,[5]),(65,[5]),(67,[5]),(3,[44,47,50,57,102,106,109])]
def DC:List (Nat×aO)->Nat->aO
 |[],_=>[]
 |(a,l)::r,f=>match Nat.beq a f with
  |true=>l
  |false=>DC r f
def anE:List (Nat×Nat):=[(121,84),(16,32)]
def YC(f:Nat):Hint:=⟨λg i=>Nat.beq i 0&&cr g ag8||Nat.beq g 285&&(Nat.beq i 3||Nat.beq i 4),λg=>cr g [45,46],λd=>anE.any (λN=>Nat.beq N.1 f&&Nat.beq N.2 d),DC Om,DC Om f,λd=>Nat.beq f 3&&Nat.beq d 23,DC [(18,[2,5])] f⟩
def Good(C:Nat->cG)(ext:Nat->Option e0):Prop:=∀f,ext f=none->∀m args H k,C (m+1) f args H k=(xR J9 iZ ext f).f m (C m) args H k
abbrev h9(l:List (Nat×aO×aO)):Nat->Nat->Option qY:=λ_ id=>match l with
 |[(_,f,N)]=>some ⟨f,[],[],N⟩
 |l=>(l.find? λq=>Nat.beq q.1 id).map λq=>⟨q.2.1,[],[],q.2.2⟩
def Good.z{C ext f args bZ}(Q:Good C ext)(jI)(I:ext f=none)(h:Mm C YC jI J9 iZ f args A bZ):bj C (DC Om f) f args A bZ:=VD (Q f I) I (amA h)
def abX:aO:=[20,58,97,214,313,264,261,178,5,4,8,19]
def fe(s:k9):Nat:=s.count 10
def ie(sep:k9):List k9->k9
 |[]=>[]
 |[a]=>a
 |a::l=>a++(sep++ie sep l)
structure fD where
 W:Value
 length:Nat
abbrev dH(g:Nat)(ab:fD)(a:Nat):eS:=.box 66 2 (.bE [.J (.op g ab.W),.J (.int 3 a)])
structure Env(C:Nat->cG)(ext:Nat->Option e0)(rows:fD):Prop where
 g:Good C ext
 e:∀f,cr f abX=false->ext f=none
 mod:∀x n,0<n->n<9223372036854775808->bj C [] 20 [.J (.int 3 x),.J (.int 3 n)] [] λv A=>A=[]/\∃r,v=.int 3 r/\r<n
 itoa:∀x,bj C [] 58 [.J (.int 3 x)] [] λv A=>A=[]/\∃s,v=.str s/\s.length<=20/\fe s=0
 Re:∀x,bj C [] 97 [.J (.int 3 x),.J (.int 3 10)] [] λv A=>A=[]/\∃s,v=.str s/\s.length<=20/\fe s=0
 join:∀g (l:List (List UInt8)) sep,l.length<1000000000->(ie sep l).length<1099511627776->bj C [] 214 [.J (.aQ g (l.map λs=>[.str s])),.J (.str sep)] [] λv A=>A=[]/\v=.str (ie sep l)
 index:∀s N:List UInt8,s.length<1000000000->N.length<1000000000->bj C [] 313 [.J (.str s),.J (.str N)] [] λv A=>A=[]/\((¬N<:+:s/\v=.int 3 18446744073709551615)\/∃i,v=.int 3 i/\i+N.length<=s.length/\N<+:s.drop i/\∀M,M<i->¬N<+:s.drop M)
 indexB:∀(s:List UInt8)(c:UInt8),s.length<1000000000->bj C [] 264 [.J (.str s),.J (.int 4 c.toNat)] [] λv A=>A=[]/\((c∉s/\v=.int 3 18446744073709551615)\/∃i,v=.int 3 i/\i<s.length/\s[i]?=some c/\c∉s.take i)
 Tr:∀a b,(a=.J (.nil .N)\/a=.bH 1000 0)->(b=.bT\/∃t,b=.J t)->bj C [] 261 [.bH 1000 0] [(1000,.box 210 2 (.bE [a,b]))] λv A=>A=[(1000,.box 210 2 (.bE [.bH 1000 0,b]))]
 str:∀a b t,(a=.J (.nil .N)\/a=.bH 1000 0)->(b=.bT/\t=[]\/b=.J (.aQ 11 (hG t)))->bj C [5] 178 [.bH 1000 0] [(1000,.box 210 2 (.bE [a,b]))] λv A=>A=[(1000,.box 210 2 (.bE [a,.J .undef]))]/\v=.str t
 LW:∀g,bj C [] 4 [.J (.op g rows.W)] [] λv A=>A=[]/\v=.bool (Nat.ble rows.length 700)
 left:rows.length<=700->∀g a,a<=rows.length->bj C [] 19 [.bH 1000 0] [(1000,dH g rows a)] λv A=>A=[(1000,dH g rows a)]/\v=.bool (Nat.blt a rows.length)
 next:rows.length<=700->∀g a n,a<=rows.length->0<n->n<9223372036854775808->bj C [] 8 [.bH 1000 0,.J (.int 3 n)] [(1000,dH g rows a)] λv A=>(∃r,v=.int 3 r/\r<n)/\∃a,a<=rows.length/\A=[(1000,dH g rows a)]
 GM:bj C [] 5 [] [] λv A=>A=[]/\v=.bool true
def Env.z{C}{ext}{ab}(Q:Env C ext ab)(f){X:List Nat}{args:List a1}{A}{bZ}(jI)(I:cr f abX=false)(ch:DC Om f=X)(h:Mm C YC jI J9 iZ f args A bZ):bj C X f args A bZ:=by subst ch;exact Q.g.z jI (Q.e f I) h
def gU:bG->List (Nat×a1)->bG
 |E,[]=>E
 |E,(i,v)::l=>gU (iT E i v) l
def Pu{c4 aU}{bc:(bG->be->Prop)->bG->be->Prop}{eb:bG}{gI}{α:Type}(dU:α->List (Nat×a1))(T:α->be)(pk:α->Nat)(eo:α->Prop)(cb:∃a,eo a/\forget eb c4=forget (gU eb (dU a)) c4/\oz gI aU=some (T a))(ak:∀a (ba),eo a->(∀bF d9 bw,pk bF<pk a->eo bF->forget d9 c4=forget (gU eb (dU bF)) c4->oz bw aU=some (T bF)->ba d9 bw)->jK id (forget (gU eb (dU a)) c4) λE=>bc ba E (T a)):qK (λba E A=>np (some ⟨c4,[],[],aU⟩) E A λE A=>bc ba E A) eb gI:=by have⟨a,B,F,ah⟩:=cb;refine PU (λm E A=>∃a,m=pk a/\eo a/\forget E c4=forget (gU eb (dU a)) c4/\oz A aU=some (T a)) ⟨_,a,rfl,B,F,ah⟩ ?_;rintro m ba E A ⟨a,rfl,g1,g2,g3⟩ bC;have:=ak a ba g1 λbF d9 bw bq aS bU cU=>bC _ _ _ bq ⟨bF,rfl,aS,bU,cU⟩;unfold np;simp only[DU];rw[g2];simp only[y1,we] at this ⊢;unfold vE;simp only;rw[g3];exact this
def gE{c4 aU}{bc:(bG->be->Prop)->bG->be->Prop}{eb:bG}{gI T}{α:Type}(f:α->di)(l:List α)(N)(dU:List α->List (Nat×a1))(eo:List α->Prop)(cb:eo []/\forget eb c4=forget (gU eb ((N,.J (.int 3 0))::dU [])) c4/\oz gI aU=some T)(ak:∀d x r (ba),l=d++x::r->d.length<(l.map f).length->ib (l.map f) d.length=f x->eo d->(∀d9 bw,eo (d++[x])->forget d9 c4=forget (gU eb ((N,.J (.int 3 (d.length+1)))::dU (d++[x]))) c4->oz bw aU=some T->ba d9 bw)->jK id (forget (gU eb ((N,.J (.int 3 d.length))::dU d)) c4) λE=>bc ba E T)(ar:∀(ba),eo l->jK id (forget (gU eb ((N,.J (.int 3 (l.map f).length))::dU l)) c4) λE=>bc ba E T):qK (λba E A=>np (some ⟨c4,[],[],aU⟩) E A λE A=>bc ba E A) eb gI:=by
 refine Pu (α:={d:List α // ∃r,l=d++r}) (λd=>(N,.J (.int 3 d.1.length))::dU d.1) (λ_=>T) (λd=>l.length - d.1.length) (λd=>eo d.1) ⟨⟨[],l,rfl⟩,cb.1,cb.2.1,cb.2.2⟩ ?_;rintro⟨d,r,rfl⟩ ba bo bC;cases r with
 |nil=>have:=ar ba (by rw[oK];exact bo);rw[dt] at this;simp only[oK] at this ⊢;exact this
 |cons x r=>refine ak d x r ba rfl (by simp) (wu f d x r) bo λd9 bw B F ah=>?_;refine bC ⟨d++[x],r,by simp⟩ d9 bw (by simp;omega) B ?_ ah;simpa using F
 where wu {α:Type} (f:α->di):∀(d:List α)(x:α)(r:List α),ib ((d++x::r).map f) d.length=f x
  |[],x,r=>rfl
  |a::d,x,r=>wu f d x r
def aaF{c4 aU}{bc:(bG->be->Prop)->bG->be->Prop}{eb:bG}{gI T}(n N)(dU:Nat->List (Nat×a1))(eo:Nat->Prop)(cb:eo 0/\forget eb c4=forget (gU eb ((N,.J (.int 3 0))::dU 0)) c4/\oz gI aU=some T)(ak:∀i (ba),i<n->eo i->(∀d9 bw,eo (i+1)->forget d9 c4=forget (gU eb ((N,.J (.int 3 (i+1)))::dU (i+1))) c4->oz bw aU=some T->ba d9 bw)->jK id (forget (gU eb ((N,.J (.int 3 i))::dU i)) c4) λE=>bc ba E T)(ar:∀(ba),eo n->jK id (forget (gU eb ((N,.J (.int 3 n))::dU n)) c4) λE=>bc ba E T):qK (λba E A=>np (some ⟨c4,[],[],aU⟩) E A λE A=>bc ba E A) eb gI:=by
 refine Pu (α:={i:Nat // i<=n}) (λi=>(N,.J (.int 3 i.1))::dU i.1) (λ_=>T) (λi=>n - i.1) (λi=>eo i.1) ⟨⟨0,mz n⟩,cb.1,cb.2.1,cb.2.2⟩ ?_;rintro⟨i,aH⟩ ba bo bC;rcases l7 i n with h|h
 .exact ak i ba h bo λd9 bw B F ah=>bC ⟨i+1,h⟩ d9 bw (by simp;omega) B F ah
 .have:i=n:=Nat.le_antisymm aH h;subst this;exact ar ba bo
def anI{c4 aU}{bc:(bG->be->Prop)->bG->be->Prop}{eb:bG}{gI T}(n a N)(dU:Nat->List (Nat×a1))(eo:Nat->Prop)(cb:a<=n/\eo a/\forget eb c4=forget (gU eb ((N,.J (.int 3 a))::dU a)) c4/\oz gI aU=some T)(ak:∀i (ba),a<=i->i<n->eo i->(∀M d9 bw,i<M->M<=n->eo M->forget d9 c4=forget (gU eb ((N,.J (.int 3 M))::dU M)) c4->oz bw aU=some T->ba d9 bw)->jK id (forget (gU eb ((N,.J (.int 3 i))::dU i)) c4) λE=>bc ba E T)(ar:∀(ba),eo n->jK id (forget (gU eb ((N,.J (.int 3 n))::dU n)) c4) λE=>bc ba E T):qK (λba E A=>np (some ⟨c4,[],[],aU⟩) E A λE A=>bc ba E A) eb gI:=by
 refine Pu (α:={i:Nat // a<=i/\i<=n}) (λi=>(N,.J (.int 3 i.1))::dU i.1) (λ_=>T) (λi=>n - i.1) (λi=>eo i.1) ⟨⟨a,ez a,cb.1⟩,cb.2.1,cb.2.2.1,cb.2.2.2⟩ ?_;rintro⟨i,aH,akN⟩ ba bo bC;rcases l7 i n with h|h
 .exact ak i ba aH h bo λM d9 bw bq aS B F ah=>bC ⟨M,Y,aS⟩ d9 bw (by simp;omega) B F ah
 .have:i=n:=Nat.le_antisymm akN h;subst this;exact ar ba bo
abbrev bM:=k9
inductive ai where
 |mk (aR:bM) (g:Nat) (l:List ai)
structure cX where
 aR:bM
 g:Nat
 dZ:List bM
structure eF where
 jj:Bool
 aR:bM
 bK:ai
structure ec where
 since:Nat
 jj:Bool
 gf:Bool
 aR:bM
 g1:Nat
 params:List bM
 g2:Nat
 fields:List eF
structure eP where
 ind:Bool
 aR:bM
 g:Nat
 f8:List ai
structure eg where
 since:Nat
 jj:Bool
 gf:Bool
 aR:bM
 g1:Nat
 params:List bM
 g2:Nat
 cases:List eP
structure fW where
 aR:bM
 g:Nat
 args:List ai
 fk:ai
 gM:bM
structure eX where
 since:Nat
 jj:Bool
 ahh:Bool
 aR:bM
 g:Nat
 fT:List fW
structure i3 where
 yR:bM
 func:bM
structure fc where
 zO:bM
 g1:Nat
 fg:List cX
 bK:ai
 g2:Nat
 binds:List i3
structure kx where
 aR:bM
 rel:Nat
structure fC where
 uD:Bool
 case:bM
 g:Nat
 names:List bM
inductive aj where
 |mk (kind:Nat) (aR mem:bM) (num:Nat) (g1:Nat) (types:List ai) (g2:Nat) (fM:List bM) (g3:Nat) (fV:List fC) (g4:Nat) (kids:List aj) (bK:ai) (pos:Nat)
structure cD where
 aR:bM
 bK:ai
 has:Bool
 gM:aj
structure dI where
 since:Nat
 jj:Bool
 inl:Bool
 aR:bM
 g1:Nat
 fg:List cX
 g2:Nat
 args:List cD
 fk:ai
 has:Bool
 body:aj
structure cV where
 kind:Nat
 aR:bM
 rel:Nat
 g1:Nat
 lf:List kx
 g2:Nat
 ea:List ec
 g3:Nat
 dW:List eg
 g4:Nat
 e7:List eX
 g5:Nat
 ed:List fc
 g6:Nat
 funcs:List dI
mutual
def ai.row:ai->di
 |.mk aR g l=>[.str aR,.aQ g (ai.rows l)]
def ai.rows:List ai->gF
 |[]=>[]
 |a::l=>a.row::ai.rows l
end
def ai.aR:ai->bM
 |.mk aR _ _=>aR
def ai.g:ai->Nat
 |.mk _ g _=>g
def ai.l:ai->List ai
 |.mk _ _ l=>l
def ai.Kp:∀l,ai.rows l=l.map ai.row
 |[]=>rfl
 |a::l=>by rw[ai.rows,ai.Kp l];rfl
def ai.dF(t:ai):t.row=[.str t.aR,.aQ t.g (t.l.map ai.row)]:=by cases t;rw[ai.row,ai.Kp];rfl
def cu(s:bM):di:=[.str s]
def cX.row(x:cX):di:=[.str x.aR,.aQ x.g (x.dZ.map cu)]
abbrev ai.cells(t:ai):di:=[.str t.aR,.aQ t.g (t.l.map ai.row)]
def eF.row(x:eF):di:=[.bool x.jj,.str x.aR,.str x.bK.aR,.aQ x.bK.g (x.bK.l.map ai.row)]
def ec.row(x:ec):di:=[.int 3 x.since,.bool x.jj,.bool x.gf,.str x.aR,.aQ x.g1 (x.params.map cu),.aQ x.g2 (x.fields.map eF.row)]
def eP.row(x:eP):di:=[.bool x.ind,.str x.aR,.aQ x.g (x.f8.map ai.row)]
def eg.row(x:eg):di:=[.int 3 x.since,.bool x.jj,.bool x.gf,.str x.aR,.aQ x.g1 (x.params.map cu),.aQ x.g2 (x.cases.map eP.row)]
def fW.row(x:fW):di:=[.str x.aR,.aQ x.g (x.args.map ai.row),.str x.fk.aR,.aQ x.fk.g (x.fk.l.map ai.row),.str x.gM]
def eX.row(x:eX):di:=[.int 3 x.since,.bool x.jj,.bool x.ahh,.str x.aR,.aQ x.g (x.fT.map fW.row)]
def i3.row(x:i3):di:=[.str x.yR,.str x.func]
def fc.row(x:fc):di:=[.str x.zO,.aQ x.g1 (x.fg.map cX.row),.str x.bK.aR,.aQ x.bK.g (x.bK.l.map ai.row),.aQ x.g2 (x.binds.map i3.row)]
def kx.row(x:kx):di:=[.str x.aR,.int 3 x.rel]
def fC.row(x:fC):di:=[.bool x.uD,.str x.case,.aQ x.g (x.names.map cu)]
mutual
def aj.row:aj->di
 |.mk kind aR mem num g1 types g2 fM g3 fV g4 kids bK pos=>[.int 3 kind,.str aR,.str mem,.int 3 num,.aQ g1 (types.map ai.row),.aQ g2 (fM.map cu),.aQ g3 (fV.map fC.row),.aQ g4 (aj.rows kids),.str bK.aR,.aQ bK.g (bK.l.map ai.row),.int 3 pos]
def aj.rows:List aj->gF
 |[]=>[]
 |a::l=>a.row::aj.rows l
end
def aj.Kp:∀l,aj.rows l=l.map aj.row
 |[]=>rfl
 |a::l=>by rw[aj.rows,aj.Kp l];rfl
namespace aj
def kind:aj->Nat|.mk a _ _ _ _ _ _ _ _ _ _ _ _ _=>a
def aR:aj->bM|.mk _ a _ _ _ _ _ _ _ _ _ _ _ _=>a
def mem:aj->bM|.mk _ _ a _ _ _ _ _ _ _ _ _ _ _=>a
def num:aj->Nat|.mk _ _ _ a _ _ _ _ _ _ _ _ _ _=>a
def g1:aj->Nat|.mk _ _ _ _ a _ _ _ _ _ _ _ _ _=>a
def types:aj->List ai|.mk _ _ _ _ _ a _ _ _ _ _ _ _ _=>a
def g2:aj->Nat|.mk _ _ _ _ _ _ a _ _ _ _ _ _ _=>a
def fM:aj->List bM|.mk _ _ _ _ _ _ _ a _ _ _ _ _ _=>a
def g3:aj->Nat|.mk _ _ _ _ _ _ _ _ a _ _ _ _ _=>a
def fV:aj->List fC|.mk _ _ _ _ _ _ _ _ _ a _ _ _ _=>a
def g4:aj->Nat|.mk _ _ _ _ _ _ _ _ _ _ a _ _ _=>a
def kids:aj->List aj|.mk _ _ _ _ _ _ _ _ _ _ _ a _ _=>a
def bK:aj->ai|.mk _ _ _ _ _ _ _ _ _ _ _ _ a _=>a
def pos:aj->Nat|.mk _ _ _ _ _ _ _ _ _ _ _ _ _ a=>a
abbrev cells(e:aj):di:=[.int 3 e.kind,.str e.aR,.str e.mem,.int 3 e.num,.aQ e.g1 (e.types.map ai.row),.aQ e.g2 (e.fM.map cu),.aQ e.g3 (e.fV.map fC.row),.aQ e.g4 (e.kids.map aj.row),.str e.bK.aR,.aQ e.bK.g (e.bK.l.map ai.row),.int 3 e.pos]
def dF(e:aj):e.row=e.cells:=by cases e;rw[aj.row,aj.Kp];rfl
end aj
def cD.row(x:cD):di:=[.str x.aR,.str x.bK.aR,.aQ x.bK.g (x.bK.l.map ai.row),.bool x.has]++x.gM.cells
def dI.row(x:dI):di:=[.int 3 x.since,.bool x.jj,.bool x.inl,.str x.aR,.aQ x.g1 (x.fg.map cX.row),.aQ x.g2 (x.args.map cD.row),.str x.fk.aR,.aQ x.fk.g (x.fk.l.map ai.row),.bool x.has]++x.body.cells
abbrev cV.cells(x:cV):di:=[.int 3 x.kind,.str x.aR,.int 3 x.rel,.aQ x.g1 (x.lf.map kx.row),.aQ x.g2 (x.ea.map ec.row),.aQ x.g3 (x.dW.map eg.row),.aQ x.g4 (x.e7.map eX.row),.aQ x.g5 (x.ed.map fc.row),.aQ x.g6 (x.funcs.map dI.row)]
def ai.ind{P:ai->Prop}(h:∀t,(∀x∈t.l,P x)->P t):∀t,P t:=by
 have:∀n (t:ai),SizeOf.sizeOf t<n->P t:=by
  intro n;induction n with
  |zero=>intro t al;omega
  |succ n bB=>
   intro t al;refine h t λx I=>bB x ?_;cases t with
   |mk aR g l=>have:=List.sizeOf_lt_of_mem I;simp [ai.l] at this;simp at al;omega
 exact λt=>this _ t (Nat.lt_succ_self _)
def aj.ind{P:aj->Prop}(h:∀t,(∀x∈t.kids,P x)->P t):∀t,P t:=by
 have:∀n (t:aj),SizeOf.sizeOf t<n->P t:=by
  intro n;induction n with
  |zero=>intro t al;omega
  |succ n bB=>
   intro t al;refine h t λx I=>bB x ?_;cases t with
   |mk bN a2 a3 a4 a5 dR en nX a9 qf o4 asU uF yA=>have:=List.sizeOf_lt_of_mem I;simp [aj.kids] at this;simp at al;omega
 exact λt=>this _ t (Nat.lt_succ_self _)
mutual
def ai.ok:ai->Prop
 |.mk aR _ l=>aR.length<1000/\l.length<100/\ai.xB l
def ai.xB:List ai->Prop
 |[]=>True
 |a::l=>a.ok/\ai.xB l
end
def ai.ac4:∀{l},ai.xB l->∀x∈l,x.ok
 |[],_,x,I=>by cases I
 |a::l,h,x,I=>by
  rcases fS.1 I with rfl|I
  .exact h.1
  .exact ai.ac4 h.2 x I
def ai.u2(t:ai):t.ok↔t.aR.length<1000/\t.l.length<100/\∀x∈t.l,x.ok:=by
 cases t with
 |mk aR g l=>
  refine⟨λh=>⟨h.1,h.2.1,ai.ac4 h.2.2⟩,λh=>⟨h.1,h.2.1,?_⟩⟩;have:∀l:List ai,(∀x∈l,x.ok)->ai.xB l:=by
   intro l;induction l with
   |nil=>intro _;trivial
   |cons a l bB=>intro h;exact⟨h a qg,bB λx I=>h x (tX _ I)⟩
  exact this l h.2.2
mutual
def ai.gi:ai->Nat
 |.mk _ _ l=>ai.e6 l+1
def ai.e6:List ai->Nat
 |[]=>0
 |a::l=>max a.gi (ai.e6 l)
end
def ai.o1(t:ai):t.gi=ai.e6 t.l+1:=by cases t;rw[ai.gi];rfl
def ai.zp:∀(d)(x),ai.e6 (d++[x])=max (ai.e6 d) x.gi
 |[],x=>by simp [ai.e6]
 |a::d,x=>by simp [ai.e6,ai.zp d x,Nat.max_assoc]
def ai.ue:∀{l}{x},x∈l->x.gi<=ai.e6 l
 |a::l,x,h=>by
  rcases fS.1 h with rfl|h
  .simp [ai.e6];omega
  .have:=ai.ue h;simp [ai.e6];omega
def ai.Fo(d r):ai.e6 d<=ai.e6 (d++r):=by
 induction d with
 |nil=>simp [ai.e6]
 |cons a d bB=>simp [ai.e6];omega
def ai.bL(t:ai):Prop:=t.ok/\t.gi<1000
def ai.bL.p6{t x:ai}(h:t.bL)(I:x∈t.l):x.bL:=⟨((ai.u2 t).1 h.1).2.2 x I,by have:=ai.ue I;have:=h.2;rw[ai.o1] at this;omega⟩
def ai.bL.len{t:ai}(h:t.bL):(t.l.map ai.row).length<100:=by rw[dt];exact((ai.u2 t).1 h.1).2.1
def fC.ok(a:fC):Prop:=a.case.length<1000/\a.names.length<100/\∀s∈a.names,s.length<1000
def aj.nM(e:aj):Prop:=e.aR.length<1000/\e.mem.length<1000/\e.types.length<100/\(∀t∈e.types,t.bL)/\e.fM.length<100/\(∀s∈e.fM,s.length<1000)/\e.fV.length<100/\(∀a∈e.fV,a.ok)/\e.kids.length<100/\e.kind<9223372036854775808/\e.num<18446744073709551616
mutual
def aj.ok:aj->Prop
 |.mk bN a2 a3 a4 a5 dR en nX a9 qf o4 l uF yA=>aj.nM (.mk bN a2 a3 a4 a5 dR en nX a9 qf o4 l uF yA)/\aj.xB l
def aj.xB:List aj->Prop
 |[]=>True
 |a::l=>a.ok/\aj.xB l
end
def aj.Zx:∀{l},aj.xB l↔∀x∈l,x.ok
 |[]=>by simp [aj.xB]
 |a::l=>by simp [aj.xB,aj.Zx]
def aj.u2(t:aj):t.ok↔t.nM/\∀x∈t.kids,x.ok:=by cases t;rw[aj.ok,aj.Zx];rfl
mutual
def aj.size:aj->Nat
 |.mk _ _ _ _ _ _ _ _ _ _ _ l _ _=>aj.e1 l+1
def aj.e1:List aj->Nat
 |[]=>0
 |a::l=>a.size+aj.e1 l
end
def aj.size_eq(t:aj):t.size=aj.e1 t.kids+1:=by cases t;rw[aj.size];rfl
def aj.JK:∀(d r),aj.e1 (d++r)=aj.e1 d+aj.e1 r
 |[],r=>by simp [aj.e1]
 |a::d,r=>by simp [aj.e1,aj.JK d r];omega
def aj.adA:∀{l}{x},x∈l->x.size<=aj.e1 l
 |a::l,x,h=>by
  rcases fS.1 h with rfl|h
  .simp [aj.e1]
  .have:=aj.adA h;simp [aj.e1];omega
mutual
def aj.gi:aj->Nat
 |.mk _ _ _ _ _ _ _ _ _ _ _ l _ _=>aj.e6 l+1
def aj.e6:List aj->Nat
 |[]=>0
 |a::l=>max a.gi (aj.e6 l)
end
def aj.o1(t:aj):t.gi=aj.e6 t.kids+1:=by cases t;rw[aj.gi];rfl
def aj.zp:∀(d)(x),aj.e6 (d++[x])=max (aj.e6 d) x.gi
 |[],x=>by simp [aj.e6]
 |a::d,x=>by simp [aj.e6,aj.zp d x,Nat.max_assoc]
def aj.ue:∀{l}{x},x∈l->x.gi<=aj.e6 l
 |a::l,x,h=>by
  rcases fS.1 h with rfl|h
  .simp [aj.e6];omega
  .have:=aj.ue h;simp [aj.e6];omega
def aj.Fo(d r):aj.e6 d<=aj.e6 (d++r):=by
 induction d with
 |nil=>simp [aj.e6]
 |cons a d bB=>simp [aj.e6];omega
def aj.KT:∀e:aj,e.gi<=e.size:=aj.ind λe bB=>by
 rw[aj.o1,aj.size_eq];have:∀l:List aj,(∀x∈l,x.gi<=x.size)->aj.e6 l<=aj.e1 l:=by
  intro l;induction l with
  |nil=>intro _;simp [aj.e6]
  |cons a l R2=>intro h;have B:=h a qg;have F:=R2 λx I=>h x (tX _ I);simp [aj.e6,aj.e1];omega
 have:=this e.kids bB;omega
def aj.bL(e:aj):Prop:=e.ok/\e.size<1000000000000
def aj.bL.p6{e x:aj}(h:e.bL)(I:x∈e.kids):x.bL:=⟨((aj.u2 e).1 h.1).2 x I,by have:=aj.adA I;have:=h.2;rw[aj.size_eq] at this;omega⟩
def aj.bL.one{e:aj}(h:e.bL):e.nM:=((aj.u2 e).1 h.1).1
def aj.bL.len{e:aj}(h:e.bL):(e.kids.map aj.row).length<100:=by rw[dt];exact h.one.2.2.2.2.2.2.2.2.1
def Uv{α:Type}{s x}{d:List α}(h:s∉d)(I:x≠s):s∉d++[x]:=by
 intro b5;rcases jD.1 b5 with b5|b5
 .exact h b5
 .exact I (iF.1 b5).symm
def Bn{α:Type}{N}{d:List α}{x}(h:d.all N)(I:N x):(d++[x]).all N:=by simp [h,I]
def QB{α:Type}{N}{l d r:List α}{x}(K:l=d++x::r)(I:N x=false):l.all N=false:=by subst K;simp [I]
def wu{α:Type}(f:α->di):∀(d:List α)(x)(r:List α),ib ((d++x::r).map f) d.length=f x
 |[],x,r=>rfl
 |a::d,x,r=>wu f d x r
def afh{α:Type}{f:α->di}{l d:List α}{i}(aH:i<(l.map f).length)(aJ:l.take i=d):∃x r,l=d++x::r/\i=d.length/\ib (l.map f) i=f x:=by
 rw[dt] at aH;refine⟨l[i],l.drop (i+1),?_,?_,?_⟩
 .rw[<-aJ,<-y9 aH,JT]
 .rw[<-aJ,jC];omega
 .have:ib (l.map f) (l.take i).length=f l[i]:=by
   conv=>lhs;rw[show l=l.take i++l[i]::l.drop (i+1) from by rw[<-y9 aH,JT]]
   have e:(List.take i (List.take i l++l[i]::List.drop (i+1) l))=l.take i:=by rw[<-y9 aH,JT]
   rw[e];exact wu f _ _ _
  rwa [jC,ws Y] at this
def qN(acc:List Acc)(aU:aO)(E:bG)(A:be):Option (bG×be):=match uU acc E A with
 |some r=>match oz r.2 aU with
  |some A=>some (r.1,A)
  |none=>none
 |none=>none
def Wv{acc aU E c4 d9 bw k}(h:qN acc aU (forget E c4) A=some (d9,bw))(az:jK id d9 λE=>ky bw λA=>k E A):np (some ⟨c4,[],acc,aU⟩) E A k:=by
 unfold np vE;simp only[DU,y1,we,A0] at az ⊢;unfold qN at h;cases acc with
 |nil=>
  simp only[uU] at h ⊢;cases hp:oz A aU with
  |none=>rw[hp] at h;cases h
  |some t=>rw[hp] at h;cases h;exact az
 |cons a l=>
  simp only;cases aD:uU (a::l) (forget E c4) A with
  |none=>rw[aD] at h;cases h
  |some r=>
   rw[aD] at h;simp only at h;cases hp:oz r.2 aU with
   |none=>rw[hp] at h;cases h
   |some t=>rw[hp] at h;cases h;simp only[rL,hp,R0,y1,we,A0];exact az
def FK{c4 aU}{acc}{bc:(bG->be->Prop)->bG->be->Prop}{eb:bG}{gI}{α:Type}(dU:α->List (Nat×a1))(T:α->be)(pk:α->Nat)(eo:α->Prop)(cb:∃a,eo a/\qN acc aU (forget eb c4) gI=some (forget (gU eb (dU a)) c4,T a))(ak:∀a (ba),eo a->(∀bF d9 bw,pk bF<pk a->eo bF->qN acc aU (forget d9 c4) bw=some (forget (gU eb (dU bF)) c4,T bF)->ba d9 bw)->jK id (forget (gU eb (dU a)) c4) λE=>ky (T a) λA=>bc ba E A):qK (λba E A=>np (some ⟨c4,[],acc,aU⟩) E A λE A=>bc ba E A) eb gI:=by have⟨a,B,F⟩:=cb;refine PU (λm E A=>∃a,m=pk a/\eo a/\qN acc aU (forget E c4) A=some (forget (gU eb (dU a)) c4,T a)) ⟨_,a,rfl,B,F⟩ ?_;rintro m ba E A ⟨a,rfl,g1,g2⟩ bC;exact Wv g2 (ak a ba g1 λbF d9 bw bq aS bU=>bC _ _ _ bq ⟨bF,rfl,aS,bU⟩)
def ko{c4 aU}{acc}{bc:(bG->be->Prop)->bG->be->Prop}{eb:bG}{gI}{α gd:Type}(f:α->di)(l:List α)(N)(dU:List α->gd->List (Nat×a1))(T:List α->gd->be)(eo:List α->gd->Prop)(cb:∃b,eo [] b/\qN acc aU (forget eb c4) gI=some (forget (gU eb ((N,.J (.int 3 0))::dU [] b)) c4,T [] b))(ak:∀d b x r (ba),l=d++x::r->d.length<(l.map f).length->ib (l.map f) d.length=f x->eo d b->(∀dA d9 bw,eo (d++[x]) dA->qN acc aU (forget d9 c4) bw=some (forget (gU eb ((N,.J (.int 3 (d.length+1)))::dU (d++[x]) dA)) c4,T (d++[x]) dA)->ba d9 bw)->jK id (forget (gU eb ((N,.J (.int 3 d.length))::dU d b)) c4) λE=>ky (T d b) λA=>bc ba E A)(ar:∀b (ba),eo l b->jK id (forget (gU eb ((N,.J (.int 3 (l.map f).length))::dU l b)) c4) λE=>ky (T l b) λA=>bc ba E A):qK (λba E A=>np (some ⟨c4,[],acc,aU⟩) E A λE A=>bc ba E A) eb gI:=by
 have⟨n5,B,F⟩:=cb;refine FK (α:={d:List α // ∃r,l=d++r}×gd) (λd=>(N,.J (.int 3 d.1.1.length))::dU d.1.1 d.2) (λd=>T d.1.1 d.2) (λd=>l.length - d.1.1.length) (λd=>eo d.1.1 d.2) ⟨⟨⟨[],l,rfl⟩,n5⟩,B,F⟩ ?_;rintro⟨⟨d,r,rfl⟩,b⟩ ba bo bC;cases r with
 |nil=>have:=ar b ba (by rw[oK];exact bo);rw[dt] at this;simp only[oK] at this ⊢;exact this
 |cons x r=>refine ak d b x r ba rfl (by simp) (wu f d x r) bo λdA d9 bw B F=>?_;refine bC ⟨⟨d++[x],r,by simp⟩,dA⟩ d9 bw (by simp;omega) B ?_;simpa using F
def Qz{c4 aU}{acc}{bc:(bG->be->Prop)->bG->be->Prop}{eb:bG}{gI}{gd:Type}(n N)(dU:Nat->gd->List (Nat×a1))(T:Nat->gd->be)(eo:Nat->gd->Prop)(cb:∃b,eo 0 b/\qN acc aU (forget eb c4) gI=some (forget (gU eb ((N,.J (.int 3 0))::dU 0 b)) c4,T 0 b))(ak:∀i b (ba),i<n->eo i b->(∀dA d9 bw,eo (i+1) dA->qN acc aU (forget d9 c4) bw=some (forget (gU eb ((N,.J (.int 3 (i+1)))::dU (i+1) dA)) c4,T (i+1) dA)->ba d9 bw)->jK id (forget (gU eb ((N,.J (.int 3 i))::dU i b)) c4) λE=>ky (T i b) λA=>bc ba E A)(ar:∀b (ba),eo n b->jK id (forget (gU eb ((N,.J (.int 3 n))::dU n b)) c4) λE=>ky (T n b) λA=>bc ba E A):qK (λba E A=>np (some ⟨c4,[],acc,aU⟩) E A λE A=>bc ba E A) eb gI:=by
 have⟨n5,B,F⟩:=cb;refine FK (α:={i:Nat // i<=n}×gd) (λi=>(N,.J (.int 3 i.1.1))::dU i.1.1 i.2) (λi=>T i.1.1 i.2) (λi=>n - i.1.1) (λi=>eo i.1.1 i.2) ⟨⟨⟨0,mz n⟩,n5⟩,B,F⟩ ?_;rintro⟨⟨i,aH⟩,b⟩ ba bo bC;rcases l7 i n with h|h
 .exact ak i b ba h bo λdA d9 bw B F=>bC ⟨⟨i+1,h⟩,dA⟩ d9 bw (by simp;omega) B F
 .have:i=n:=Nat.le_antisymm aH h;subst this;exact ar b ba bo
abbrev ia(l:List (Nat×aO×List Acc×aO)):Nat->Nat->Option qY:=λ_ id=>match l with
 |[(_,f,a,N)]=>some ⟨f,[],a,N⟩
 |l=>(l.find? λq=>Nat.beq q.1 id).map λq=>⟨q.2.1,[],q.2.2.1,q.2.2.2⟩
def cR{α:Type}(w:α->Nat):List α->Nat
 |[]=>0
 |a::l=>w a+2+cR w l
def pL{α}(w):∀d r:List α,cR w (d++r)=cR w d+cR w r
 |[],r=>by simp [cR]
 |a::d,r=>by simp only[jF,cR,pL w d r];omega
def wR{α}(w)(x:α):cR w [x]=w x+2:=rfl
def BC{α}(w):∀{l:List α}{x},x∈l->w x+2<=cR w l
 |a::l,x,h=>by
  rcases fS.1 h with rfl|h
  .simp only[cR];omega
  .have:=BC w h;simp only[cR];omega
def o2(k:Nat):List bM->Nat
 |[]=>0
 |s::l=>s.length+k+o2 k l
def S9(k):∀d r,o2 k (d++r)=o2 k d+o2 k r
 |[],r=>by simp [o2]
 |a::d,r=>by simp only[jF,o2,S9 k d r];omega
def E0{k}{sep:bM}(ak:sep.length<=k):∀l:List bM,(ie sep l).length<=o2 k l
 |[]=>by simp [ie]
 |[a]=>by simp [ie,o2]
 |a::b::l=>by have:=E0 ak (b::l);simp only[ie,gP,o2] at this ⊢;omega
def f1(a b:bM):fe (a++b)=fe a+fe b:=List.count_append ..
def fq(b)(h:b≠10)(s:bM):fe (b::s)=fe s:=List.count_cons_of_ne h
def e2:fe []=0:=rfl
def EU{sep:bM}(ak:fe sep=0):∀l:List bM,(∀s∈l,fe s=0)->fe (ie sep l)=0
 |[],_=>rfl
 |[a],h=>h a (by simp)
 |a::b::l,h=>by have:=EU ak (b::l) λs b5=>h s (tX _ b5);simp only[ie,f1,ak,this,h a qg]
def pA(s:k9):fe (10::s)=fe s+1:=List.count_cons_self
theorem Wn{k m}{sep:bM}(ak:sep.length<=k){l:List bM}(h:∀s∈l,s.length<=m):(ie sep l).length<=(m+k)*l.length:=by
 refine Nat.le_trans (E0 ak l) ?_;induction l with
 |nil=>simp [o2]
 |cons a l bB=>have B:=h a List.mem_cons_self;have F:=bB λs ak=>h s (List.mem_cons_of_mem _ ak);simp only[o2,List.length_cons,Nat.mul_add,Nat.mul_one];omega
def QQ{X}{t}{k}(h:k (i7 X t)):OH X t k:=by
 have DQ:D7 X t k:=by
  unfold i7 at h;cases q:cA X t with
  |true=>rw[q] at h;exact .drop q h
  |false=>rw[q] at h;exact .hZ q h
 have flat:∀a6,t=a6->cA X a6=false->k a6:=λa6 e ax=>by subst e;unfold i7 at h;rw[ax] at h;exact h
 cases t<;>first|exact DQ|(exact flat _ rfl (by simp only[cA]))
def Qx{X}:∀{l}{k},k (l.map (i7 X))->Ji X l k
 |[],k,h=>h
 |t::l,k,h=>by unfold Ji;exact QQ (Qx h)
def amW{X}{e}{k}(h:k (ip X e)):Lw X e k:=by
 cases e with
 |J t=>exact QQ (k:=λt=>k (.J t)) h
 |_=>exact h
def Fy{X}:∀{l}{k},k (l.map (ip X))->x7 X l k
 |[],k,h=>h
 |t::l,k,h=>by unfold x7;exact amW (Fy h)
def afL{X}{e}{k}(h:k (dJ (ip X) e)):Un X e k:=by
 cases e with
 |agg l=>exact Fy (k:=λl=>k (.agg l)) h
 |fn g bY bJ=>exact Fy (Fy (k:=λbJ=>k (.fn g _ bJ)) h)
 |J t=>exact QQ (k:=λt=>k (.J t)) h
 |_=>exact h
def Jl{X}:∀{l}{k},k (l.map (dJ (ip X)))->Fb X l k
 |[],k,h=>h
 |t::l,k,h=>by unfold Fb;exact afL (Jl h)
def T8:be->Bool
 |[]=>true
 |(_,.box _ _ _)::r=>T8 r
 |_=>false
def PI{X}:∀{A}{k},T8 A->k (nm X A)->xf X A k
 |[],k,_,h=>h
 |(s,.box el z (.cc l))::r,k,aB,h=>by unfold xf;exact Qx (PI (k:=λr=>k ((s,.box el z (.cc _))::r)) aB h)
 |(s,.box el z (.bE l))::r,k,aB,h=>by unfold xf;exact Fy (PI (k:=λr=>k ((s,.box el z (.bE _))::r)) aB h)
 |(s,.arr el z ab u)::r,k,aB,h=>by cases aB
def LV{a}{X:aO}{L E}{A}{k}(aB:T8 A)(h:k (L.map (dJ (ip (a::X)))) (E.map (dJ (ip (a::X)))) (nm (a::X) A)):jt (a::X) L E A k:=
 Jl (Jl (PI aB h))
def iD{X}{t}(h:cA X t=false):ip X (.J t)=.J t:=by simp only[ip,i7,h]
def s8{X}{t}(h:cA X t):ip X (.J t)=.J .undef:=by simp only[ip,i7,h]
def Qg{X}:∀{l:di},dw X l=false->l.map (i7 X)=l
 |[],_=>rfl
 |t::l,h=>by simp only[dw,Cd] at h;rw[fA,Qg h.2];simp only[i7,h.1]
def lg{X}{c n}:ip X (.J (.int c n))=.J (.int c n):=iD (by simp only[cA])
def lR{X}{b}:ip X (.J (.bool b))=.J (.bool b):=iD (by simp only[cA])
def la{X}{s}:ip X (.J (.str s))=.J (.str s):=iD (by simp only[cA])
def lD{X}:ip X (.J .undef)=.J .undef:=iD (by simp only[cA])
def OS{X}{c}:ip X (.J (.nil c))=.J (.nil c):=iD (by simp only[cA])
def li{X}{s D}:ip X (.bH s D)=.bH s D:=rfl
def k7{X}:ip X .bT=.bT:=rfl
def ah1{m}(h:n<m)(hm:m<1000):jJ 9223372036854775808 18446744073709551616 (kS 18446744073709551616 n m) 0=true:=by
 have e:kS 18446744073709551616 n m=18446744073709551616+n - m:=by show(18446744073709551616+n - m) % 18446744073709551616=_;omega
 unfold jJ;rw[e];refine dn.2 ?_;show(9223372036854775808+(18446744073709551616+n - m)) % 18446744073709551616<=(9223372036854775808+0) % 18446744073709551616;omega
def afB(h:9223372036854775808<=n)(aB:n<18446744073709551616):IR true n 0=0:=by
 have:nZ n 0=true:=by unfold nZ;refine cZ.2 ?_;show(n+9223372036854775808) % 18446744073709551616<(0+9223372036854775808) % 18446744073709551616;omega
 show Gl (nZ n 0) 0 n=0;rw[this];rfl
end Go.Tx
