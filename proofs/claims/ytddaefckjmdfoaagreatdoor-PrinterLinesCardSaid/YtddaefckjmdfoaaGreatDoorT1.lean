/- Part of the proof of PrinterLines. -/
import Derived.Test.YtddaefckjmdfoaaGreatDoorT0
import Derived.Test.YtddaefckjmdfoaaGreatDoorE10
set_option linter.all false
namespace Go.Tx
open Go Go.Ev
abbrev dO:=Nat->Option gB
def dO.le(U hF:dO):Prop:=∀a D,U a=some D->hF a=some D
def dO.le_refl(U:dO):U.le U:=λ_ _ h=>h
def dO.le_trans{U hF Ω:dO}(h:U.le hF)(b5:hF.le Ω):U.le Ω:=λa D x=>b5 a D (h a D x)
mutual
def bp(U:dO):b2->bl->Prop
 |.undef,_=>True
 |.bool b,v=>v=.bool b
 |.int c n,v=>v=.int c n
 |.str s,v=>∃n,v=.str s.length n/\cL s.length n=s
 |.nil c,v=>v=.nil c/\c≠.s
 |.aQ g ab,v=>(ab=[]/\(v=.nil .s\/(g % 2=0/\∃a i c u z,v=.slice a i 0 c u z)))\/
  ∃a i c u z am n el fa dK,v=.slice a i ab.length c u z/\U a=some (.cells am n z el fa dK)/\i+ab.length<=n/\n<=am.cap/\((u=false->ab.length<=c)/\dK=false)/\fI U z am i ab/\el=g / 2/\
   (g % 2=1->ab≠[]/\i=0/\c=0/\u=true/\fa=true/\dK=false/\n=ab.length/\0<z)
 |.gc g aF aT,v=>∃a r z am n el u dK,v=.ptr a r aT z/\U a=some (.cells am n z el u dK)/\r<n/\n<=am.cap/\aF.length=z/\cJ U aF (am.row r)/\el=g / 4/\(g % 2=1->dK=false)/\(g % 4=3->r=0/\n=1/\u=false/\0<z)
 |.fn f bY bJ,v=>∃da cC,v=.fn f da cC/\cJ U bY da/\cJ U bJ cC
 |.agg l,v=>∃aM,v=.agg l.length aM/\cJ U l aM
 |.eJ l,v=>∃aM,v=.eJ aM/\cJ U l aM
 |.op _ W,v=>v=.pw W
def cJ(U:dO):di->cv->Prop
 |[],l=>l=[]
 |t::bX,l=>∃v aM,l=v::aM/\bp U t v/\cJ U bX aM
def fI(U:dO)(z:Nat)(am:Ev.Rows)(i:Nat):gF->Prop
 |[]=>True
 |r::ab=>r.length=z/\cJ U r (am.row i)/\fI U z am (i+1) ab
end
mutual
def bp.mono{U hF}(h:U.le hF):∀(t:b2)(v:bl),bp U t v->bp hF t v
 |.undef,_,g|.bool _,_,g|.int _ _,_,g|.str _,_,g|.nil _,_,g|.op _ _,_,g=>by simp only[bp] at g ⊢;try exact g
 |.aQ _ ab,_,g=>by
  simp only[bp] at g ⊢;rcases g with g|⟨a,i,c,u,z,am,n,el,fa,dK,g1,g2,g3,g4,g6,g5,gA⟩
  .exact .inl g
  .exact .inr ⟨a,i,c,u,z,am,n,el,fa,dK,g1,h _ _ g2,g3,g4,g6,fI.mono h z am i ab g5,gA⟩
 |.gc _ aF aT,_,g=>by simp only[bp] at g ⊢;have⟨a,r,z,am,n,el,u,dK,g1,g2,g3,g4,g5,g6,gA⟩:=g;exact⟨a,r,z,am,n,el,u,dK,g1,h _ _ g2,g3,g4,g5,cJ.mono h aF _ g6,gA⟩
 |.fn _ bY bJ,_,g=>by simp only[bp] at g ⊢;have⟨da,cC,g1,g2,g3⟩:=g;exact⟨da,cC,g1,cJ.mono h bY _ g2,cJ.mono h bJ _ g3⟩
 |.agg l,_,g=>by simp only[bp] at g ⊢;have⟨aM,g1,g2⟩:=g;exact⟨aM,g1,cJ.mono h l _ g2⟩
 |.eJ l,_,g=>by simp only[bp] at g ⊢;have⟨aM,g1,g2⟩:=g;exact⟨aM,g1,cJ.mono h l _ g2⟩
def cJ.mono{U hF}(h:U.le hF):∀(t:di)(v:cv),cJ U t v->cJ hF t v
 |[],_,g=>by simpa only[cJ] using g
 |t::bX,_,g=>by simp only[cJ] at g ⊢;have⟨v,aM,g1,g2,g3⟩:=g;exact⟨v,aM,g1,bp.mono h t v g2,cJ.mono h bX aM g3⟩
def fI.mono{U hF}(h:U.le hF):∀(z:Nat)(am:Ev.Rows)(i:Nat)(ab:gF),fI U z am i ab->fI hF z am i ab
 |_,_,_,[],g=>by simp only[fI]
 |z,am,i,r::ab,g=>by simp only[fI] at g ⊢;exact⟨g.1,cJ.mono h r _ g.2.1,fI.mono h z am (i+1) ab g.2.2⟩
end
variable{L l:cv}{S:c5}{T:b4}{b c f i n z:Nat}{ae:dv}{e x:a1}{es:aO}{g nB ce ee:fO}{op:BinOp}{am:Ev.Rows}{s:k9}{t:b2}{bX:di}{v:bl}{U:dO}
def cJ.nil:cJ U [] []:=by simp only[cJ]
def cJ.cons(h:bp U t v)(b5:cJ U bX l):cJ U (t::bX) (v::l):=by simp only[cJ];exact⟨v,l,rfl,h,b5⟩
def cJ.inv(h:cJ U (t::bX) l):∃v aM,l=v::aM/\bp U t v/\cJ U bX aM:=by simpa only[cJ] using h
def cJ.length:∀{bX}{l},cJ U bX l->l.length=bX.length
 |[],_,h=>by simp only[cJ] at h;simp [h]
 |_::_,_,h=>by obtain⟨v,aM,rfl,_,h⟩:=h.inv;simp [h.length]
def cJ.append:∀{bX xu}{l m},cJ U bX l->cJ U xu m->cJ U (bX++xu) (l++m)
 |[],_,_,_,h,b5=>by simp only[cJ] at h;subst h;exact b5
 |_::_,_,_,_,h,b5=>by obtain⟨v,aM,rfl,g,h⟩:=h.inv;exact .cons g (h.append b5)
def cJ.nth:∀{bX}{l}(i),cJ U bX l->i<bX.length->∃v,l[i]?=some v/\bp U (qP bX i) v
 |[],_,i,_,aH=>by simp at aH
 |_::_,_,0,h,_=>by obtain⟨v,aM,rfl,g,h⟩:=h.inv;exact⟨v,rfl,g⟩
 |_::_,_,i+1,h,aH=>by obtain⟨v,aM,rfl,g,h⟩:=h.inv;have⟨km,B,F⟩:=h.nth i (by simpa using aH);exact⟨km,by simpa using B,F⟩
def cJ.take:∀{bX}{l}(n),cJ U bX l->cJ U (bX.take n) (l.take n)
 |_,_,0,_=>by simp;exact .nil
 |[],_,n+1,h=>by simp only[cJ] at h;subst h;simp;exact .nil
 |_::_,_,n+1,h=>by obtain⟨v,aM,rfl,g,h⟩:=h.inv;exact .cons g (h.take n)
def cJ.drop:∀{bX}{l}(n),cJ U bX l->cJ U (bX.drop n) (l.drop n)
 |_,_,0,h=>by simpa using h
 |[],_,n+1,h=>by simp only[cJ] at h;subst h;simp;exact .nil
 |_::_,_,n+1,h=>by obtain⟨v,aM,rfl,g,h⟩:=h.inv;simpa using h.drop n
def fI.get:∀{ab}{i}(M:Nat){aF:di},fI U z am i ab->ab[M]?=some aF->aF.length=z/\cJ U aF (am.row (i+M))
 |[],_,_,_,_,bb=>by simp at bb
 |r::ab,i,0,aF,h,bb=>by simp only[fI] at h;simp at bb;subst bb;exact⟨h.1,h.2.1⟩
 |r::ab,i,M+1,aF,h,bb=>by simp only[fI] at h;have:=h.2.2.get M (by simpa using bb);rwa [show i+1+M=i+(M+1) by omega] at this
def fI.of:∀{ab}{i},(∀M aF,ab[M]?=some aF->aF.length=z/\cJ U aF (am.row (i+M)))->fI U z am i ab
 |[],_,_=>by simp only[fI]
 |r::ab,i,h=>by simp only[fI];have:=h 0 r rfl;refine⟨this.1,this.2,fI.of λM aF bb=>?_⟩;have:=h (M+1) aF (by simpa using bb);rwa [show i+(M+1)=i+1+M by omega] at this
def ade:∀(l:di)(m:di),lW (m++l) m.length l.length=l
 |[],m=>by simp [lW]
 |a::l,m=>by
  have B:∀m:di,qP (m++a::l) m.length=a:=by
   intro m;induction m with
   |nil=>rfl
   |cons b m bB=>exact bB
  show qP (m++a::l) m.length::lW (m++a::l) (m.length+1) l.length=_;rw[B];have:=ade l (m++[a]);rw[BH] at this;simp only[List.singleton_append,gP,EQ] at this;rw[this]
def LG(l:di):lW l 0 l.length=l:=by have:=ade l [];simpa using this
def acs(l:di):∀(n i M),M<n->(lW l i n)[M]?=some (qP l (i+M))
 |0,_,_,h=>Y
 |n+1,i,0,_=>by simp [lW]
 |n+1,i,M+1,h=>by show(qP l i::lW l (i+1) n)[M+1]?=_;rw[s1,acs l n (i+1) M Y,show i+1+M=i+(M+1) by omega]
def Lm(l:di):∀(n i),(lW l i n).length=n
 |0,_=>rfl
 |n+1,i=>by show(lW l (i+1) n).length+1=_;rw[Lm l n]
def VI:∀(l:di)(i),i<l.length->l[i]?=some (qP l i)
 |[],_,h=>by simp at h
 |_::_,0,_=>rfl
 |_::l,i+1,h=>by rw[s1];exact VI l i (by simpa using h)
def ajV(l:di)(i n)(h:i+n<=l.length):lW l i n=(l.drop i).take n:=by
 apply IL;intro M;rcases l7 M n with bb|bb
 .rw[acs l n i M bb,List.getElem?_take_of_lt bb,Aa,VI l (i+M) Y]
 .rw[qU (by rw[Lm];exact bb),qU (by rw[jC];omega)]
def yw(a z:Nat)(ab:gF)(u:Bool)(v:bl):Prop:=
 match u,ab with
 |true,[]=>v=.nil .s
 |true,_=>v=.slice a 0 ab.length 0 true z
 |false,_=>v=.slice a 0 ab.length ab.length false z
def cN(U:dO)(Z:Nat->Nat)(A:be):a1->bl->Prop
 |.J t,v=>bp U t v
 |.bT,v=>v=.nil .s
 |.iy,v=>v=.undef
 |.bH s aT,v=>∀el z aF,look A s=some (.box el z aF)->v=.ptr (Z s) 0 aT z
 |.bQ s,v=>∀el z ab u,look A s=some (.arr el z ab u)->yw (Z s) z ab u v
 |.fF s r aT,v=>∀el z ab u,look A s=some (.arr el z ab u)->v=.ptr (Z s) r aT z
 |.agg _,_=>False
 |.fn _ _ _,_=>False
def fl(U:dO)(Z:Nat->Nat)(A:be):bG->cv->Prop
 |[],l=>l=[]
 |e::es,l=>∃v aM,l=v::aM/\cN U Z A e v/\fl U Z A es aM
def cd(U:dO)(Z:Nat->Nat)(A:be):a1->bl->Prop
 |.agg l,v=>∃aM,v=.agg l.length aM/\fl U Z A l aM
 |.fn f bY bJ,v=>∃da cC,v=.fn f da cC/\fl U Z A bY da/\fl U Z A bJ cC
 |e,v=>cN U Z A e v
def eW(U:dO)(Z:Nat->Nat)(A:be):bG->cv->Prop
 |[],l=>l=[]
 |e::es,l=>∃v aM,l=v::aM/\cd U Z A e v/\eW U Z A es aM
def eS.real:eS->Bool
 |.arr _ _ [] true=>false
 |_=>true
def n6(U:dO)(Z:Nat->Nat)(A:be)(z:Nat):ul->cv->Prop
 |.cc l,r=>l.length=z/\cJ U l r
 |.bE l,r=>l.length=z/\fl U Z A l r
def ox(U:dO)(Z:Nat->Nat)(A:be)(H:bd)(s:Nat):eS->Prop
 |.box el z aF=>∃am,H.get (Z s)=.cells am 1 z el false false/\1<=am.cap/\0<z/\n6 U Z A z aF (am.row 0)
 |.arr el z ab u=>eS.real (.arr el z ab u)=true->∃am,H.get (Z s)=.cells am ab.length z el u false/\ab.length<=am.cap/\0<z/\fI U z am 0 ab
structure bL(U:dO)(Z:Nat->Nat)(A:be)(H:bd):Prop where
 gf:∀a D,U a=some D->H.get a=D/\a<H.next
 lt:∀s D,look A s=some D->D.real=true->Z s<H.next/\U (Z s)=none
 inj:∀s cP D bs,look A s=some D->look A cP=some bs->D.real=true->bs.real=true->Z s=Z cP->s=cP
 obj:∀s D,look A s=some D->ox U Z A H s D
def l1:gB->Nat
 |.cells _ _ _ el _ _=>el
 |_=>0
def f6(X:aO)(s:Nat):eS->Bool
 |.box _ _ _=>match X with
  |0::l=>cr s l
  |_=>false
 |_=>false
def JA{X}{x}(h:cr x (ev X)):cr x X:=by
 cases X with
 |nil=>exact h
 |cons a l=>cases a with
  |zero=>cases h
  |succ a=>exact h
def afG{X}{x}(h:cr x X=false):cr x (ev X)=false:=by
 cases q:cr x (ev X) with
 |false=>rfl
 |true=>rw[JA q] at h;cases h
def ajk{X}{s}{D}(h:f6 X s D):ev X=[]:=by
 cases D with
 |box el z aF=>cases X with
  |nil=>cases h
  |cons a l=>cases a with
   |zero=>rfl
   |succ a=>cases h
 |arr=>cases h
def Bl{X}{s}{f}{D}:f6 X s (gx f D)=f6 X s D:=by
 cases D with
 |box el z aF=>cases aF<;>rfl
 |arr=>rfl
def NV{X er}{s}{D}:f6 X s (ob er D)=f6 X s D:=by
 cases D with
 |box el z aF=>cases aF<;>rfl
 |arr=>rfl
structure eQ(X:aO)(U:dO)(Z:Nat->Nat)(A:be)(H:bd)(bh:dO)(bV:Nat->Nat)(bw:be)(aq:bd):Prop where
 le:∀a D,U a=some D->cr (l1 D) (ev X)=false->bh a=some D
 next:H.next<=aq.next
 same:∀a,a<H.next->(∀s D,look A s=some D->D.real=true->f6 X s D=false->Z s≠a)->(∀D,U a=some D->cr (l1 D) (ev X)=false)->aq.get a=H.get a
 new:∀a D,bh a=some D->U a=some D\/H.next<=a\/(∃s D,look A s=some D/\D.real=true/\Z s=a)\/∃ei,U a=some ei/\cr (l1 ei) (ev X)=true
 eO:∀s D,look bw s=some D->D.real=true->H.next<=bV s\/∃ij ei,look A ij=some ei/\ei.real=true/\Z ij=bV s/\(f6 X ij ei=true->f6 X s D=true)
def eQ.refl{X}(U)(Z)(A)(H):eQ X U Z A H U Z A H:=
 ⟨λ_ _ h _=>h,ez _,λ_ _ _ _=>rfl,λ_ _ h=>.inl h,λs D h b5=>.inr ⟨s,D,h,b5,rfl,λh=>h⟩⟩
def eQ.iz{X}{U iv}{Z jz}{A oC}{H ct}(h:eQ X U Z A H iv jz oC ct):∀a D,U a=some D->cr (l1 D) X=false->iv a=some D:=λa D ay I=>h.le a D ay (afG I)
def eQ.trans{X}{U iv nO}{Z jz mx}{A oC nl}{H ct hM}(h:eQ X U Z A H iv jz oC ct)(b5:eQ X iv jz oC ct nO mx nl hM):eQ X U Z A H nO mx nl hM where
 le a D ay I:=b5.le a D (h.le a D ay I) I
 next:=mq h.next b5.next
 same a aD ak I:=by
  rw[b5.same a (nV aD h.next) (λs D K ad aI ar=>?_) (λD ay=>?_),h.same a aD ak I]
  .rcases h.eO s D K ad with g|⟨ij,ei,g1,g2,g3,g4⟩
   .omega
   .refine ak ij ei g1 g2 ?_ (g3.trans ar);cases q:f6 X ij ei with
    |false=>rfl
    |true=>rw[g4 q] at aI;cases aI
  .rcases h.new a D ay with g|g|⟨s,bs,g1,g2,g3⟩|⟨ei,g1,g2⟩
   .exact I D g
   .omega
   .cases q:f6 X s bs with
    |false=>exact absurd g3 (ak s bs g1 g2 q)
    |true=>rw[ajk q];rfl
   .rw[I ei g1] at g2;cases g2
 new a D ay:=by
  rcases b5.new a D ay with g|g|⟨s,bs,g1,g2,g3⟩|⟨cQ,g1,g2⟩
  .exact h.new a D g
  .exact .inr (.inl (mq h.next g))
  .rcases h.eO s bs g1 g2 with g|⟨ij,ei,bq,aS,bU,_⟩
   .exact .inr (.inl Y)
   .exact .inr (.inr (.inl ⟨ij,ei,bq,aS,bU.trans g3⟩))
  .rcases h.new a cQ g1 with g|g|g|g
   .exact .inr (.inr (.inr ⟨cQ,g,g2⟩))
   .exact .inr (.inl g)
   .exact .inr (.inr (.inl g))
   .exact .inr (.inr (.inr g))
 eO s D K ad:=by
  rcases b5.eO s D K ad with g|⟨eK,cQ,g1,g2,g3,g4⟩
  .exact .inl (mq h.next g)
  .rcases h.eO eK cQ g1 g2 with g|⟨ij,ei,bq,aS,bU,cU⟩
   .exact .inl Y
   .exact .inr ⟨ij,ei,bq,aS,bU.trans g3,λh=>g4 (cU h)⟩
section
variable{U:dO}{Z:Nat->Nat}{A:be}
def cd.J:cd U Z A (.J t) v↔bp U t v:=Iff.rfl
def eW.nth:∀{es}{l}(i),eW U Z A es l->cd U Z A (i5 es i) (l.getD i .any)
 |[],_,i,_=>by simp only[i5,cd,cN,bp]
 |_::_,_,0,h=>by simp only[eW] at h;obtain⟨v,aM,rfl,g,h⟩:=h;exact g
 |_::_,_,i+1,h=>by simp only[eW] at h;obtain⟨v,aM,rfl,g,h⟩:=h;exact eW.nth i h
def YX:∀{v}{t},ui v=some t->bp U t v
 |.bool b,t,h=>by simp only[ui,Option.some.injEq] at h;subst h;simp only[bp]
 |.int c n,t,h=>by simp only[ui,Option.some.injEq] at h;subst h;simp only[bp]
 |.str l n,t,h=>by
  have e:∀l n,ui.CS l n=cL l n:=by
   intro l;induction l with
   |zero=>intro n;rfl
   |succ l bB=>intro n;show UInt8.ofNat (n % 256)::ui.CS l (n / 256)=UInt8.ofNat (n % 256)::cL l (n / 256);rw[bB]
  simp only[ui,Option.some.injEq,e] at h;subst h;simp only[bp,pP];exact⟨n,rfl,rfl⟩
 |.nil c,t,h=>by cases c<;>simp only[ui,Option.some.injEq,reduceCtorEq] at h<;>(subst h;simp [bp])
 |.undef,_,h|.ptr ..,_,h|.slice ..,_,h|.map _,_,h|.fn ..,_,h|.iface ..,_,h|.agg ..,_,h|.eJ _,_,h|.any,_,h|.p1 ..,_,h|.pw _,_,h=>by simp [ui] at h
def Sq(v):cN U Z A (py v) v:=by
 unfold py;split
 .simp only[cN]
 .split
  .rename_i t h;exact YX h
  .simp only[cN,bp]
def Oi:∀l,fl U Z A (l.map py) l
 |[]=>rfl
 |v::l=>⟨v,l,rfl,Sq v,Oi l⟩
def fl.length:∀{es}{l},fl U Z A es l->l.length=es.length
 |[],_,h=>by simp only[fl] at h;simp [h]
 |_::_,_,h=>by simp only[fl] at h;obtain⟨v,aM,rfl,_,h⟩:=h;simp [h.length]
def akF(v):cd U Z A (py v) v:=by have:=Sq (U:=U) (Z:=Z) (A:=A) v;revert this;generalize py v=e;intro h;cases e<;>first|exact h|exact h.elim
def abr{v}(h:mr v=some (.agg n l)):n=l.length:=by
 unfold mr at h;split at h
 .split at h
  .cases h;rfl
  .cases h
 .split at h
  .cases h
  .cases h
 .rename_i v _ _;unfold Hw at h;split at h<;>first|(cases h;done)|(split at h<;>cases h)
def aha{v a}(h:mr v=some a):cd U Z A (BO a) a:=by
 unfold BO;split
 .rename_i n l;have:=abr h;subst this;exact⟨l,by simp,Oi l⟩
 .exact akF _
def gp(U:dO)(Z:Nat->Nat)(A:be)(n:Nat)(E:bG)(T:b4):Prop:=n<=64/\E.length=n/\∀i,i<n->cd U Z A (i5 E i) (T.slot i)
def TD{t l}(h:i2 t l=some i):i<l.length:=(jb.1 (Nj h)).1
def kD(cn:eW U Z A S.L L)(bR:gp U Z A es.length S.E T)(x):cd U Z A (dN es ae S x) ((db es ae x).g L T):=by
 unfold dN db;cases x with
 |tmp t=>
  simp only;unfold ki;cases B:jp t ae with
  |some i=>simp only;rw[CN];exact cn.nth i
  |none=>
   simp only;cases F:i2 t es with
   |some s=>simp only;have ak:=TD F;rw[wW (show s<64 by have:=bR.1;omega)];simp only;rw[Km];exact bR.2.2 s ak
   |none=>simp only[cd,cN,bp]
 |const v=>
  simp only;cases h:mr v with
  |some a=>exact aha h
  |none=>simp only[cd,cN,bp]
 |func f=>exact⟨[],[],rfl,.nil,.nil⟩
 |global g=>simp only[cd,cN,bp]
end
def kZ(f:(bl->Bool)->Bool)(P:bl->Prop):Prop:=∃v,(∀k,f k=k v)/\P v
def i9{α th}{a:Option α}{f:α->Option th}{r}(h:cw a f=some r):∃x,a=some x/\f x=some r:=by
 cases a with
 |none=>cases h
 |some x=>exact⟨x,rfl,h⟩
def rU{α gd th}{a:Option α}{b:Option gd}{f:α->gd->Option th}{r}(h:c7 a b f=some r):∃x y,a=some x/\b=some y/\f x y=some r:=by
 cases a with
 |none=>cases h
 |some x=>cases b with
  |none=>cases h
  |some y=>exact⟨x,y,rfl,rfl,h⟩
def af1{c}{t}(h:isInt c t):t=.int c (BW t):=by
 cases t<;>first|(cases h;done)|skip
 simp only[isInt] at h;rw[cF.1 h];rfl
def al4{t}(h:QA t):t=.str (TO t):=by cases t<;>first|(cases h;done)|rfl
def ann{t}(h:Qp t):t=.bool (Uz t):=by cases t<;>first|(cases h;done)|rfl
def Ek(h:rv t):t=.aQ (wn t) (jl t):=by cases t<;>first|(cases h;done)|rfl
def Kr(h:se t):t=.gc (nJ t) (t2 t) (vR t):=by cases t<;>first|(cases h;done)|rfl
def I6(h:yj n t):t=.agg (qF t)/\(qF t).length=n:=by
 cases t<;>first|(cases h;done)|skip
 exact⟨rfl,cF.1 h⟩
def ahg(h:acX n t):t=.eJ (QT t)/\n<(QT t).length:=by
 cases t<;>first|(cases h;done)|skip
 exact⟨rfl,cZ.1 h⟩
def ai4{t}(h:V7 t):∃c,t=.int c (BW t)/\3<=c:=by
 cases t<;>first|(cases h;done)|skip
 exact⟨_,rfl,dn.1 h⟩
def akE{t}(h:aeF t):∃c,t=.int c (BW t):=by cases t<;>first|(cases h;done)|exact⟨_,rfl⟩
def gJ{α:Type}{b:Bool}{x:α}{r:α}(h:(match b with|true=>some x|false=>none)=some r):b=true/\x=r:=by
 cases b
 .cases h
 .cases h;exact⟨rfl,rfl⟩
def ag4{c n}{v}(h:ro c v=some n):v=.J (.int c n):=by
 unfold ro at h;split at h
 .obtain⟨q,rfl⟩:=gJ h;rw[<-af1 q]
 .cases h
def TP{s}{v}(h:uM v=some s):v=.J (.str s):=by
 unfold uM at h;split at h
 .obtain⟨q,rfl⟩:=gJ h;rw[<-al4 q]
 .cases h
def RS{b}{v}(h:nd v=some b):v=.J (.bool b):=by
 unfold nd at h;split at h
 .obtain⟨q,rfl⟩:=gJ h;rw[<-ann q]
 .cases h
def aey{n}{v}(h:LN v=some n):∃c,v=.J (.int c n):=by
 unfold LN at h;split at h
 .obtain⟨q,rfl⟩:=gJ h;have⟨c,e⟩:=akE q;exact⟨c,by rw[<-e]⟩
 .cases h
def afY{v}{b n}(h:idx v b=some n):∃c,v=.J (.int c n)/\3<=c/\n<b:=by
 unfold idx at h;split at h
 .obtain⟨q,rfl⟩:=gJ h;simp only[c6] at q;have⟨c,e,aw⟩:=ai4 q.1;exact⟨c,by rw[<-e],aw,cZ.1 q.2⟩
 .cases h
def Qh(h:3<=c)(aB:n<b)(k):od (.int c n) b k=k n:=by show a7 (Nat.ble 3 c) (a7 (Nat.blt n b) (k n) false) false=_;rw[wO h,wW aB];rfl
section
variable{U:dO}{Z:Nat->Nat}{A:be}
def aoq{a}(h:yi op c a b=some t):kZ (λk=>(k4 op c (cp c) (dL c)).f a b k) λv=>bp U t v:=by
 have Yr:∀(g:Nat->Nat->Nat),(match Nat.blt a (dL c)&&Nat.blt b (dL c)&& !Nat.beq b 0 with|true=>some (b2.int c (g a b))|false=>none)=some t->
  kZ (λk=>a7 (Nat.blt a (dL c)) (a7 (Nat.blt b (dL c)) (a7 (Nat.beq b 0) false (e5 (g a b) λr=>k (.int c r))) false) false) λv=>bp U t v:=by
  intro g h
  cases bq:Nat.blt a (dL c)<;>cases aS:Nat.blt b (dL c)<;>cases bU:Nat.beq b 0<;>rw[bq,aS,bU] at h<;>first|(cases h;done)|skip
  cases h
  exact⟨.int c (g a b),λk=>by simp only[fz,mF,gT],by simp only[bp]⟩
 have NY:∀(x y:Bool),(match Nat.beq (dL c) (cp c) with|true=>some (b2.bool x)|false=>some (b2.bool y))=some t->
  kZ (λk=>(match Nat.beq (dL c) (cp c) with|true=>(⟨λ_ _ k=>lX x λr=>k (.bool r)⟩:TT)|false=>⟨λ_ _ k=>lX y λr=>k (.bool r)⟩).f a b k) λv=>bp U t v:=by
  intro x y h
  cases q:Nat.beq (dL c) (cp c)<;>rw[q] at h<;>cases h
  .exact⟨.bool y,λk=>by simp only[ri],by simp only[bp]⟩
  .exact⟨.bool x,λk=>by simp only[ri],by simp only[bp]⟩
 unfold yi at h;rw[aqb,apN,aoO] at h;unfold k4;cases op with
 |add=>cases h;exact⟨.int c (nj (cp c) a b),λk=>by simp only[gT],by simp only[bp]⟩
 |sub=>cases h;exact⟨.int c (Ov (cp c) a b),λk=>by simp only[gT],by simp only[bp]⟩
 |mul=>cases h;exact⟨.int c (Ht (cp c) a b),λk=>by simp only[gT],by simp only[bp]⟩
 |quo=>exact Yr Nat.div h
 |rem=>exact Yr Nat.mod h
 |and=>cases h;exact⟨.int c (Nat.land a b),λk=>by simp only[gT],by simp only[bp]⟩
 |or=>cases h;exact⟨.int c (Nat.lor a b),λk=>by simp only[gT],by simp only[bp]⟩
 |xor=>cases h;exact⟨.int c (Nat.xor a b),λk=>by simp only[gT],by simp only[bp]⟩
 |eql=>cases h;exact⟨.bool (Nat.beq a b),λk=>by simp only[ri],by simp only[bp]⟩
 |neq=>cases h;exact⟨.bool (!Nat.beq a b),λk=>by cases e:Nat.beq a b<;>simp only[e,fz,mF,xp,Aq],by simp only[bp]⟩
 |lss=>have⟨v,B,F⟩:=NY _ _ h;refine⟨v,λk=>(Eq.trans ?_ (B k)),F⟩;cases Nat.beq (dL c) (cp c)<;>simp only
 |leq=>have⟨v,B,F⟩:=NY _ _ h;refine⟨v,λk=>(Eq.trans ?_ (B k)),F⟩;cases Nat.beq (dL c) (cp c)<;>simp only
 |gtr=>have⟨v,B,F⟩:=NY _ _ h;refine⟨v,λk=>(Eq.trans ?_ (B k)),F⟩;cases Nat.beq (dL c) (cp c)<;>simp only
 |geq=>have⟨v,B,F⟩:=NY _ _ h;refine⟨v,λk=>(Eq.trans ?_ (B k)),F⟩;cases Nat.beq (dL c) (cp c)<;>simp only
 |_=>cases h
def aiE{cP}(h:Mv op s cP=some t)(I:bp U (.str s) (ce.g L T))(ap:bp U (.str cP) (ee.g L T)):kZ ((x6 op ce ee).f L T) λv=>bp U t v:=by
 have⟨x⟩:=ce;have⟨y⟩:=ee;simp only[bp] at I ap;have⟨n,Dn,aZ⟩:=I;have⟨cx,u6,aN⟩:=ap;have heq:zA s.length n cP.length cx=m7 s cP:=by rw[Bool.eq_iff_iff,Yz,aZ,aN];unfold m7;rw[xe]
 have aV:A9 s.length n cP.length cx=qH s cP:=by rw[Ae,aZ,aN];rfl
 unfold Mv at h;unfold x6;cases op<;>simp only at h ⊢ <;>first|(cases h;done)|skip
 case add=>
  cases q:Nat.ble (s.length+cP.length) OB<;>rw[q] at h<;>cases h
  refine⟨.str (s.length+cP.length) (n % jO s.length+cx*jO s.length),λk=>?_,?_⟩
  .have q:Nat.ble (Nat.add s.length cP.length) 1152921504606846976=true:=q;simp only[Dn,u6,vO,q,fz,gT];rfl
  .simp only[bp,gP];exact⟨_,rfl,by rw[Vi,aZ,aN]⟩
 case eql=>cases h;refine⟨.bool (m7 s cP),λk=>?_,by simp only[bp]⟩;simp only[Dn,u6,vO,ri,heq]
 case neq=>cases h;refine⟨.bool (!m7 s cP),λk=>?_,by simp only[bp]⟩;simp only[Dn,u6,vO,heq];cases m7 s cP<;>rfl
 case lss=>cases h;refine⟨.bool (qH s cP),λk=>?_,by simp only[bp]⟩;simp only[Dn,u6,vO,ri,aV]
 case leq=>cases h;refine⟨.bool (qH s cP||m7 s cP),λk=>?_,by simp only[bp]⟩;simp only[Dn,u6,vO,ri,aV,heq];cases qH s cP<;>rfl
 case gtr=>cases h;refine⟨.bool (!qH s cP&& !m7 s cP),λk=>?_,by simp only[bp]⟩;simp only[Dn,u6,vO,aV,heq];cases qH s cP<;>cases m7 s cP<;>rfl
 case geq=>cases h;refine⟨.bool (!qH s cP),λk=>?_,by simp only[bp]⟩;simp only[Dn,u6,vO,aV];cases qH s cP<;>rfl
def aqq{a b}(h:Nq op a b=some t)(I:ce.g L T=.bool a)(ap:ee.g L T=.bool b):kZ ((y2 op ce ee).f L T) λv=>bp U t v:=by
 have⟨x⟩:=ce;have⟨y⟩:=ee;simp only at I ap;unfold Nq at h;unfold y2;cases op<;>simp only at h ⊢ <;>first|(cases h;done)|skip
 case eql=>cases h;refine⟨.bool (a==b),λk=>?_,by simp only[bp]⟩;simp only[I,ap,TE];cases a<;>cases b<;>rfl
 case neq=>cases h;refine⟨.bool (a !=b),λk=>?_,by simp only[bp]⟩;simp only[I,ap,TE];cases a<;>cases b<;>rfl
end
section
variable{U:dO}{Z:Nat->Nat}{A:be}{H:bd}
def DT{s}(h:tc A s):∃el z aF,look A s=some (.box el z aF):=by
 unfold tc at h;split at h
 .rename_i el z aF e;exact⟨el,z,aF,e⟩
 .cases h
def B6{s}(h:nS A s):∃el z ab u,look A s=some (.arr el z ab u):=by
 unfold nS at h;split at h
 .rename_i el z ab u e;exact⟨el,z,ab,u,e⟩
 .cases h
def MJ{c:oJ}{e:a1}{b:Bool}{v:bl}(h:isNil A c e=some b)(au:cd U Z A e v)(eq:Bool)(g:fO)(L:cv)(T:b4)(br:g.g L T=v):∀k,(uA eq c g).f L T k=k (.bool (match eq with|true=>b|false=> !b)):=by
 have⟨g⟩:=g;simp only at br;intro k;unfold isNil at h;have lC:∀(b:Bool),((c=.N/\b=false/\∃a r s z,v=.ptr a r s z)\/(c=.f/\b=false/\∃f x y,v=.fn f x y)\/(b=true/\v=.nil c))->
  (uA eq c ⟨g⟩).f L T k=k (.bool (match eq with|true=>b|false=> !b)):=by
  rintro b (⟨rfl,rfl,a,r,s,z,rfl⟩|⟨rfl,rfl,f,x,y,rfl⟩|⟨rfl,rfl⟩)
  .cases eq<;>simp only[uA,br]<;>rfl
  .cases eq<;>simp only[uA,br]<;>rfl
  .cases eq<;>cases c<;>simp only[uA,br]<;>rfl
 split at h
 .rename_i fo;split at h
  .rename_i q;cases h;have q:c=fo:=by simpa using q
   subst q;simp only[cd,cN,bp] at au;exact lC true (.inr (.inr ⟨rfl,au.1⟩))
  .cases h
 .split at h
  .rename_i q;cases h;have q:c=.N:=by simpa using q
   simp only[cd,cN,bp] at au;have⟨a,r,z,_,_,_,_,_,e,_⟩:=au;exact lC false (.inl ⟨q,rfl,a,r,_,z,e⟩)
  .cases h
 .split at h
  .rename_i q;cases h;have q:c=.f:=by simpa using q
   simp only[cd,cN,bp] at au;have⟨da,cC,e,_⟩:=au;exact lC false (.inr (.inl ⟨q,rfl,_,da,cC,e⟩))
  .cases h
 .split at h
  .rename_i q;cases h;have q:c=.f:=by simpa using q
   have⟨da,cC,e,_⟩:=au;exact lC false (.inr (.inl ⟨q,rfl,_,da,cC,e⟩))
  .cases h
 .split at h
  .rename_i q;cases h;simp only[c6,oI] at q;have⟨el,z,aF,e⟩:=DT q.2;simp only[cd,cN] at au;exact lC false (.inl ⟨q.1,rfl,_,_,_,_,au _ _ _ e⟩)
  .cases h
 .split at h
  .rename_i q;cases h;simp only[c6,oI] at q;have⟨el,z,ab,u,e⟩:=B6 q.2;simp only[cd,cN] at au;exact lC false (.inl ⟨q.1,rfl,_,_,_,_,au _ _ _ _ e⟩)
  .cases h
 .cases h
def cN.px(h:cN U Z A e v):cd U Z A e v:=by cases e<;>first|exact h|exact h.elim
def cJ.qG:∀{l}{aM},cJ U l aM->fl U Z A (l.map .J) aM
 |[],_,h=>by simp only[cJ] at h;subst h;rfl
 |t::l,_,h=>by obtain⟨v,aM,rfl,B,F⟩:=h.inv;exact⟨v,aM,rfl,B,F.qG⟩
def fl.append:∀{a b}{l m},fl U Z A a l->fl U Z A b m->fl U Z A (a++b) (l++m)
 |[],_,_,_,h,b5=>by simp only[fl] at h;subst h;exact b5
 |e::a,_,_,_,h,b5=>by obtain⟨v,aM,rfl,g,h⟩:=h;exact⟨v,_,rfl,g,fl.append h b5⟩
def fl.take:∀{a}{l}(n),fl U Z A a l->fl U Z A (a.take n) (l.take n)
 |_,_,0,_=>by simp;rfl
 |[],_,n+1,h=>by simp only[fl] at h;subst h;simp;rfl
 |e::a,_,n+1,h=>by obtain⟨v,aM,rfl,g,h⟩:=h;exact⟨v,_,rfl,g,fl.take n h⟩
def fl.drop:∀{a}{l}(n),fl U Z A a l->fl U Z A (a.drop n) (l.drop n)
 |_,_,0,h=>by simpa using h
 |[],_,n+1,h=>by simp only[fl] at h;subst h;simp;rfl
 |e::a,_,n+1,h=>by obtain⟨v,aM,rfl,g,h⟩:=h;simpa using fl.drop n h
def fl.nth:∀{a}{l}(i),fl U Z A a l->i<a.length->∃v,l[i]?=some v/\cN U Z A (i5 a i) v
 |[],_,_,_,aH=>by simp at aH
 |e::a,_,0,h,_=>by obtain⟨v,aM,rfl,g,h⟩:=h;exact⟨v,rfl,g⟩
 |e::a,_,i+1,h,aH=>by obtain⟨v,aM,rfl,g,h⟩:=h;have⟨w,B,F⟩:=fl.nth i h (by simpa using aH);exact⟨w,by simpa using B,F⟩
def zy{α}{l:List α}{n}(h:fQ l n):l.length=n:=cF.1 h
def wo{α}:∀(l:List α)(n)(k:List α->Bool),n<=l.length->pc l n k=k (l.drop n)
 |[],0,_,_=>rfl
 |[],n+1,_,h=>by simp at h
 |a::l,0,_,_=>rfl
 |a::l,n+1,k,h=>wo l n k (by simpa using h)
def xJ{α}:∀(l:List α)(n)(k:List α->Bool),n<=l.length->rN l n k=k (l.take n)
 |[],0,_,_=>rfl
 |[],n+1,_,h=>by simp at h
 |a::l,0,_,_=>rfl
 |a::l,n+1,k,h=>xJ l n (λr=>k (a::r)) (by simpa using h)
def NB(h:l[i]?=some v)(k):vy l i k=k v:=by
 have aH:=(jb.1 h).1;unfold vy;rw[wo _ _ _ Y];have:l.drop i=v::l.drop (i+1):=by rw[y9 aH];congr 1;exact(jb.1 h).2
 rw[this];rfl
def cN.cell{e:a1}{v:bl}(h:cN U Z A e v)(av:match e with|.J (.agg _)=>False|.J (.eJ _)=>False|.J .undef=>False|.iy=>False|.bH s _=>tc A s=true|.bQ s=>nS A s=true|.fF s _ _=>nS A s=true|_=>True)(cq:Bool)(jL:Nat->cv->Bool):q6 v cq jL=cq:=by
 cases e with
 |J t=>
  cases t<;>simp only[cN,bp] at h av<;>try exact av.elim
  .subst h;rfl
  .subst h;rfl
  .obtain⟨_,rfl,_⟩:=h;rfl
  .obtain⟨rfl,_⟩:=h;rfl
  .rcases h with⟨_,h|⟨_,_,_,_,_,_,h⟩⟩|⟨_,_,_,_,_,_,_,_,_,_,h,_⟩<;>(subst h;rfl)
  .have⟨_,_,_,_,_,_,_,_,h,_⟩:=h;subst h;rfl
  .obtain⟨_,_,rfl,_⟩:=h;rfl
  .subst h;rfl
 |bT=>simp only[cN] at h;subst h;rfl
 |iy=>exact av.elim
 |bH s aT=>have⟨el,z,aF,e⟩:=DT av;simp only[cN] at h;rw[h _ _ _ e];rfl
 |bQ s=>have⟨el,z,ab,u,e⟩:=B6 av;simp only[cN] at h;have h:=h _ _ _ _ e;unfold yw at h;split at h<;>(rw[h];rfl)
 |fF s r aT=>have⟨el,z,ab,u,e⟩:=B6 av;simp only[cN] at h;rw[h _ _ _ _ e];rfl
 |agg l=>exact h.elim
 |fn f x y=>exact h.elim
end
section
variable{U:dO}{Z:Nat->Nat}{A:be}
@[simp] def Ar(a r s z)(k):sA (.ptr a r s z) k=k a r s z:=rfl
def Hu(h:pJ t)(au:bp U t v)(cq)(jL:Nat->cv->Bool):q6 v cq jL=cq:=
 cN.cell (U:=U) (Z:=λ_=>0) (A:=[]) (e:=.J t) au (by cases t<;>first|(cases h;done)|trivial) cq jL
def Hc{c}(h:ns A e n=some c)(au:cd U Z A e v):∃l,(∀k,jR v n k=k l)/\fl U Z A c l/\l.length=n:=by
 have one:∀ci:a1,cN U Z A ci v->(∀(cq:Bool)(jL:Nat->cv->Bool),q6 v cq jL=cq)->n=1->c=[ci]->∃l,(∀k,jR v n k=k l)/\fl U Z A c l/\l.length=n:=by rintro ci B F rfl rfl;refine⟨[v],λk=>?_,⟨v,[],rfl,B,rfl⟩,rfl⟩;unfold jR;rw[F];rfl
 unfold ns at h;split at h
 .obtain⟨q,rfl⟩:=gJ h;obtain⟨aM,rfl,g⟩:=au;have q:=zy q;subst q;refine⟨aM,λk=>?_,g,g.length⟩;exact D0 _ _ _
 .obtain⟨q,rfl⟩:=gJ h;exact one (.J _) au (Hu q au) rfl rfl
 .rename_i t n _;obtain⟨q,rfl⟩:=gJ h;have⟨e,q⟩:=I6 q;subst q;rw[cd.J,e] at au;simp only[bp] at au;obtain⟨aM,rfl,g⟩:=au;rw[LG];exact⟨aM,λk=>D0 _ _ _,g.qG,g.length⟩
 .cases h;exact one .bT au (λ_ _=>cN.cell (U:=U) (Z:=Z) (A:=A) (e:=.bT) au trivial _ _) rfl rfl
 .rename_i s aT;obtain⟨q,rfl⟩:=gJ h;exact one (.bH s aT) au (λ_ _=>cN.cell (U:=U) (Z:=Z) (A:=A) (e:=.bH s aT) au q _ _) rfl rfl
 .rename_i s;obtain⟨q,rfl⟩:=gJ h;exact one (.bQ s) au (λ_ _=>cN.cell (U:=U) (Z:=Z) (A:=A) (e:=.bQ s) au q _ _) rfl rfl
 .cases h
section
variable{P:dy}
def alD{aT l aM}{t}(h:A7 P t aT l=some e)(K:fl U Z A l aM):kZ (λk=>(wH P t aT).f aM k) λv=>cd U Z A e v:=by
 unfold A7 at h;unfold wH;cases B:rp P t with
 |none=>rw[B] at h;cases h
 |some b=>cases F:eV P t with
  |none=>rw[B,F] at h;cases b<;>cases h
  |some n=>
   rw[B,F] at h;cases b with
   |true=>
    obtain⟨q,rfl⟩:=gJ h;have q:=dn.1 q;have fy:=K.length;refine⟨.agg n ((aM.drop aT).take n),λk=>?_,((aM.drop aT).take n),?_,(K.drop aT).take n⟩
    .show pc aM aT (λr=>rN r n λr=>k (.agg n r))=_;rw[wo _ _ _ Y,xJ _ _ _ (by rw[lu];omega)]
    .rw[jC,lu,ws Y]
   |false=>obtain⟨q,rfl⟩:=gJ h;have q:=cZ.1 q;have⟨v,g1,g2⟩:=K.nth aT q;exact⟨v,λk=>NB g1 k,g2.px⟩
def aiW{t}(h:Kt P t f x=some e)(I:cd U Z A x (g.g L T)):kZ ((Cu P t f g).f L T) λv=>cd U Z A e v:=by
 have⟨g⟩:=g;simp only at I;unfold Kt at h;unfold Cu;cases B:P.ek t with
 |none=>rw[B] at h;cases h
 |some d=>
  rw[B] at h;cases d<;>try(cases h;done)
  rename_i cz;simp only at h ⊢;cases F:cz[f]? with
  |none=>rw[F] at h;cases h
  |some fd=>
   rw[F] at h;simp only at h ⊢;have dC:∀(l:bG)(aM:cv)(m:Nat),g L T=.agg m aM->fl U Z A l aM->A7 P fd.type fd.offset l=some e->
    kZ ((match wH P fd.type fd.offset with|⟨N⟩=>(⟨λL T k=>vA (g L T) λ_ l=>N l k⟩:nn)).f L T) λv=>cd U Z A e v:=by
    intro l aM m ah aE bt
    have⟨v,g1,g2⟩:=alD bt aE
    refine⟨v,λk=>?_,g2⟩
    rw[<-g1 k]
    show vA (g L T) _=_
    rw[ah];rfl
   split at h
   .rename_i l;have⟨aM,aZ,aN⟩:=I;exact dC l aM _ aZ aN h
   .rename_i a6;split at h
    .rename_i n aB;cases q:yj n a6<;>rw[q] at h<;>try(cases h;done)
     have⟨aZ,q⟩:=I6 q;subst q;rw[cd.J,aZ] at I;simp only[bp] at I;have⟨aM,aN,c9⟩:=I;simp only[LG] at h;exact dC _ aM _ aN c9.qG h
    .cases h
   .cases h
def aqf{t}(h:Gy P A t f x=some e)(I:cd U Z A x (g.g L T)):kZ ((Bu P t f g).f L T) λv=>cd U Z A e v:=by
 have⟨g⟩:=g;simp only at I;unfold Gy at h;unfold Bu;cases B:P.ek t with
 |none=>rw[B] at h;cases h
 |some d=>
  rw[B] at h;cases d<;>try(cases h;done)
  rename_i cz;simp only at h ⊢;cases F:cz[f]? with
  |none=>rw[F] at h;cases h
  |some fd=>
   rw[F] at h;simp only at h ⊢;cases ah:eV P fd.type with
   |none=>rw[ah] at h;cases h
   |some m=>
    rw[ah] at h;cases m with
    |zero=>cases h
    |succ m=>
     simp only at h ⊢;have dC:∀(a r s z:Nat),g L T=.ptr a r s z->kZ (λk=>sA (g L T) λa r s z=>e5 (Nat.add s fd.offset) λs=>k (.ptr a r s z)) λv=>v=.ptr a r (s+fd.offset) z:=by intro a r s z aZ;exact⟨_,λk=>by simp only[aZ,Ar,gT];rfl,rfl⟩
     cases x with
     |bH s aT=>obtain⟨q,rfl⟩:=gJ h;have⟨el,z,aF,aZ⟩:=DT q;have⟨v,g1,g2⟩:=dC _ _ _ _ (I _ _ _ aZ);refine⟨v,g1,λeC cI fB aN=>?_⟩;rw[aZ] at aN;cases aN;exact g2
     |fF s r aT=>obtain⟨q,rfl⟩:=gJ h;have⟨el,z,ab,u,aZ⟩:=B6 q;have⟨v,g1,g2⟩:=dC _ _ _ _ (I _ _ _ _ aZ);refine⟨v,g1,λeC cI fB fa aN=>?_⟩;rw[aZ] at aN;cases aN;exact g2
     |J a6=>obtain⟨q,rfl⟩:=gJ h;have aZ:=Kr q;rw[cd.J,aZ] at I;simp only[bp] at I;have⟨a,r,z,am,n,el,u,dK,aN,c9,hB⟩:=I;have⟨v,g1,g2⟩:=dC _ _ _ _ aN;refine⟨v,g1,?_⟩;show bp U (.gc _ _ _) v;simp only[bp];exact⟨a,r,z,am,n,el,u,dK,g2,c9,hB⟩
     |_=>cases h
end
end
def Ms:∀(l:gF)(i),i<l.length->l[i]?=some (ib l i)
 |[],_,h=>by simp at h
 |_::_,0,_=>rfl
 |_::l,i+1,h=>by rw[s1];exact Ms l i (by simpa using h)
def fI.take{ab}(h:fI U z am i ab)(a m):fI U z am (i+a) ((ab.drop a).take m):=by
 refine fI.of λM aF bb=>?_;rcases l7 M m with hm|hm
 .rw[List.getElem?_take_of_lt hm,Aa] at bb;have:=h.get _ bb;rwa [<-tI] at this
 .rw[qU (by rw[jC];omega)] at bb;cases bb
section
variable{U:dO}{Z:Nat->Nat}{A:be}{P:dy}{L:cv}{T:b4}
def Jg(h:uM e=some s)(au:cd U Z A e v):∃n,v=.str s.length n/\cL s.length n=s:=by rw[TP h] at au;simpa only[cd,cN,bp] using au
def yy(h:ro c e=some n)(au:cd U Z A e v):v=.int c n:=by rw[ag4 h] at au;simpa only[cd,cN,bp] using au
def Gq{b}(h:nd e=some b)(au:cd U Z A e v):v=.bool b:=by rw[RS h] at au;simpa only[cd,cN,bp] using au
def M8(h:idx e b=some n)(au:cd U Z A e v):n<b/\∀k,od v b k=k n:=by obtain⟨c,rfl,aw,aB⟩:=afY h;simp only[cd,cN,bp] at au;subst au;exact⟨aB,Qh aw aB⟩
def afN{i}{t}(h:Iv P t x i=some e)(I:cd U Z A x (ce.g L T))(aH:cd U Z A i (nB.g L T)):kZ ((Bo P t ce nB).f L T) λv=>cd U Z A e v:=by
 have⟨ce⟩:=ce;have⟨nB⟩:=nB;simp only at I aH;unfold Iv at h;unfold Bo;split at h
 .rename_i hu;simp only[hu];have⟨s,B,h⟩:=i9 h;have⟨M,F,h⟩:=i9 h;have⟨n,aZ,aN⟩:=Jg B I;have⟨bb,c9⟩:=M8 F aH;have br:=SJ M s.length n bb;rw[aN] at br;rw[br] at h;cases h;refine⟨.int 4 (Nat.land (Nat.shiftRight n (Nat.mul 8 M)) 255),λk=>?_,?_⟩
  .simp only[aZ,vO,c9,gT]
  .have av:Nat.land (Nat.shiftRight n (Nat.mul 8 M)) 255<256:=t3 Nat.and_le_right ag;show bp U (.int 4 _) _;simp only[bp,AX];rw[mZ av]
 .cases h
def amV{i}{t}(h:IG P t A x i=some e)(I:cd U Z A x (ce.g L T))(aH:cd U Z A i (nB.g L T)):kZ ((CK P t ce nB).f L T) λv=>cd U Z A e v:=by
 have⟨ce⟩:=ce;have⟨nB⟩:=nB;simp only at I aH;unfold IG at h;unfold CK;split at h
 .rename_i el hu;simp only[hu];cases ak:eV P el with
  |none=>rw[ak] at h;cases h
  |some m=>
   rw[ak] at h;cases m with
   |zero=>cases h
   |succ m=>
    simp only at h ⊢;cases x with
    |J a6=>
     simp only at h;cases q:rv a6<;>rw[q] at h<;>try(cases h;done)
     have aZ:=Ek q;have⟨M,F,h⟩:=i9 h;obtain⟨aS,rfl⟩:=gJ h;have aS:=zy aS;have⟨bb,c9⟩:=M8 F aH;rw[cd.J,aZ] at I;simp only[bp] at I;rcases I with⟨I,_⟩|⟨a,dE,c,u,z,am,n,eC,fa,dK,g1,g2,g3,g4,g6,g5,gA,j4⟩
     .rw[I] at bb;simp at bb
     .have⟨dc,cl⟩:=g5.get M (Ms _ M bb);have bO:z=m+1:=dc.symm.trans aS;subst bO;refine⟨.ptr a (dE+M) 0 (m+1),λk=>?_,?_⟩
      .simp only[g1];show od (nB L T) _ _=_;rw[c9,fY rfl,fz,gT];rfl
      .show bp U (.gc _ _ _) _;simp only[bp];exact⟨a,dE+M,m+1,am,n,eC,fa,dK,rfl,g2,Y,g4,dc,cl,Y,λq=>g6.2,λq=>Y⟩
    |bQ s=>
     simp only at h;split at h
     .rename_i eC z ab u K;cases q:Nat.beq z (m+1)<;>rw[q] at h<;>try(cases h;done)
      have q:=cF.1 q;subst q;have⟨M,F,h⟩:=i9 h;cases h;have⟨bb,c9⟩:=M8 F aH;have au:=I _ _ _ _ K;have dC:∃c fa,ce L T=.slice (Z s) 0 ab.length c fa (m+1):=by
       cases ab with
       |nil=>simp at bb
       |cons r ab=>cases u<;>exact⟨_,_,au⟩
      have⟨c,fa,hB⟩:=dC;refine⟨.ptr (Z s) M 0 (m+1),λk=>?_,λarN sH ago vI gS=>?_⟩
      .simp only[hB];show od (nB L T) _ _=_;rw[c9,fY rfl,fz,gT];show k (.ptr (Z s) (0+M) 0 (m+1))=_;rw[jq]
      .rw[K] at gS;cases gS;rfl
     .cases h
    |_=>cases h
 .cases h
def aem{d x M}(aof:S.A=A)(cn:eW U Z A S.L L)(bR:gp U Z A es.length S.E T)(h:uf es ae S d x=some M):∀k,(v7 es ae x).f L T d k=k M:=by
 subst aof;cases x with
 |none=>simp only[uf,Option.some.injEq] at h;subst h;intro k;rfl
 |some x=>simp only[uf] at h;have:=kD (ae:=ae) cn bR x;have⟨_,e⟩:=M8 h this;intro k;simp only[v7];exact e k
def agE{XJ adG g8 aH}{t}(h:Ho P t x XJ adG=some e)(I:cd U Z A x (g.g L T))(B5:∀i,XJ=some i->∀k,g8.f L T 0 k=k i)(CP:∀d M,adG d=some M->∀k,aH.f L T d k=k M):kZ ((CH P t g g8 aH).f L T) λv=>cd U Z A e v:=by
 have⟨g⟩:=g;have⟨g8⟩:=g8;have⟨aH⟩:=aH;simp only at I B5 CP;unfold Ho at h;unfold CH;split at h
 .rename_i hu;simp only[hu];have⟨s,B,h⟩:=i9 h;have⟨i,M,F,ah,h⟩:=rU h;obtain⟨q,rfl⟩:=gJ h;simp only[c6] at q;have⟨n,aZ,aN⟩:=Jg B I;have bq:=dn.1 q.1;have aS:=dn.1 q.2;refine⟨.str (M - i) (Nat.shiftRight n (Nat.mul 8 i)),λk=>?_,?_⟩
  .simp only[aZ,vO];rw[CP _ _ ah,B5 _ F,q.1,fz,q.2,fz,gT,gT];rfl
  .show bp U (.str _) _;have K:((s.drop i).take (M - i)).length=M - i:=by rw[jC,lu];omega
   simp only[bp,K];refine⟨_,rfl,?_⟩;have d1:cL (s.length - i) (n>>>(8*i))=s.drop i:=by rw[Pm i s.length n Y,aN]
   have d2:=Jw (M - i) (s.length - i) (n>>>(8*i)) Y;rw[d1] at d2;exact d2
 .rename_i el hu;simp only[hu];cases x with
  |J a6=>
   simp only at h;cases q:rv a6<;>rw[q] at h<;>try(cases h;done)
   have aZ:=Ek q;simp only at h;cases ak:eV P el with
   |none=>rw[ak] at h;cases h
   |some m=>
    rw[ak] at h;cases m with
    |zero=>cases h
    |succ m=>
     simp only at h ⊢;cases aS:fQ (ib (jl a6) 0) (m+1)<;>rw[aS] at h<;>try(cases h;done)
     have aS:=zy aS;simp only at h;have⟨i,M,F,ah,h⟩:=rU h;cases bU:(Nat.ble M (jl a6).length&&Nat.ble i M)<;>rw[bU] at h<;>try(cases h;done)
     simp only[c6] at bU;have cU:=dn.1 bU.1;have eI:=dn.1 bU.2;simp only at h;rw[cd.J,aZ] at I;simp only[bp] at I;have dB:jl a6≠[]:=by intro e;rw[e] at aS;simp [ib] at aS
     rcases I with⟨I,_⟩|⟨a,dE,c,u,z,am,n,eC,fa,dK,g1,g2,g3,g4,g6,g5,gA,j4⟩
     .exact absurd I dB
     have Gd:0<(jl a6).length:=List.length_pos_iff.2 dB;have bO:z=m+1:=by have:=(g5.get 0 (Ms _ 0 Gd)).1;exact this.symm.trans aS
     subst bO;have start:∀k:bl->Bool,tw (g L T) (aH L T 0 λM=>g8 L T 0 λi=>a7 (Nat.beq M 0) (a7 (Nat.beq i 0) (k (.nil .s)) false) false)
      (λa dE l c u z=>a7 (Nat.beq z (m+1)) (aH L T l λM=>g8 L T 0 λi=>a7 (Nat.ble i M)
       (a7 u (a7 (Nat.ble M l) (a7 (Nat.blt i M) (e5 (Nat.add dE i) λdE=>e5 (Nat.sub M i) λl=>k (.slice a dE l (Nat.add c i) true z))
        (a7 (Nat.beq i 0) (k (.slice a dE 0 c true z)) (k .any))) false)
        (a7 (Nat.ble M c) (a7 (Nat.blt i c) (e5 (Nat.add dE i) λdE=>e5 (Nat.sub M i) λl=>e5 (Nat.sub c i) λc=>k (.slice a dE l c false z))
         (k (.slice a dE 0 0 false z))) false)) false) false)=
      a7 u (a7 (Nat.blt i M) (k (.slice a (dE+i) (M - i) (c+i) true (m+1))) (a7 (Nat.beq i 0) (k (.slice a dE 0 c true (m+1))) (k .any)))
       (a7 (Nat.ble M c) (a7 (Nat.blt i c) (k (.slice a (dE+i) (M - i) (c - i) false (m+1))) (k (.slice a dE 0 0 false (m+1)))) false):=by
      intro k
      rw[g1,yF,fY rfl,fz,CP _ _ ah,B5 _ F,bU.2,fz,bU.1,fz]
      simp only[gT]
      rfl
     have oY:∀(D:bl),(∀k:bl->Bool,(a7 u (a7 (Nat.blt i M) (k (.slice a (dE+i) (M - i) (c+i) true (m+1))) (a7 (Nat.beq i 0) (k (.slice a dE 0 c true (m+1))) (k .any)))
      (a7 (Nat.ble M c) (a7 (Nat.blt i c) (k (.slice a (dE+i) (M - i) (c - i) false (m+1))) (k (.slice a dE 0 0 false (m+1)))) false))=k D)->cd U Z A e D->
      kZ (λk:bl->Bool=>tw (g L T) (aH L T 0 λM=>g8 L T 0 λi=>a7 (Nat.beq M 0) (a7 (Nat.beq i 0) (k (.nil .s)) false) false)
      (λa dE l c u z=>a7 (Nat.beq z (m+1)) (aH L T l λM=>g8 L T 0 λi=>a7 (Nat.ble i M)
       (a7 u (a7 (Nat.ble M l) (a7 (Nat.blt i M) (e5 (Nat.add dE i) λdE=>e5 (Nat.sub M i) λl=>k (.slice a dE l (Nat.add c i) true z))
        (a7 (Nat.beq i 0) (k (.slice a dE 0 c true z)) (k .any))) false)
        (a7 (Nat.ble M c) (a7 (Nat.blt i c) (e5 (Nat.add dE i) λdE=>e5 (Nat.sub M i) λl=>e5 (Nat.sub c i) λc=>k (.slice a dE l c false z))
         (k (.slice a dE 0 0 false z))) false)) false) false)) λv=>cd U Z A e v:=
      λD ay ar=>⟨D,λk=>(start k).trans (ay k),ar⟩
     have lK:u=false->Nat.ble M c=true:=λhu=>wO (mq cU (g6.1 hu));cases wF:Nat.blt i M with
     |true=>
      have apo:=cZ.1 wF;rw[wF] at h oY;cases h;have fy:(((jl a6).drop i).take (M - i)).length=M - i:=by rw[jC,lu];omega
      cases u with
      |true=>refine oY (.slice a (dE+i) (M - i) (c+i) true (m+1)) (λk=>rfl) ?_;show bp U (.aQ _ _) _;simp only[bp,fy];exact .inr ⟨a,dE+i,c+i,true,m+1,am,n,eC,fa,dK,rfl,g2,Y,g4,⟨by simp,g6.2⟩,g5.take i (M - i),Y,Y⟩
      |false=>
       have aw:=g6.1 rfl;refine oY (.slice a (dE+i) (M - i) (c - i) false (m+1)) (λk=>?_) ?_
       .rw[lK rfl,wW (Y:i<c)];rfl
       .show bp U (.aQ _ _) _;simp only[bp,fy];exact .inr ⟨a,dE+i,c - i,false,m+1,am,n,eC,fa,dK,rfl,g2,Y,g4,⟨by intro _;omega,g6.2⟩,g5.take i (M - i),Y,Y⟩
     |false=>
      have apo:M<=i:=by
       rcases l7 i M with b5|b5
       .rw[wW b5] at wF;cases wF
       .exact b5
      have MI:M=i:=Y;rw[wF] at h oY;simp only at h;cases xd:Nat.beq i 0 with
      |true=>
       rw[xd] at h oY;cases h;have amk:=cF.1 xd;subst amk;cases u with
       |true=>refine oY (.slice a dE 0 c true (m+1)) (λk=>rfl) ?_;show bp U (.aQ _ []) _;simp only[bp];exact .inl ⟨trivial,.inr ⟨by simp,_,_,_,_,_,rfl⟩⟩
       |false=>
        have aw:=g6.1 rfl;refine oY (.slice a (dE+0) (M - 0) (c - 0) false (m+1)) (λk=>?_) ?_
        .rw[lK rfl,wW (Y:0<c)];rfl
        .show bp U (.aQ _ []) _;simp only[bp];exact .inl ⟨trivial,.inr ⟨by simp,a,dE+0,c - 0,false,m+1,by rw[MI]⟩⟩
      |false=>
       rw[xd] at h oY;cases h;cases u with
       |true=>exact oY .any (λk=>rfl) (by simp only[cd,cN,bp])
       |false=>
        cases X0:Nat.blt i c with
        |true=>exact oY (.slice a (dE+i) (M - i) (c - i) false (m+1)) (λk=>by rw[lK rfl,X0];rfl) (by simp only[cd,cN,bp])
        |false=>exact oY (.slice a dE 0 0 false (m+1)) (λk=>by rw[lK rfl,X0];rfl) (by simp only[cd,cN,bp])
  |bT=>cases h
  |_=>cases h
 .cases h
end
end Go.Tx
