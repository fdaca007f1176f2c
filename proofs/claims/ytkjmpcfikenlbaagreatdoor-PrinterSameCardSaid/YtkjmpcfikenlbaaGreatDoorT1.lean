/- A part. -/
import Derived.Test.YtkjmpcfikenlbaaGreatDoorT0
import Derived.Test.YtkjmpcfikenlbaaGreatDoorE10
set_option linter.all false
namespace Go.Tx
open Go Go.Ev
abbrev ek:=Nat->Option gW
def ek.le(U hY:ek):Prop:=∀a B,U a=some B->hY a=some B
def ek.le_refl(U:ek):U.le U:=λ_ _ h=>h
def ek.le_trans{U hY Z2:ek}(h:U.le hY)(cz:hY.le Z2):U.le Z2:=λa B x=>cz a B (h a B x)
mutual
def bR(U:ek):b9->bp->Prop
 |.undef,_=>True|.bool b,v=>v=.bool b|.int c n,v=>v=.int c n|.str s,v=>∃n,v=.str s.length n/\ez s.length n=s|.nil c,v=>v=.nil c/\c≠.s
 |.aH g Q,v=>(Q=[]/\(v=.nil .s\/(g % 2=0/\∃a i c u z,v=.slice a i 0 c u z)))\/
  ∃a i c u z ax n ak fY ee,v=.slice a i Q.length c u z/\U a=some (.cells ax n z ak fY ee)/\i+Q.length<=n/\n<=ax.cap/\((u=false->Q.length<=c)/\ee=false)/\gY U z ax i Q/\ak=g / 2/\
   (g % 2=1->Q≠[]/\i=0/\c=0/\u=true/\fY=true/\ee=false/\n=Q.length/\0<z)
 |.hy g aJ aR,v=>∃a r z ax n ak u ee,v=.ptr a r aR z/\U a=some (.cells ax n z ak u ee)/\r<n/\n<=ax.cap/\aJ.length=z/\c5 U aJ (ax.row r)/\ak=g / 4/\(g % 2=1->ee=false)/\(g % 4=3->r=0/\n=1/\u=false/\0<z)|.fn f b5 cV,v=>∃dw cQ,v=.fn f dw cQ/\c5 U b5 dw/\c5 U cV cQ|.agg l,v=>∃aK,v=.agg l.length aK/\c5 U l aK|.gy l,v=>∃aK,v=.gy aK/\c5 U l aK|.op _ W,v=>v=.pJ W
def c5(U:ek):di->cx->Prop
 |[],l=>l=[]|t::bX,l=>∃v aK,l=v::aK/\bR U t v/\c5 U bX aK
def gY(U:ek)(z:Nat)(ax:Ev.Rows)(i:Nat):g4->Prop
 |[]=>True|r::Q=>r.length=z/\c5 U r (ax.row i)/\gY U z ax (i+1) Q
end
mutual
def bR.mono{U hY}(h:U.le hY):∀(t:b9)(v:bp),bR U t v->bR hY t v
 |.undef,_,g|.bool _,_,g|.int _ _,_,g|.str _,_,g|.nil _,_,g|.op _ _,_,g=>by simp only[bR]at g ⊢;try exact g
 |.aH _ Q,_,g=>by
  rcases g with g|⟨a,i,c,u,z,ax,n,ak,fY,ee,aj,an,aM,bs,dj,cp,ip⟩
  .exact .inl g
  .exact .inr ⟨a,i,c,u,z,ax,n,ak,fY,ee,aj,h _ _ an,aM,bs,dj,gY.mono h z ax i Q cp,ip⟩
 |.hy _ aJ aR,_,g=>by have⟨a,r,z,ax,n,ak,u,ee,aj,an,aM,bs,cp,dj,ip⟩:=g;exact⟨a,r,z,ax,n,ak,u,ee,aj,h _ _ an,aM,bs,cp,c5.mono h aJ _ dj,ip⟩
 |.fn _ b5 cV,_,g=>by have⟨dw,cQ,aj,an,aM⟩:=g;exact⟨dw,cQ,aj,c5.mono h b5 _ an,c5.mono h cV _ aM⟩
 |.agg l,_,g=>by have⟨aK,aj,an⟩:=g;exact⟨aK,aj,c5.mono h l _ an⟩
 |.gy l,_,g=>by have⟨aK,aj,an⟩:=g;exact⟨aK,aj,c5.mono h l _ an⟩
def c5.mono{U hY}(h:U.le hY):∀(t:di)(v:cx),c5 U t v->c5 hY t v
 |[],_,g=>by simpa only[c5]using g
 |t::bX,_,g=>by have⟨v,aK,aj,an,aM⟩:=g;exact⟨v,aK,aj,bR.mono h t v an,c5.mono h bX aK aM⟩
def gY.mono{U hY}(h:U.le hY):∀(z:Nat)(ax:Ev.Rows)(i:Nat)(Q:g4),gY U z ax i Q->gY hY z ax i Q
 |_,_,_,[],g=>by simp[gY]
 |z,ax,i,r::Q,g=>by exact⟨g.1,c5.mono h r _ g.2.1,gY.mono h z ax (i+1) Q g.2.2⟩
end
variable{L l:cx}{S:c8}{T:ca}{b c f i n z:Nat}{ah:dM}{e x:a2}{es:aO}{g ry cs fh:gb}{op:BinOp}{ax:Ev.Rows}{s:lS}{t:b9}{bX:di}{v:bp}{U:ek}
def c5.nil:c5 U [] []:=by simp[c5]
def c5.cons(h:bR U t v)(cz:c5 U bX l):c5 U (t::bX) (v::l):=by simp only[c5];grind
def c5.inv(h:c5 U (t::bX) l):∃v aK,l=v::aK/\bR U t v/\c5 U bX aK:=by simpa only[c5]using h
def c5.length:∀{bX}{l},c5 U bX l->l.length=bX.length
 |[],_,h=>by simp only[c5]at h;simp[h]
 |_::_,_,h=>by obtain⟨v,aK,rfl,_,h⟩:=h.inv;simp[h.length]
def c5.append:∀{bX ww}{l m},c5 U bX l->c5 U ww m->c5 U (bX++ww) (l++m)
 |[],_,_,_,h,cz=>by simp_all[c5]
 |_::_,_,_,_,h,cz=>by obtain⟨v,aK,rfl,g,h⟩:=h.inv;exact .cons g (h.append cz)
def c5.nth:∀{bX}{l}(i),c5 U bX l->i<bX.length->∃v,l[i]?=some v/\bR U (q1 bX i) v
 |[],_,i,_,aN=>by grind
 |_::_,_,0,h,_=>by obtain⟨v,aK,rfl,g,h⟩:=h.inv;exact⟨v,rfl,g⟩
 |_::_,_,i+1,h,aN=>by obtain⟨v,aK,rfl,g,h⟩:=h.inv;have⟨iq,D,F⟩:=h.nth i (by simp_all);exact⟨iq,by simp_all,F⟩
def c5.take:∀{bX}{l}(n),c5 U bX l->c5 U (bX.take n) (l.take n)
 |_,_,0,_=>by exact .nil
 |[],_,n+1,h=>by subst h;exact .nil
 |_::_,_,n+1,h=>by obtain⟨v,aK,rfl,g,h⟩:=h.inv;exact .cons g (h.take n)
def c5.drop:∀{bX}{l}(n),c5 U bX l->c5 U (bX.drop n) (l.drop n)
 |_,_,0,h=>by simp_all
 |[],_,n+1,h=>by subst h;exact .nil
 |_::_,_,n+1,h=>by obtain⟨v,aK,rfl,g,h⟩:=h.inv;simpa using h.drop n
def gY.get:∀{Q}{i}(j:Nat){aJ:di},gY U z ax i Q->Q[j]?=some aJ->aJ.length=z/\c5 U aJ (ax.row (i+j))
 |[],_,_,_,_,bl=>by grind
 |r::Q,i,0,aJ,h,bl=>by simp_all[gY]
 |r::Q,i,j+1,aJ,h,bl=>by have:=h.2.2.get j (by simpa using bl);grind
def gY.of:∀{Q}{i},(∀j aJ,Q[j]?=some aJ->aJ.length=z/\c5 U aJ (ax.row (i+j)))->gY U z ax i Q
 |[],_,_=>by simp[gY]
 |r::Q,i,h=>by have:=h 0 r rfl;refine⟨this.1,this.2,gY.of λj aJ bl=>?_⟩;have:=h (j+1) aJ (by simp_all);grind
def aa9:∀(l:di)(m:di),l2 (m++l) m.length l.length=l
 |[],m=>by simp[l2]
 |a::l,m=>by
  have D:∀m:di,q1 (m++a::l) m.length=a:=by
   intro m;induction m with
   |nil=>rfl|cons b m bQ=>exact bQ
  show q1 (m++a::l) m.length::l2 (m++a::l) (m.length+1) l.length=_;rw[D];have:=aa9 l (m++[a]);simp_all
def Oo(l:di):l2 l 0 l.length=l:=by have:=aa9 l [];simp_all
def Zf(l:di):∀(n i j),j<n->(l2 l i n)[j]?=some (q1 l (i+j))
 |0,_,_,h=>I
 |n+1,i,0,_=>by simp[l2]
 |n+1,i,j+1,h=>by show(q1 l i::l2 l (i+1) n)[j+1]?=_;rw[RB,Zf l n (i+1) j I,show i+1+j=i+(j+1) by omega]
def MM(l:di):∀(n i),(l2 l i n).length=n
 |0,_=>rfl
 |n+1,i=>by show(l2 l (i+1) n).length+1=_;rw[MM l n]
def adG:∀(l:di)(i),i<l.length->l[i]?=some (q1 l i)
 |[],_,h=>by grind
 |_::_,0,_=>rfl
 |_::l,i+1,h=>by exact adG l i (by simp_all)
def ajd(l:di)(i n)(h:i+n<=l.length):l2 l i n=(l.drop i).take n:=by
 apply He;intro j;rcases m4 j n with bl|bl
 .rw[Zf l n i j bl,List.getElem?_take_of_lt bl,Nc,adG l (i+j) I]
 .rw[tY (by rw[MM];grind),tY (by grind)]
def yH(a z:Nat)(Q:g4)(u:Bool)(v:bp):Prop:=
 match u,Q with
 |true,[]=>v=.nil .s|true,_=>v=.slice a 0 Q.length 0 true z|false,_=>v=.slice a 0 Q.length Q.length false z
def dE(U:ek)(Z:Nat->Nat)(A:bf):a2->bp->Prop
 |.J t,v=>bR U t v|.bx,v=>v=.nil .s|.i4,v=>v=.undef|.bN s aR,v=>∀ak z aJ,look A s=some (.box ak z aJ)->v=.ptr (Z s) 0 aR z|.bD s,v=>∀ak z Q u,look A s=some (.bF ak z Q u)->yH (Z s) z Q u v|.fU s r aR,v=>∀ak z Q u,look A s=some (.bF ak z Q u)->v=.ptr (Z s) r aR z|.agg _,_=>False|.fn _ _ _,_=>False
def gc(U:ek)(Z:Nat->Nat)(A:bf):bK->cx->Prop
 |[],l=>l=[]|e::es,l=>∃v aK,l=v::aK/\dE U Z A e v/\gc U Z A es aK
def co(U:ek)(Z:Nat->Nat)(A:bf):a2->bp->Prop
 |.agg l,v=>∃aK,v=.agg l.length aK/\gc U Z A l aK|.fn f b5 cV,v=>∃dw cQ,v=.fn f dw cQ/\gc U Z A b5 dw/\gc U Z A cV cQ|e,v=>dE U Z A e v
def f9(U:ek)(Z:Nat->Nat)(A:bf):bK->cx->Prop
 |[],l=>l=[]|e::es,l=>∃v aK,l=v::aK/\co U Z A e v/\f9 U Z A es aK
def fB.real:fB->Bool
 |.bF _ _ [] true=>false|_=>true
def nG(U:ek)(Z:Nat->Nat)(A:bf)(z:Nat):uq->cx->Prop
 |.cb l,r=>l.length=z/\c5 U l r|.bS l,r=>l.length=z/\gc U Z A l r
def FQ(u:Bool)(ak:Nat):Nat:=match u with
 |true=>ln ak|false=>ak
def xU:gW->gW
 |.cells ax n z ak u ee=>.cells ax n z (FQ u ak) u ee|B=>B
def aoi(c e:Nat):(match Nat.ble c (e+c)with|true=>e+c - c|false=>e+c)=e:=by
 have h:Nat.ble c (e+c)=true:=by simp_all
 grind
def afZ(e):ln (e+Ca)=e:=by unfold ln;generalize Ca=c;exact aoi c e
def X4(es e):ln (zz es e)=e:=by
 unfold zz;cases h:(Vh es||Nat.ble Ca e)with
 |false=>simp_all[ln]|true=>exact afZ e
def JJ:fB->Nat
 |.box ak _ _=>ak|.bF ak _ _ _=>ak
def Jh(n:Nat):gW->gW
 |.cells ax k z _ u ee=>.cells ax k z n u ee|B=>B
def nX(U:ek)(Z:Nat->Nat)(A:bf)(H:bg)(s:Nat):fB->Prop
 |.box ak z aJ=>∃ax,H.get (Z s)=.cells ax 1 z ak false false/\1<=ax.cap/\0<z/\nG U Z A z aJ (ax.row 0)|.bF ak z Q u=>fB.real (.bF ak z Q u)=true->∃ax,H.get (Z s)=.cells ax Q.length z (FQ u ak) u false/\Q.length<=ax.cap/\0<z/\gY U z ax 0 Q
structure b0(U:ek)(Z:Nat->Nat)(A:bf)(H:bg):Prop where
 e6:∀a B,U a=some B->H.get a=xU B/\a<H.next
 lt:∀s B,look A s=some B->B.real=true->Z s<H.next/\U (Z s)=none
 inj:∀s dx B bH,look A s=some B->look A dx=some bH->B.real=true->bH.real=true->Z s=Z dx->s=dx
 obj:∀s B,look A s=some B->nX U Z A H s B
def mQ:gW->Nat
 |.cells _ _ _ ak _ _=>ak|_=>0
def hr(X:aO)(s:Nat):fB->Bool
 |.box _ _ _=>match X with
  |0::l=>cn s l|_=>false
 |_=>false
def It{X}{x}(h:cn x (fq X)):cn x X:=by
 cases X with
 |nil=>exact h
 |cons a l=>cases a with
  |zero=>cases h
  |succ a=>exact h
def akD{X}{x}(h:cn x X=false):cn x (fq X)=false:=by
 cases q:cn x (fq X)with
 |false=>rfl|true=>simp_all[It]
def ams{X}{s}{B}(h:hr X s B):fq X=[]:=by
 cases B with
 |box ak z aJ=>cases X with
  |nil=>cases h
  |cons a l=>cases a with
   |zero=>rfl
   |succ a=>cases h
 |bF=>cases h
def BP{X}{s}{f}{B}:hr X s (g8 f B)=hr X s B:=by
 cases B with
 |box ak z aJ=>cases aJ<;>rfl
 |bF=>rfl
def Ow{X et}{s}{B}:hr X s (p4 et B)=hr X s B:=by
 cases B with
 |box ak z aJ=>cases aJ<;>rfl
 |bF=>rfl
structure fz(X:aO)(U:ek)(Z:Nat->Nat)(A:bf)(H:bg)(bm:ek)(b2:Nat->Nat)(bE:bf)(az:bg):Prop where
 le:∀a B,U a=some B->cn (mQ B) (fq X)=false->bm a=some B
 next:H.next<=az.next
 same:∀a,a<H.next->(∀s B,look A s=some B->B.real=true->hr X s B=false->Z s≠a)->(∀B,U a=some B->cn (mQ B) (fq X)=false)->az.get a=H.get a
 new:∀a B,bm a=some B->U a=some B\/H.next<=a\/(∃s B,look A s=some B/\B.real=true/\Z s=a)\/∃fD,U a=some fD/\cn (mQ fD) (fq X)=true
 fE:∀s B,look bE s=some B->B.real=true->H.next<=b2 s\/∃jb fD,look A jb=some fD/\fD.real=true/\Z jb=b2 s/\(hr X jb fD=true->hr X s B=true)
def fz.refl{X}(U)(Z)(A)(H):fz X U Z A H U Z A H:=
 ⟨λ_ _ h _=>h,fI _,λ_ _ _ _=>rfl,λ_ _ h=>.inl h,λs B h cz=>.inr ⟨s,B,h,cz,rfl,λh=>h⟩⟩
def fz.jz{X}{U iP}{Z jU}{A oM}{H cM}(h:fz X U Z A H iP jU oM cM):∀a B,U a=some B->cn (mQ B) X=false->iP a=some B:=λa B aV M=>h.le a B aV (akD M)
def fz.trans{X}{U iP ns}{Z jU mF}{A oM m3}{H cM ie}(h:fz X U Z A H iP jU oM cM)(cz:fz X iP jU oM cM ns mF m3 ie):fz X U Z A H ns mF m3 ie where
 le a B aV M:=cz.le a B (h.le a B aV M) M
 next:=nR h.next cz.next
 same a aC ap M:=by
  rw[cz.same a (pD aC h.next) (λs B Y ag a1 aw=>?_) (λB aV=>?_),h.same a aC ap M]
  .rcases h.fE s B Y ag with g|⟨jb,fD,aj,an,aM,bs⟩
   all_goals grind
  .rcases h.new a B aV with g|g|⟨s,bH,aj,an,aM⟩|⟨fD,aj,an⟩
   .simp_all
   .omega
   .cases q:hr X s bH with
    |false=>simp_all|true=>rw[ams q];rfl
   simp_all
 new a B aV:=by
  rcases cz.new a B aV with g|g|⟨s,bH,aj,an,aM⟩|⟨cL,aj,an⟩
  .exact h.new a B g
  .exact .inr (.inl (nR h.next g))
  .rcases h.fE s bH aj an with g|⟨jb,fD,bC,aX,b4,_⟩
   all_goals grind
  .rcases h.new a cL aj with g|g|g|g
   all_goals simp_all
 fE s B Y ag:=by
  rcases cz.fE s B Y ag with g|⟨gx,cL,aj,an,aM,bs⟩
  .exact .inl (nR h.next g)
  .rcases h.fE gx cL aj an with g|⟨jb,fD,bC,aX,b4,dc⟩
   all_goals grind
section
variable{U:ek}{Z:Nat->Nat}{A:bf}
def co.J:co U Z A (.J t) v↔bR U t v:=Iff.rfl
def f9.nth:∀{es}{l}(i),f9 U Z A es l->co U Z A (jv es i) (l.getD i .any)
 |[],_,i,_=>by simp[jv,co,dE,bR]
 |_::_,_,0,h=>by obtain⟨v,aK,rfl,g,h⟩:=h;exact g
 |_::_,_,i+1,h=>by obtain⟨v,aK,rfl,g,h⟩:=h;exact f9.nth i h
def aas:∀{v}{t},tQ v=some t->bR U t v
 |.bool b,t,h=>by simp[tQ]at h;subst h;simp[bR]
 |.int c n,t,h=>by simp[tQ]at h;subst h;simp[bR]
 |.str l n,t,h=>by
  have e:∀l n,tQ.BM l n=ez l n:=by
   intro l;induction l with
   |zero=>intro n;rfl|succ l bQ=>simp_all[tQ.BM,ez]
  simp only[tQ,Option.some.injEq,e]at h;subst h;simp_all[bR,p5]
 |.nil c,t,h=>by grind[tQ,Option.some.injEq,bR]
 |.undef,_,h|.ptr ..,_,h|.slice ..,_,h|.map _,_,h|.fn ..,_,h|.iface ..,_,h|.agg ..,_,h|.gy _,_,h|.any,_,h|.q9 ..,_,h|.pJ _,_,h=>by simp[tQ]at h
def Qx(v):dE U Z A (pA v) v:=by
 unfold pA;split
 .simp[dE]
 .split
  .rename_i t h;exact aas h
  .simp[dE,bR]
def Ny:∀l,gc U Z A (l.map pA) l
 |[]=>rfl|v::l=>⟨v,l,rfl,Qx v,Ny l⟩
def gc.length:∀{es}{l},gc U Z A es l->l.length=es.length
 |[],_,h=>by simp_all[gc]
 |_::_,_,h=>by obtain⟨v,aK,rfl,_,h⟩:=h;simp[h.length]
def aoN(v):co U Z A (pA v) v:=by have:=Qx (U:=U) (Z:=Z) (A:=A) v;revert this;generalize pA v=e;intro h;cases e<;>first|exact h|exact h.elim
def ach{v}(h:mP v=some (.agg n l)):n=l.length:=by
 unfold mP at h;split at h
 .grind
 .grind
 .unfold Ks at h;grind
def akn{v a}(h:mP v=some a):co U Z A (Cx a) a:=by
 unfold Cx;split
 .rename_i n l;have:=ach h;subst this;exact⟨l,by simp,Ny l⟩
 .exact aoN _
def gR(U:ek)(Z:Nat->Nat)(A:bf)(n:Nat)(E:bK)(T:ca):Prop:=n<=64/\E.length=n/\∀i,i<n->co U Z A (jv E i) (T.slot i)
def P3{t l}(h:jB t l=some i):i<l.length:=(oo.1 (L4 h)).1
def lf(cB:f9 U Z A S.L L)(bY:gR U Z A es.length S.E T)(x):co U Z A (ey es ah S x) ((eF es ah x).g L T):=by
 unfold ey eF;cases x with
 |tmp t=>
  simp;unfold ls;cases D:j2 t ah with
  |some i=>rw[CF];exact cB.nth i
  |none=>
   cases F:jB t es with
   |some s=>simp;have ap:=P3 F;rw[zu (show s<64 by have:=bY.1;omega)];rw[NL];exact bY.2.2 s ap
   |none=>simp[co,dE,bR]
 |const v=>
  simp;cases h:mP v with
  |some a=>exact akn h|none=>simp[co,dE,bR]
 |func f=>exact⟨[],[],rfl,.nil,.nil⟩|global g=>simp[co,dE,bR]
end
def k7(f:(bp->Bool)->Bool)(P:bp->Prop):Prop:=∃v,(∀k,f k=k v)/\P v
def it{α nh}{a:Option α}{f:α->Option nh}{r}(h:cD a f=some r):∃x,a=some x/\f x=some r:=by
 cases a with
 |none=>cases h
 |some x=>exact⟨x,rfl,h⟩
def qW{α fH nh}{a:Option α}{b:Option fH}{f:α->fH->Option nh}{r}(h:dp a b f=some r):∃x y,a=some x/\b=some y/\f x y=some r:=by
 cases a with
 |none=>cases h
 |some x=>cases b with
  |none=>cases h
  |some y=>exact⟨x,y,rfl,rfl,h⟩
def apP{c}{t}(h:isInt c t):t=.int c (CA t):=by
 cases t<;>first|(cases h;done)|skip
 rw[dA.1 h];rfl
def aml{t}(h:Um t):t=.str (Rt t):=by cases t<;>first|(cases h;done)|rfl
def amE{t}(h:PE t):t=.bool (SL t):=by cases t<;>first|(cases h;done)|rfl
def Fu(h:rL t):t=.aH (wv t) (jJ t):=by cases t<;>first|(cases h;done)|rfl
def H2(h:vs t):t=.hy (nz t) (ux t) (wd t):=by cases t<;>first|(cases h;done)|rfl
def Ej(h:xi n t):t=.agg (pQ t)/\(pQ t).length=n:=by
 cases t<;>first|(cases h;done)|skip
 exact⟨rfl,dA.1 h⟩
def ama(h:abh n t):t=.gy (Ug t)/\n<(Ug t).length:=by
 cases t<;>first|(cases h;done)|skip
 exact⟨rfl,dg.1 h⟩
def apu{t}(h:aa5 t):∃c,t=.int c (CA t)/\3<=c:=by
 cases t<;>first|(cases h;done)|skip
 exact⟨_,rfl,dT.1 h⟩
def anm{t}(h:ae0 t):∃c,t=.int c (CA t):=by cases t<;>first|(cases h;done)|exact⟨_,rfl⟩
def hC{α:Type}{b:Bool}{x:α}{r:α}(h:(match b with|true=>some x|false=>none)=some r):b=true/\x=r:=by
 grind
def anp{c n}{v}(h:rs c v=some n):v=.J (.int c n):=by
 unfold rs at h;split at h
 .obtain⟨q,rfl⟩:=hC h;rw[<-apP q]
 grind
def Qv{s}{v}(h:vX v=some s):v=.J (.str s):=by
 unfold vX at h;split at h
 .obtain⟨q,rfl⟩:=hC h;rw[<-aml q]
 grind
def SG{b}{v}(h:pj v=some b):v=.J (.bool b):=by
 unfold pj at h;split at h
 .obtain⟨q,rfl⟩:=hC h;rw[<-amE q]
 grind
def ZE{n}{v}(h:LW v=some n):∃c,v=.J (.int c n):=by
 unfold LW at h;split at h
 .obtain⟨q,rfl⟩:=hC h;simp_all[anm]
 grind
def akO{v}{b n}(h:idx v b=some n):∃c,v=.J (.int c n)/\3<=c/\n<b:=by
 unfold idx at h;split at h
 .obtain⟨q,rfl⟩:=hC h;simp_all[apu]
 grind
def SO(h:3<=c)(aD:n<b)(k):pd (.int c n) b k=k n:=by show bd (Nat.ble 3 c) (bd (Nat.blt n b) (k n) false) false=_;simp_all[zA,zu]
section
variable{U:ek}{Z:Nat->Nat}{A:bf}
def aps{a}(h:yn op c a b=some t):k7 (λk=>(nn op c (cF c) (eK c)).f a b k) λv=>bR U t v:=by
 have ad7:∀(g:Nat->Nat->Nat),(match Nat.blt a (eK c)&&Nat.blt b (eK c)&& !Nat.beq b 0 with|true=>some (b9.int c (g a b))|false=>none)=some t->
  k7 (λk=>bd (Nat.blt a (eK c)) (bd (Nat.blt b (eK c)) (bd (Nat.beq b 0) false (gr (g a b) λr=>k (.int c r))) false) false) λv=>bR U t v:=by
  intro g h
  cases bC:Nat.blt a (eK c)<;>cases aX:Nat.blt b (eK c)<;>cases b4:Nat.beq b 0<;>rw[bC,aX,b4]at h<;>first|(cases h;done)|skip
  cases h
  exact⟨.int c (g a b),λk=>by simp_all,by simp[bR]⟩
 have Nj:∀(x y:Bool),(match Nat.beq (eK c) (cF c)with|true=>some (b9.bool x)|false=>some (b9.bool y))=some t->
  k7 (λk=>(match Nat.beq (eK c) (cF c)with|true=>(⟨λ_ _ k=>mJ x λr=>k (.bool r)⟩:S8)|false=>⟨λ_ _ k=>mJ y λr=>k (.bool r)⟩).f a b k) λv=>bR U t v:=by
  intro x y h
  cases q:Nat.beq (eK c) (cF c)<;>rw[q]at h<;>cases h
  .exact⟨.bool y,λk=>by simp_all,by simp[bR]⟩
  .exact⟨.bool x,λk=>by simp_all,by simp[bR]⟩
 unfold yn at h;rw[ai5,ahf,ai8]at h;unfold nn;cases op with
 |add=>cases h;exact⟨.int c (eN (cF c) a b),λk=>by simp_all,by simp[bR]⟩
 |sub=>cases h;exact⟨.int c (M8 (cF c) a b),λk=>by simp_all,by simp[bR]⟩
 |mul=>cases h;exact⟨.int c (I1 (cF c) a b),λk=>by simp_all,by simp[bR]⟩
 |quo=>exact ad7 Nat.div h|rem=>exact ad7 Nat.mod h
 |and=>cases h;exact⟨.int c (Nat.land a b),λk=>by simp_all,by simp[bR]⟩
 |or=>cases h;exact⟨.int c (Nat.lor a b),λk=>by simp_all,by simp[bR]⟩
 |xor=>cases h;exact⟨.int c (Nat.xor a b),λk=>by simp_all,by simp[bR]⟩
 |eql=>cases h;exact⟨.bool (Nat.beq a b),λk=>by simp_all,by simp[bR]⟩
 |neq=>cases h;exact⟨.bool (!Nat.beq a b),λk=>by cases e:Nat.beq a b<;>simp only[e,iG,o9,Mc,Nf],by simp[bR]⟩
 |lss=>have⟨v,D,F⟩:=Nj _ _ h;refine⟨v,λk=>(Eq.trans ?_ (D k)),F⟩;grind|leq=>have⟨v,D,F⟩:=Nj _ _ h;refine⟨v,λk=>(Eq.trans ?_ (D k)),F⟩;grind|gtr=>have⟨v,D,F⟩:=Nj _ _ h;refine⟨v,λk=>(Eq.trans ?_ (D k)),F⟩;grind|geq=>have⟨v,D,F⟩:=Nj _ _ h;refine⟨v,λk=>(Eq.trans ?_ (D k)),F⟩;grind
 |_=>cases h
def ai9{dx}(h:Mj op s dx=some t)(M:bR U (.str s) (cs.g L T))(aE:bR U (.str dx) (fh.g L T)):k7 ((zn op cs fh).f L T) λv=>bR U t v:=by
 have⟨x⟩:=cs;simp at M aE;have⟨n,K2,aP⟩:=M;have⟨cI,zB,a3⟩:=aE;have heq:uD s.length n dx.length cI=iA s dx:=by rw[Bool.eq_iff_iff,NV,aP,a3];unfold iA;grind
 have be:An s.length n dx.length cI=ra s dx:=by rw[Ar,aP,a3];rfl
 unfold Mj at h;unfold zn;cases op<;>simp only at h ⊢ <;>first|(cases h;done)|skip
 case add=>
  cases q:Nat.ble (s.length+dx.length) Oa<;>rw[q]at h<;>cases h
  refine⟨.str (s.length+dx.length) (n % kt s.length+cI*kt s.length),λk=>?_,?_⟩
  .have q:Nat.ble (Nat.add s.length dx.length) 1152921504606846976=true:=q;simp only[K2,zB,aa4,q,k5];rfl
  simp_all[bR,V8]
 case eql=>cases h;refine⟨.bool (iA s dx),λk=>?_,by simp[bR]⟩;simp_all
 case neq=>cases h;refine⟨.bool (!iA s dx),λk=>?_,by simp[bR]⟩;simp[K2,zB,heq];cases iA s dx<;>rfl
 case lss=>cases h;refine⟨.bool (ra s dx),λk=>?_,by simp[bR]⟩;simp_all
 case leq=>cases h;refine⟨.bool (ra s dx||iA s dx),λk=>?_,by simp[bR]⟩;simp[K2,zB,be,heq];cases ra s dx<;>rfl
 case gtr=>cases h;refine⟨.bool (!ra s dx&& !iA s dx),λk=>?_,by simp[bR]⟩;simp[K2,zB,be,heq];cases ra s dx<;>cases iA s dx<;>rfl
 case geq=>cases h;refine⟨.bool (!ra s dx),λk=>?_,by simp[bR]⟩;simp[K2,zB,be];cases ra s dx<;>rfl
def aqP{a b}(h:Pw op a b=some t)(M:cs.g L T=.bool a)(aE:fh.g L T=.bool b):k7 ((yW op cs fh).f L T) λv=>bR U t v:=by
 have⟨x⟩:=cs;simp at M aE;unfold yW;cases op<;>simp only at h ⊢ <;>first|(cases h;done)|skip
 case eql=>cases h;refine⟨.bool (a==b),λk=>?_,by simp[bR]⟩;simp[M,aE];cases a<;>cases b<;>rfl
 case neq=>cases h;refine⟨.bool (a !=b),λk=>?_,by simp[bR]⟩;simp[M,aE];cases a<;>cases b<;>rfl
end
section
variable{U:ek}{Z:Nat->Nat}{A:bf}{H:bg}
def F3{s}(h:t5 A s):∃ak z aJ,look A s=some (.box ak z aJ):=by
 unfold t5 at h;grind
def BD{s}(h:nW A s):∃ak z Q u,look A s=some (.bF ak z Q u):=by
 unfold nW at h;grind
def N8{c:oK}{e:a2}{b:Bool}{v:bp}(h:isNil A c e=some b)(aI:co U Z A e v)(eq:Bool)(g:gb)(L:cx)(T:ca)(bI:g.g L T=v):∀k,(uG eq c g).f L T k=k (.bool (match eq with|true=>b|false=> !b)):=by
 have⟨g⟩:=g;simp at bI;intro k;unfold isNil at h;have jT:∀(b:Bool),((c=.p/\b=false/\∃a r s z,v=.ptr a r s z)\/(c=.f/\b=false/\∃f x y,v=.fn f x y)\/(b=true/\v=.nil c))->
  (uG eq c ⟨g⟩).f L T k=k (.bool (match eq with|true=>b|false=> !b)):=by
  rintro b (⟨rfl,rfl,a,r,s,z,rfl⟩|⟨rfl,rfl,f,x,y,rfl⟩|⟨rfl,rfl⟩)
  .cases eq<;>simp only[uG,bI]<;>rfl
  .cases eq<;>simp only[uG,bI]<;>rfl
  .cases eq<;>cases c<;>simp only[uG,bI]<;>rfl
 split at h
 .rename_i fF;split at h
  .simp_all[co,dE,bR]
  grind
 .split at h
  .rename_i q;cases h;have q:c=.p:=by simp_all
   simp only[co,dE,bR]at aI;have⟨a,r,z,_,_,_,_,_,e,_⟩:=aI;simp_all
  grind
 .split at h
  .rename_i q;cases h;have q:c=.f:=by simp_all
   simp only[co,dE,bR]at aI;have⟨dw,cQ,e,_⟩:=aI;simp_all
  grind
 .split at h
  .rename_i q;cases h;have q:c=.f:=by simp_all
   have⟨dw,cQ,e,_⟩:=aI;simp_all
  grind
 .split at h
  .rename_i q;cases h;simp only[ig,mz]at q;have⟨ak,z,aJ,e⟩:=F3 q.2;simp only[co,dE]at aI;simp_all
  grind
 .split at h
  .rename_i q;cases h;simp at q;have⟨ak,z,Q,u,e⟩:=BD q.2;exact jT false (.inl ⟨q.1,rfl,_,_,_,_,aI _ _ _ _ e⟩)
  grind
 grind
def dE.aA(h:dE U Z A e v):co U Z A e v:=by cases e<;>first|exact h|exact h.elim
def c5.qo:∀{l}{aK},c5 U l aK->gc U Z A (l.map .J) aK
 |[],_,h=>by subst h;rfl
 |t::l,_,h=>by obtain⟨v,aK,rfl,D,F⟩:=h.inv;exact⟨v,aK,rfl,D,F.qo⟩
def gc.append:∀{a b}{l m},gc U Z A a l->gc U Z A b m->gc U Z A (a++b) (l++m)
 |[],_,_,_,h,cz=>by simp_all[gc]
 |e::a,_,_,_,h,cz=>by obtain⟨v,aK,rfl,g,h⟩:=h;exact⟨v,_,rfl,g,gc.append h cz⟩
def gc.take:∀{a}{l}(n),gc U Z A a l->gc U Z A (a.take n) (l.take n)
 |_,_,0,_=>by rfl
 |[],_,n+1,h=>by simp_all[gc]
 |e::a,_,n+1,h=>by obtain⟨v,aK,rfl,g,h⟩:=h;exact⟨v,_,rfl,g,gc.take n h⟩
def gc.drop:∀{a}{l}(n),gc U Z A a l->gc U Z A (a.drop n) (l.drop n)
 |_,_,0,h=>by simp_all
 |[],_,n+1,h=>by simp_all[gc]
 |e::a,_,n+1,h=>by obtain⟨v,aK,rfl,g,h⟩:=h;simpa using gc.drop n h
def gc.nth:∀{a}{l}(i),gc U Z A a l->i<a.length->∃v,l[i]?=some v/\dE U Z A (jv a i) v
 |[],_,_,_,aN=>by grind
 |e::a,_,0,h,_=>by obtain⟨v,aK,rfl,g,h⟩:=h;exact⟨v,rfl,g⟩
 |e::a,_,i+1,h,aN=>by obtain⟨v,aK,rfl,g,h⟩:=h;have⟨w,D,F⟩:=gc.nth i h (by simp_all);exact⟨w,by simp_all,F⟩
def Cw{α}{l:List α}{n}(h:gC l n):l.length=n:=dA.1 h
def wi{α}:∀(l:List α)(n)(k:List α->Bool),n<=l.length->o8 l n k=k (l.drop n)
 |[],0,_,_=>rfl
 |[],n+1,_,h=>by grind
 |a::l,0,_,_=>rfl
 |a::l,n+1,k,h=>wi l n k (by simp_all)
def zr{α}:∀(l:List α)(n)(k:List α->Bool),n<=l.length->rn l n k=k (l.take n)
 |[],0,_,_=>rfl
 |[],n+1,_,h=>by grind
 |a::l,0,_,_=>rfl
 |a::l,n+1,k,h=>zr l n (λr=>k (a::r)) (by simp_all)
def OX(h:l[i]?=some v)(k):vh l i k=k v:=by
 have aN:=(oo.1 h).1;unfold vh;rw[wi _ _ _ I];simp_all[Be]
def dE.cell{e:a2}{v:bp}(h:dE U Z A e v)(aB:match e with|.J (.agg _)=>False|.J (.gy _)=>False|.J .undef=>False|.i4=>False|.bN s _=>t5 A s=true|.bD s=>nW A s=true|.fU s _ _=>nW A s=true|_=>True)(cv:Bool)(dW:Nat->cx->Bool):rc v cv dW=cv:=by
 cases e with
 |J t=>
  cases t<;>simp only[dE,bR]at h aB<;>try exact aB.elim
  .simp_all
  .simp_all
  .obtain⟨_,rfl,_⟩:=h;rfl
  .simp_all
  .rcases h with⟨_,h|⟨_,_,_,_,_,_,h⟩⟩|⟨_,_,_,_,_,_,_,_,_,_,h,_⟩<;>(simp_all)
  .have⟨_,_,_,_,_,_,_,_,h,_⟩:=h;subst h;rfl
  .obtain⟨_,_,rfl,_⟩:=h;rfl
  simp_all
 |bx=>simp only[dE]at h;simp_all|i4=>simp_all|bN s aR=>have⟨ak,z,aJ,e⟩:=F3 aB;rw[h _ _ _ e];rfl|bD s=>have⟨ak,z,Q,u,e⟩:=BD aB;have h:=h _ _ _ _ e;unfold yH at h;split at h<;>(rw[h];rfl)|fU s r aR=>have⟨ak,z,Q,u,e⟩:=BD aB;rw[h _ _ _ _ e];rfl|agg l=>exact h.elim|fn f x y=>exact h.elim
end
section
variable{U:ek}{Z:Nat->Nat}{A:bf}
@[simp] def CM(a r s z)(k):sx (.ptr a r s z) k=k a r s z:=rfl
def GY(h:oN t)(aI:bR U t v)(cv)(dW:Nat->cx->Bool):rc v cv dW=cv:=
 dE.cell (U:=U) (Z:=λ_=>0) (A:=[]) (e:=.J t) aI (by cases t<;>first|(cases h;done)|trivial) cv dW
def IM{c}(h:nS A e n=some c)(aI:co U Z A e v):∃l,(∀k,kD v n k=k l)/\gc U Z A c l/\l.length=n:=by
 have one:∀b7:a2,dE U Z A b7 v->(∀(cv:Bool)(dW:Nat->cx->Bool),rc v cv dW=cv)->n=1->c=[b7]->∃l,(∀k,kD v n k=k l)/\gc U Z A c l/\l.length=n:=by rintro b7 D F rfl rfl;refine⟨[v],λk=>?_,⟨v,[],rfl,D,rfl⟩,rfl⟩;unfold kD;rw[F];rfl
 unfold nS at h;split at h
 .obtain⟨q,rfl⟩:=hC h;obtain⟨aK,rfl,g⟩:=aI;have q:=Cw q;subst q;refine⟨aK,λk=>?_,g,g.length⟩;exact AN _ _ _
 .obtain⟨q,rfl⟩:=hC h;exact one (.J _) aI (GY q aI) rfl rfl
 .obtain⟨q,rfl⟩:=hC h;have⟨e,q⟩:=Ej q;subst q;rw[e]at aI;obtain⟨aK,rfl,g⟩:=aI;rw[Oo];exact⟨aK,λk=>AN _ _ _,g.qo,g.length⟩
 .cases h;exact one .bx aI (λ_ _=>dE.cell (U:=U) (Z:=Z) (A:=A) (e:=.bx) aI trivial _ _) rfl rfl
 .rename_i s aR;obtain⟨q,rfl⟩:=hC h;exact one (.bN s aR) aI (λ_ _=>dE.cell (U:=U) (Z:=Z) (A:=A) (e:=.bN s aR) aI q _ _) rfl rfl
 .rename_i s;obtain⟨q,rfl⟩:=hC h;exact one (.bD s) aI (λ_ _=>dE.cell (U:=U) (Z:=Z) (A:=A) (e:=.bD s) aI q _ _) rfl rfl
 grind
section
variable{P:dK}
def ahM{aR l aK}{t}(h:At P t aR l=some e)(Y:gc U Z A l aK):k7 (λk=>(xK P t aR).f aK k) λv=>co U Z A e v:=by
 unfold At at h;unfold xK;cases D:p8 P t with
 |none=>simp_all
 |some b=>cases F:fy P t with
  |none=>simp_all
  |some n=>
   rw[D,F]at h;cases b with
   |true=>
    obtain⟨q,rfl⟩:=hC h;have q:=dT.1 q;have ii:=Y.length;refine⟨.agg n ((aK.drop aR).take n),λk=>?_,((aK.drop aR).take n),?_,(Y.drop aR).take n⟩
    .show o8 aK aR (λr=>rn r n λr=>k (.agg n r))=_;rw[wi _ _ _ I,zr _ _ _ (by grind)]
    grind
   |false=>obtain⟨q,rfl⟩:=hC h;have q:=dg.1 q;have⟨v,aj,an⟩:=Y.nth aR q;exact⟨v,λk=>OX aj k,an.aA⟩
def ahq{t}(h:IH P t f x=some e)(M:co U Z A x (g.g L T)):k7 ((CY P t f g).f L T) λv=>co U Z A e v:=by
 have⟨g⟩:=g;unfold IH at h;unfold CY;cases D:P.eV t with
 |none=>simp_all
 |some d=>
  rw[D]at h;cases d<;>try(cases h;done)
  rename_i cK;simp at h ⊢;cases F:cK[f]? with
  |none=>simp_all
  |some fd=>
   rw[F]at h;simp at h ⊢;have dv:∀(l:bK)(aK:cx)(m:Nat),g L T=.agg m aK->gc U Z A l aK->At P fd.type fd.offset l=some e->
    k7 ((match xK P fd.type fd.offset with|⟨p⟩=>(⟨λL T k=>rt (g L T) λ_ l=>p l k⟩:mE)).f L T) λv=>co U Z A e v:=by
    intro l aK m aq aL bO
    have⟨v,aj,an⟩:=ahM bO aL
    refine⟨v,λk=>?_,an⟩
    simp_all
   split at h
   .rename_i l;have⟨aK,aP,a3⟩:=M;grind
   .rename_i a6;split at h
    .rename_i n aD;cases q:xi n a6<;>rw[q]at h<;>try(cases h;done)
     have⟨aP,q⟩:=Ej q;subst q;rw[aP]at M;have⟨aK,a3,cW⟩:=M;simp[Oo]at h;exact dv _ aK _ a3 cW.qo h
    grind
   grind
def ahV{t}(h:Ii P A t f x=some e)(M:co U Z A x (g.g L T)):k7 ((DK P t f g).f L T) λv=>co U Z A e v:=by
 have⟨g⟩:=g;simp only at M;unfold Ii at h;unfold DK;cases D:P.eV t with
 |none=>rw[D]at h;cases h
 |some d=>
  rw[D]at h;cases d<;>try(cases h;done)
  rename_i cK;simp only at h ⊢;cases F:cK[f]? with
  |none=>rw[F]at h;cases h
  |some fd=>
   rw[F]at h;simp only at h ⊢;cases aq:fy P fd.type with
   |none=>rw[aq]at h;cases h
   |some m=>
    rw[aq]at h;cases m with
    |zero=>cases h
    |succ m=>
     simp only at h ⊢;have dv:∀(a r s z:Nat),g L T=.ptr a r s z->k7 (λk=>sx (g L T) λa r s z=>gr (Nat.add s fd.offset) λs=>k (.ptr a r s z)) λv=>v=.ptr a r (s+fd.offset) z:=by intro a r s z aP;exact⟨_,λk=>by simp only[aP,CM,k5];rfl,rfl⟩
     cases x with
     |bN s aR=>obtain⟨q,rfl⟩:=hC h;have⟨ak,z,aJ,aP⟩:=F3 q;have⟨v,aj,an⟩:=dv _ _ _ _ (M _ _ _ aP);refine⟨v,aj,λe8 cJ gj a3=>?_⟩;rw[aP]at a3;cases a3;exact an
     |fU s r aR=>obtain⟨q,rfl⟩:=hC h;have⟨ak,z,Q,u,aP⟩:=BD q;have⟨v,aj,an⟩:=dv _ _ _ _ (M _ _ _ _ aP);refine⟨v,aj,λe8 cJ gj fY a3=>?_⟩;rw[aP]at a3;cases a3;exact an
     |J a6=>obtain⟨q,rfl⟩:=hC h;have aP:=H2 q;rw[co.J,aP]at M;simp only[bR]at M;have⟨a,r,z,ax,n,ak,u,ee,a3,cW,g5⟩:=M;have⟨v,aj,an⟩:=dv _ _ _ _ a3;refine⟨v,aj,?_⟩;show bR U (.hy _ _ _) v;simp only[bR];exact⟨a,r,z,ax,n,ak,u,ee,an,cW,g5⟩
     |_=>cases h
end
end
def EX:∀(l:g4)(i),i<l.length->l[i]?=some (fT l i)
 |[],_,h=>by grind
 |_::_,0,_=>rfl
 |_::l,i+1,h=>by exact EX l i (by simp_all)
def gY.take{Q}(h:gY U z ax i Q)(a m):gY U z ax (i+a) ((Q.drop a).take m):=by
 refine gY.of λj aJ bl=>?_;rcases m4 j m with hm|hm
 .rw[List.getElem?_take_of_lt hm,Nc]at bl;have:=h.get _ bl;grind
 grind
section
variable{U:ek}{Z:Nat->Nat}{A:bf}{P:dK}{L:cx}{T:ca}
def G7(h:vX e=some s)(aI:co U Z A e v):∃n,v=.str s.length n/\ez s.length n=s:=by rw[Qv h]at aI;simp_all[co,dE,bR]
def ye(h:rs c e=some n)(aI:co U Z A e v):v=.int c n:=by rw[anp h]at aI;simp_all[co,dE,bR]
def Fj{b}(h:pj e=some b)(aI:co U Z A e v):v=.bool b:=by rw[SG h]at aI;simp_all[co,dE,bR]
def Ml(h:idx e b=some n)(aI:co U Z A e v):n<b/\∀k,pd v b k=k n:=by obtain⟨c,rfl,aQ,aD⟩:=akO h;simp_all[co,dE,bR,SO]
def ajv{i}{t}(h:Ij P t x i=some e)(M:co U Z A x (cs.g L T))(aN:co U Z A i (ry.g L T)):k7 ((DH P t cs ry).f L T) λv=>co U Z A e v:=by
 have⟨cs⟩:=cs;simp at M aN;unfold Ij at h;unfold DH;split at h
 .rename_i hu;simp only[hu];have⟨s,D,h⟩:=it h;have⟨j,F,h⟩:=it h;have⟨n,aP,a3⟩:=G7 D M;have⟨bl,cW⟩:=Ml F aN;have bI:=R4 j s.length n bl;rw[a3]at bI;rw[bI]at h;cases h;refine⟨.int 4 (Nat.land (Nat.shiftRight n (Nat.mul 8 j)) 255),λk=>?_,?_⟩
  .simp_all
  .have aB:Nat.land (Nat.shiftRight n (Nat.mul 8 j)) 255<256:=vK Nat.and_le_right af;show bR U (.int 4 _) _;simp only[bR,Lj];grind
 grind
def agA{i}{t}(h:HA P t A x i=some e)(M:co U Z A x (cs.g L T))(aN:co U Z A i (ry.g L T)):k7 ((C0 P t cs ry).f L T) λv=>co U Z A e v:=by
 have⟨cs⟩:=cs;have⟨ry⟩:=ry;unfold HA at h;unfold C0;split at h
 .rename_i ak hu;simp only[hu];cases ap:fy P ak with
  |none=>simp_all
  |some m=>
   rw[ap]at h;cases m with
   |zero=>cases h
   |succ m=>
    cases x with
    |J a6=>
     simp at h;cases q:rL a6<;>rw[q]at h<;>try(cases h;done)
     have aP:=Fu q;have⟨j,F,h⟩:=it h;obtain⟨aX,rfl⟩:=hC h;have aX:=Cw aX;have⟨bl,cW⟩:=Ml F aN;rw[aP]at M;simp only[bR]at M;rcases M with⟨M,_⟩|⟨a,eB,c,u,z,ax,n,e8,fY,ee,aj,an,aM,bs,dj,cp,ip,ms⟩
     .rw[M]at bl;simp at bl
     .have⟨dC,b3⟩:=cp.get j (EX _ j bl);have cA:z=m+1:=dC.symm.trans aX;subst cA;refine⟨.ptr a (eB+j) 0 (m+1),λk=>?_,?_⟩
      .simp only[aj];show pd (ry L T) _ _=_;rw[cW,kN rfl,k5];rfl
      .exact⟨a,eB+j,m+1,ax,n,e8,fY,ee,rfl,an,I,bs,dC,b3,I,λq=>dj.2,λq=>I⟩
    |bD s=>
     simp at h;split at h
     .rename_i e8 z Q u Y;cases q:Nat.beq z (m+1)<;>rw[q]at h<;>try(cases h;done)
      have q:=dA.1 q;subst q;have⟨j,F,h⟩:=it h;cases h;have⟨bl,cW⟩:=Ml F aN;have aI:=M _ _ _ _ Y;have dv:∃c fY,cs L T=.slice (Z s) 0 Q.length c fY (m+1):=by
       cases Q with
       |nil=>grind
       |cons r Q=>cases u<;>exact⟨_,_,aI⟩
      have⟨c,fY,g5⟩:=dv;refine⟨.ptr (Z s) j 0 (m+1),λk=>?_,λasz gA an0 vl jw=>?_⟩
      all_goals simp_all
     grind
    |_=>cases h
 grind
def aeF{d x j}(auX:S.A=A)(cB:f9 U Z A S.L L)(bY:gR U Z A es.length S.E T)(h:uE es ah S d x=some j):∀k,(wk es ah x).f L T d k=k j:=by
 cases x with
 |none=>simp[uE]at h;subst h;intro k;rfl|some x=>simp only[uE]at h;have:=lf (ah:=ah) cB bY x;have⟨_,e⟩:=Ml h this;simp_all[wk]
def ahy{aaQ aeQ hU aN}{t}(h:KW P t x aaQ aeQ=some e)(M:co U Z A x (g.g L T))(Ch:∀i,aaQ=some i->∀k,hU.f L T 0 k=k i)(BL:∀d j,aeQ d=some j->∀k,aN.f L T d k=k j):k7 ((Ct P t g hU aN).f L T) λv=>co U Z A e v:=by
 have⟨g⟩:=g;have⟨hU⟩:=hU;have⟨aN⟩:=aN;simp at M Ch BL;unfold KW at h;unfold Ct;split at h
 .rename_i hu;simp only[hu];have⟨s,D,h⟩:=it h;have⟨i,j,F,aq,h⟩:=qW h;obtain⟨q,rfl⟩:=hC h;simp only[ig]at q;have⟨n,aP,a3⟩:=G7 D M;have bC:=dT.1 q.1;have aX:=dT.1 q.2;refine⟨.str (j - i) (Nat.shiftRight n (Nat.mul 8 i)),λk=>?_,?_⟩
  .simp only[aP,aa4];rw[BL _ _ aq,Ch _ F,q.1,q.2,k5,k5];rfl
  .show bR U (.str _) _;have Y:((s.drop i).take (j - i)).length=j - i:=by grind
   simp only[bR,Y];refine⟨_,rfl,?_⟩;have d1:ez (s.length - i) (n>>>(8*i))=s.drop i:=by rw[PS i s.length n I,a3]
   have d2:=KG (j - i) (s.length - i) (n>>>(8*i)) I;simp_all
 .rename_i ak hu;simp only[hu];cases x with
  |J a6=>
   simp at h;cases q:rL a6<;>rw[q]at h<;>try(cases h;done)
   have aP:=Fu q;cases ap:fy P ak with
   |none=>grind
   |some m=>
    rw[ap]at h;cases m with
    |zero=>cases h
    |succ m=>
     simp only at h ⊢;cases aX:gC (fT (jJ a6) 0) (m+1)<;>rw[aX]at h<;>try(cases h;done)
     have aX:=Cw aX;have⟨i,j,F,aq,h⟩:=qW h;cases b4:(Nat.ble j (jJ a6).length&&Nat.ble i j)<;>rw[b4]at h<;>try(cases h;done)
     simp only[ig]at b4;have dc:=dT.1 b4.1;have eC:=dT.1 b4.2;rw[aP]at M;have ed:jJ a6≠[]:=by grind[fT]
     rcases M with⟨M,_⟩|⟨a,eB,c,u,z,ax,n,e8,fY,ee,aj,an,aM,bs,dj,cp,ip,ms⟩
     .grind
     have Lq:0<(jJ a6).length:=List.length_pos_iff.2 ed;have cA:z=m+1:=by have:=(cp.get 0 (EX _ 0 Lq)).1;grind
     subst cA;have start:∀k:bp->Bool,ts (g L T) (aN L T 0 λj=>hU L T 0 λi=>bd (Nat.beq j 0) (bd (Nat.beq i 0) (k (.nil .s)) false) false)
      (λa eB l c u z=>bd (Nat.beq z (m+1)) (aN L T l λj=>hU L T 0 λi=>bd (Nat.ble i j)
       (bd u (bd (Nat.ble j l) (bd (Nat.blt i j) (gr (Nat.add eB i) λeB=>gr (Nat.sub j i) λl=>k (.slice a eB l (Nat.add c i) true z))
        (k (.slice a eB 0 (Nat.add c i) true z))) false)
        (bd (Nat.ble j c) (bd (Nat.blt i c) (gr (Nat.add eB i) λeB=>gr (Nat.sub j i) λl=>gr (Nat.sub c i) λc=>k (.slice a eB l c false z))
         (k (.slice a eB 0 0 false z))) false)) false) false)=
      bd u (bd (Nat.blt i j) (k (.slice a (eB+i) (j - i) (c+i) true (m+1))) (k (.slice a eB 0 (c+i) true (m+1))))
       (bd (Nat.ble j c) (bd (Nat.blt i c) (k (.slice a (eB+i) (j - i) (c - i) false (m+1))) (k (.slice a eB 0 0 false (m+1)))) false):=by
      intro k
      rw[aj,IC,kN rfl,BL _ _ aq,Ch _ F,b4.2,b4.1]
      simp only[k5]
      rfl
     have rV:∀(B:bp),(∀k:bp->Bool,(bd u (bd (Nat.blt i j) (k (.slice a (eB+i) (j - i) (c+i) true (m+1))) (k (.slice a eB 0 (c+i) true (m+1))))
      (bd (Nat.ble j c) (bd (Nat.blt i c) (k (.slice a (eB+i) (j - i) (c - i) false (m+1))) (k (.slice a eB 0 0 false (m+1)))) false))=k B)->co U Z A e B->
      k7 (λk:bp->Bool=>ts (g L T) (aN L T 0 λj=>hU L T 0 λi=>bd (Nat.beq j 0) (bd (Nat.beq i 0) (k (.nil .s)) false) false)
      (λa eB l c u z=>bd (Nat.beq z (m+1)) (aN L T l λj=>hU L T 0 λi=>bd (Nat.ble i j)
       (bd u (bd (Nat.ble j l) (bd (Nat.blt i j) (gr (Nat.add eB i) λeB=>gr (Nat.sub j i) λl=>k (.slice a eB l (Nat.add c i) true z))
        (k (.slice a eB 0 (Nat.add c i) true z))) false)
        (bd (Nat.ble j c) (bd (Nat.blt i c) (gr (Nat.add eB i) λeB=>gr (Nat.sub j i) λl=>gr (Nat.sub c i) λc=>k (.slice a eB l c false z))
         (k (.slice a eB 0 0 false z))) false)) false) false)) λv=>co U Z A e v:=
      λB aV aw=>⟨B,λk=>(start k).trans (aV k),aw⟩
     have na:u=false->Nat.ble j c=true:=λhu=>zA (nR dc (dj.1 hu));cases Cg:Nat.blt i j with
     |true=>
      have akJ:=dg.1 Cg;rw[Cg]at h rV;cases h;have ii:(((jJ a6).drop i).take (j - i)).length=j - i:=by grind
      cases u with
      |true=>refine rV (.slice a (eB+i) (j - i) (c+i) true (m+1)) (λk=>rfl) ?_;show bR U (.aH _ _) _;simp only[bR,ii];exact .inr ⟨a,eB+i,c+i,true,m+1,ax,n,e8,fY,ee,rfl,an,I,bs,⟨by simp,dj.2⟩,cp.take i (j - i),I,I⟩
      |false=>
       have aQ:=dj.1 rfl;refine rV (.slice a (eB+i) (j - i) (c - i) false (m+1)) (λk=>?_) ?_
       .rw[na rfl,zu (I:i<c)];rfl
       .show bR U (.aH _ _) _;simp only[bR,ii];exact .inr ⟨a,eB+i,c - i,false,m+1,ax,n,e8,fY,ee,rfl,an,I,bs,⟨by grind,dj.2⟩,cp.take i (j - i),I,I⟩
     |false=>
      have akJ:j<=i:=by
       rcases m4 i j with cz|cz
       .rw[zu cz]at Cg;grind
       grind
      have ZW:j=i:=I;rw[Cg]at h rV;cases h;cases u with
      |true=>refine rV (.slice a eB 0 (c+i) true (m+1)) (λk=>rfl) ?_;show bR U (.aH _ []) _;simp only[bR];grind
      |false=>
       cases aeL:Nat.blt i c with
       |true=>refine rV (.slice a (eB+i) (j - i) (c - i) false (m+1)) (λk=>by rw[na rfl,aeL];rfl) ?_;show bR U (.aH _ []) _;simp only[bR];exact .inl ⟨trivial,.inr ⟨by simp,a,eB+i,c - i,false,m+1,by grind⟩⟩
       |false=>refine rV (.slice a eB 0 0 false (m+1)) (λk=>by rw[na rfl,aeL];rfl) ?_;show bR U (.aH _ []) _;simp only[bR];grind
  |bx=>cases h
  |_=>cases h
 grind
end
end Go.Tx
