/- A part. -/
import Derived.Test.YtkjmpcfikenlbaaGreatDoorX2
set_option linter.all false
namespace Go.Tx
open Go Go.Ev
noncomputable abbrev wC:dK:=N6 Go.Proofs.Tryz.prog
def afa:aO:=[7,8,16,17,18,19,20,21,22,58,59,61,62,65,138,141,142,143,144,147,148,149,150,151,154,207,210,215,216,217,260,261,288]
def KB:List (Nat×aO):=[(17,[74]),(18,[78]),(19,[82,86,130,49]),(61,[86,49]),(62,[86,49]),(20,[49]),(21,[134,49]),(59,[0,1000]),(7,[74,78,82,86,130,134,49]),(260,[5]),(261,[5]),(3,[74,78,82,86,130,134,49])]
def wY:List (Nat×aO)->Nat->aO
 |[],_=>[]
 |(a,l)::r,f=>match Nat.beq a f with
  |true=>l|false=>wY r f
def Xi:List (Nat×Nat):=[(149,84),(19,32)]
def aek(f:Nat):kH:=⟨λg i=>Nat.beq i 0&&cn g afa||Nat.beq g 266&&(Nat.beq i 3||Nat.beq i 4),λg=>cn g [63,64],λd=>Xi.any (λp=>Nat.beq p.1 f&&Nat.beq p.2 d),wY KB,wY KB f,λd=>Nat.beq f 3&&Nat.beq d 18,wY [(21,[2,5])] f⟩
def Good(C:Nat->cE)(ext:Nat->Option eS):Prop:=∀f,ext f=none->∀m args H k,C (m+1) f args H k=(yI wC je ext f).f m (C m) args H k
abbrev ja(l:List (Nat×aO×aO)):Nat->Nat->Option qq:=λ_ id=>match l with
 |[(_,f,p)]=>some ⟨f,[],[],p⟩|l=>(l.find? λq=>Nat.beq q.1 id).map λq=>⟨q.2.1,[],[],q.2.2⟩
variable{A:bf}
def Good.z{C ext f args b8}(aa:Good C ext)(jc)(M:ext f=none)(h:Hb C aek jc wC je f args A b8):bU C (wY KB f) f args A b8:=abZ (aa f M) M (ad8 h)
def Pm:aO:=[23,340,125,203,290,276,288,261,5,4,8,22]
def eX(s:lS):Nat:=s.count 10
def cU(gS:lS):List lS->lS
 |[]=>[]|[a]=>a|a::l=>a++(gS++cU gS l)
structure e9 where
 W:Value
 length:Nat
abbrev dD(g:Nat)(Q:e9)(a:Nat):fB:=.box 60 2 (.bS [.J (.op g Q.W),.J (.int 3 a)])
structure Env(C:Nat->cE)(ext:Nat->Option eS)(rows:e9):Prop where
 g:Good C ext
 e:∀f,cn f Pm=false->ext f=none
 O0:∀g,bU C [] 4 [.J (.op g rows.W)] [] λv A=>A=[]/\v=.bool (Nat.ble rows.length 700)
 left:rows.length<=700->∀g a,a<=rows.length->bU C [] 22 [.bN 1000 0] [(1000,dD g rows a)] λv A=>A=[(1000,dD g rows a)]/\v=.bool (Nat.blt a rows.length)
 next:rows.length<=700->∀g a n,a<=rows.length->0<n->n<9223372036854775808->bU C [] 8 [.bN 1000 0,.J (.int 3 n)] [(1000,dD g rows a)] λv A=>(∃r,v=.int 3 r/\r<n)/\∃a,a<=rows.length/\A=[(1000,dD g rows a)]
 Sc:bU C [] 5 [] [] λv A=>A=[]/\v=.bool true
def Env.z{C}{ext}{Q}(aa:Env C ext Q)(f){X:List Nat}{args:List a2}{A}{b8}(jc)(M:cn f Pm=false)(cR:wY KB f=X)(h:Hb C aek jc wC je f args A b8):bU C X f args A b8:=by subst cR;exact aa.g.z jc (aa.e f M) h
def iF:bK->List (Nat×a2)->bK
 |E,[]=>E|E,(i,v)::l=>iF (j9 E i v) l
def Xc{dQ a8}{a9:(bK->bf->Prop)->bK->bf->Prop}{fm:bK}{iu}{α:Type}(e7:α->List (Nat×a2))(T:α->bf)(pb:α->Nat)(fL:α->Prop)(br:∃a,fL a/\forget fm dQ=forget (iF fm (e7 a)) dQ/\pS iu a8=some (T a))(ap:∀a (ba),fL a->(∀bz fe bE,pb bz<pb a->fL bz->forget fe dQ=forget (iF fm (e7 bz)) dQ->pS bE a8=some (T bz)->ba fe bE)->k2 id (forget (iF fm (e7 a)) dQ) λE=>a9 ba E (T a)):sk (λba E A=>oO (some ⟨dQ,[],[],a8⟩) E A λE A=>a9 ba E A) fm iu:=by have⟨a,D,F,aq⟩:=br;refine Q6 (λm E A=>∃a,m=pb a/\fL a/\forget E dQ=forget (iF fm (e7 a)) dQ/\pS A a8=some (T a)) ⟨_,a,rfl,D,F,aq⟩ ?_;rintro m ba E A ⟨a,rfl,aj,an,aM⟩ bt;have:=ap a ba aj λbz fe bE bC aX b4 dc=>bt _ _ _ bC ⟨bz,rfl,aX,b4,dc⟩;unfold oO;simp only[Ec];rw[an];simp only[yP,xH]at this ⊢;unfold tU;simp only;rw[aM];exact this
def fu{dQ a8}{a9:(bK->bf->Prop)->bK->bf->Prop}{fm:bK}{iu T}{α:Type}(f:α->di)(l:List α)(p)(e7:List α->List (Nat×a2))(fL:List α->Prop)(br:fL []/\forget fm dQ=forget (iF fm ((p,.J (.int 3 0))::e7 [])) dQ/\pS iu a8=some T)(ap:∀d x r (ba),l=d++x::r->d.length<(l.map f).length->fT (l.map f) d.length=f x->fL d->(∀fe bE,fL (d++[x])->forget fe dQ=forget (iF fm ((p,.J (.int 3 (d.length+1)))::e7 (d++[x]))) dQ->pS bE a8=some T->ba fe bE)->k2 id (forget (iF fm ((p,.J (.int 3 d.length))::e7 d)) dQ) λE=>a9 ba E T)(aw:∀(ba),fL l->k2 id (forget (iF fm ((p,.J (.int 3 (l.map f).length))::e7 l)) dQ) λE=>a9 ba E T):sk (λba E A=>oO (some ⟨dQ,[],[],a8⟩) E A λE A=>a9 ba E A) fm iu:=by
 refine Xc (α:={d:List α // ∃r,l=d++r}) (λd=>(p,.J (.int 3 d.1.length))::e7 d.1) (λ_=>T) (λd=>l.length - d.1.length) (λd=>fL d.1) ⟨⟨[],l,rfl⟩,br.1,br.2.1,br.2.2⟩ ?_;rintro⟨d,r,rfl⟩ ba a7 bt;cases r with
 |nil=>have:=aw ba (by rw[kE];exact a7);rw[ex]at this;simp only[kE]at this ⊢;exact this
 |cons x r=>refine ap d x r ba rfl (by simp) (k6 f d x r) a7 λfe bE D F aq=>?_;refine bt ⟨d++[x],r,by simp⟩ fe bE (by simp;omega) D ?_ aq;simpa using F
 where k6 {α:Type} (f:α->di):∀(d:List α)(x:α)(r:List α),fT ((d++x::r).map f) d.length=f x
  |[],x,r=>rfl|a::d,x,r=>k6 f d x r
def Hu{dQ a8}{a9:(bK->bf->Prop)->bK->bf->Prop}{fm:bK}{iu T}(n p)(e7:Nat->List (Nat×a2))(fL:Nat->Prop)(br:fL 0/\forget fm dQ=forget (iF fm ((p,.J (.int 3 0))::e7 0)) dQ/\pS iu a8=some T)(ap:∀i (ba),i<n->fL i->(∀fe bE,fL (i+1)->forget fe dQ=forget (iF fm ((p,.J (.int 3 (i+1)))::e7 (i+1))) dQ->pS bE a8=some T->ba fe bE)->k2 id (forget (iF fm ((p,.J (.int 3 i))::e7 i)) dQ) λE=>a9 ba E T)(aw:∀(ba),fL n->k2 id (forget (iF fm ((p,.J (.int 3 n))::e7 n)) dQ) λE=>a9 ba E T):sk (λba E A=>oO (some ⟨dQ,[],[],a8⟩) E A λE A=>a9 ba E A) fm iu:=by
 refine Xc (α:={i:Nat // i<=n}) (λi=>(p,.J (.int 3 i.1))::e7 i.1) (λ_=>T) (λi=>n - i.1) (λi=>fL i.1) ⟨⟨0,qG n⟩,br.1,br.2.1,br.2.2⟩ ?_;rintro⟨i,aN⟩ ba a7 bt;rcases m4 i n with h|h
 .exact ap i ba h a7 λfe bE D F aq=>bt ⟨i+1,h⟩ fe bE (by simp;omega) D F aq
 .have:i=n:=Nat.le_antisymm aN h;subst this;exact aw ba a7
abbrev bj:=lS
inductive al where
 |mk (ay:bj) (g:Nat) (l:List al)
structure c3 where
 ay:bj
 g:Nat
 ec:List bj
structure eT where
 dr:Bool
 ay:bj
 bL:al
structure dX where
 since:Nat
 dr:Bool
 e6:Bool
 ay:bj
 aj:Nat
 params:List bj
 an:Nat
 fields:List eT
structure fl where
 ind:Bool
 ay:bj
 g:Nat
 gL:List al
structure dV where
 since:Nat
 dr:Bool
 e6:Bool
 ay:bj
 aj:Nat
 params:List bj
 an:Nat
 cases:List fl
structure fS where
 ay:bj
 g:Nat
 args:List al
 eW:al
 gk:bj
structure eG where
 since:Nat
 dr:Bool
 pV:Bool
 ay:bj
 g:Nat
 eu:List fS
structure ko where
 Cj:bj
 func:bj
structure em where
 rx:bj
 aj:Nat
 dB:List c3
 bL:al
 an:Nat
 binds:List ko
structure hM where
 ay:bj
 rel:Nat
structure dI where
 ma:Bool
 case:bj
 g:Nat
 names:List bj
inductive ai where
 |mk (kind:Nat) (ay mem:bj) (num:Nat) (aj:Nat) (types:List al) (an:Nat) (cg:List bj) (aM:Nat) (bM:List dI) (bs:Nat) (kids:List ai) (bL:al) (pos:Nat)
structure cG where
 ay:bj
 bL:al
 has:Bool
 gk:ai
structure cu where
 since:Nat
 dr:Bool
 inl:Bool
 ay:bj
 aj:Nat
 dB:List c3
 an:Nat
 args:List cG
 eW:al
 has:Bool
 body:ai
structure cZ where
 kind:Nat
 ay:bj
 rel:Nat
 aj:Nat
 fA:List hM
 an:Nat
 dJ:List dX
 aM:Nat
 d9:List dV
 bs:Nat
 e2:List eG
 cp:Nat
 dn:List em
 dj:Nat
 funcs:List cu
mutual
def al.row:al->di
 |.mk ay g l=>[.str ay,.aH g (al.rows l)]
def al.rows:List al->g4
 |[]=>[]|a::l=>a.row::al.rows l
end
def al.ay:al->bj
 |.mk ay _ _=>ay
def al.g:al->Nat
 |.mk _ g _=>g
def al.l:al->List al
 |.mk _ _ l=>l
def al.Ko:∀l,al.rows l=l.map al.row
 |[]=>rfl
 |a::l=>by rw[al.rows,al.Ko l];rfl
def al.dN(t:al):t.row=[.str t.ay,.aH t.g (t.l.map al.row)]:=by cases t;rw[al.row,al.Ko];rfl
def b6(s:bj):di:=[.str s]
def c3.row(x:c3):di:=[.str x.ay,.aH x.g (x.ec.map b6)]
abbrev al.cells(t:al):di:=[.str t.ay,.aH t.g (t.l.map al.row)]
def eT.row(x:eT):di:=[.bool x.dr,.str x.ay,.str x.bL.ay,.aH x.bL.g (x.bL.l.map al.row)]
def dX.row(x:dX):di:=[.int 3 x.since,.bool x.dr,.bool x.e6,.str x.ay,.aH x.aj (x.params.map b6),.aH x.an (x.fields.map eT.row)]
def fl.row(x:fl):di:=[.bool x.ind,.str x.ay,.aH x.g (x.gL.map al.row)]
def dV.row(x:dV):di:=[.int 3 x.since,.bool x.dr,.bool x.e6,.str x.ay,.aH x.aj (x.params.map b6),.aH x.an (x.cases.map fl.row)]
def fS.row(x:fS):di:=[.str x.ay,.aH x.g (x.args.map al.row),.str x.eW.ay,.aH x.eW.g (x.eW.l.map al.row),.str x.gk]
def eG.row(x:eG):di:=[.int 3 x.since,.bool x.dr,.bool x.pV,.str x.ay,.aH x.g (x.eu.map fS.row)]
def ko.row(x:ko):di:=[.str x.Cj,.str x.func]
def em.row(x:em):di:=[.str x.rx,.aH x.aj (x.dB.map c3.row),.str x.bL.ay,.aH x.bL.g (x.bL.l.map al.row),.aH x.an (x.binds.map ko.row)]
def hM.row(x:hM):di:=[.str x.ay,.int 3 x.rel]
def dI.row(x:dI):di:=[.bool x.ma,.str x.case,.aH x.g (x.names.map b6)]
mutual
def ai.row:ai->di
 |.mk kind ay mem num aj types an cg aM bM bs kids bL pos=>[.int 3 kind,.str ay,.str mem,.int 3 num,.aH aj (types.map al.row),.aH an (cg.map b6),.aH aM (bM.map dI.row),.aH bs (ai.rows kids),.str bL.ay,.aH bL.g (bL.l.map al.row),.int 3 pos]
def ai.rows:List ai->g4
 |[]=>[]|a::l=>a.row::ai.rows l
end
def ai.Ko:∀l,ai.rows l=l.map ai.row
 |[]=>rfl
 |a::l=>by rw[ai.rows,ai.Ko l];rfl
namespace ai
def kind:ai->Nat|.mk a _ _ _ _ _ _ _ _ _ _ _ _ _=>a
def ay:ai->bj|.mk _ a _ _ _ _ _ _ _ _ _ _ _ _=>a
def mem:ai->bj|.mk _ _ a _ _ _ _ _ _ _ _ _ _ _=>a
def num:ai->Nat|.mk _ _ _ a _ _ _ _ _ _ _ _ _ _=>a
def aj:ai->Nat|.mk _ _ _ _ a _ _ _ _ _ _ _ _ _=>a
def types:ai->List al|.mk _ _ _ _ _ a _ _ _ _ _ _ _ _=>a
def an:ai->Nat|.mk _ _ _ _ _ _ a _ _ _ _ _ _ _=>a
def cg:ai->List bj|.mk _ _ _ _ _ _ _ a _ _ _ _ _ _=>a
def aM:ai->Nat|.mk _ _ _ _ _ _ _ _ a _ _ _ _ _=>a
def bM:ai->List dI|.mk _ _ _ _ _ _ _ _ _ a _ _ _ _=>a
def bs:ai->Nat|.mk _ _ _ _ _ _ _ _ _ _ a _ _ _=>a
def kids:ai->List ai|.mk _ _ _ _ _ _ _ _ _ _ _ a _ _=>a
def bL:ai->al|.mk _ _ _ _ _ _ _ _ _ _ _ _ a _=>a
def pos:ai->Nat|.mk _ _ _ _ _ _ _ _ _ _ _ _ _ a=>a
abbrev cells(e:ai):di:=[.int 3 e.kind,.str e.ay,.str e.mem,.int 3 e.num,.aH e.aj (e.types.map al.row),.aH e.an (e.cg.map b6),.aH e.aM (e.bM.map dI.row),.aH e.bs (e.kids.map ai.row),.str e.bL.ay,.aH e.bL.g (e.bL.l.map al.row),.int 3 e.pos]
def dN(e:ai):e.row=e.cells:=by cases e;rw[ai.row,ai.Ko];rfl
end ai
def cG.row(x:cG):di:=[.str x.ay,.str x.bL.ay,.aH x.bL.g (x.bL.l.map al.row),.bool x.has]++x.gk.cells
def cu.row(x:cu):di:=[.int 3 x.since,.bool x.dr,.bool x.inl,.str x.ay,.aH x.aj (x.dB.map c3.row),.aH x.an (x.args.map cG.row),.str x.eW.ay,.aH x.eW.g (x.eW.l.map al.row),.bool x.has]++x.body.cells
abbrev cZ.cells(x:cZ):di:=[.int 3 x.kind,.str x.ay,.int 3 x.rel,.aH x.aj (x.fA.map hM.row),.aH x.an (x.dJ.map dX.row),.aH x.aM (x.d9.map dV.row),.aH x.bs (x.e2.map eG.row),.aH x.cp (x.dn.map em.row),.aH x.dj (x.funcs.map cu.row)]
def al.ind{P:al->Prop}(h:∀t,(∀x∈t.l,P x)->P t):∀t,P t:=by
 have:∀n (t:al),SizeOf.sizeOf t<n->P t:=by
  intro n;induction n with
  |zero=>intro t au;omega
  |succ n bQ=>
   intro t au;refine h t λx M=>bQ x ?_;cases t with
   |mk ay g l=>have:=List.sizeOf_lt_of_mem M;simp[al.l]at this;simp at au;omega
 exact λt=>this _ t (Nat.lt_succ_self _)
def ai.ind{P:ai->Prop}(h:∀t,(∀x∈t.kids,P x)->P t):∀t,P t:=by
 have:∀n (t:ai),SizeOf.sizeOf t<n->P t:=by
  intro n;induction n with
  |zero=>intro t au;omega
  |succ n bQ=>
   intro t au;refine h t λx M=>bQ x ?_;cases t with
   |mk bk bu b1 cP dO eb eY mN gZ pM oE auu ti wD=>have:=List.sizeOf_lt_of_mem M;simp[ai.kids]at this;simp at au;omega
 exact λt=>this _ t (Nat.lt_succ_self _)
mutual
def al.ok:al->Prop
 |.mk ay _ l=>ay.length<1000/\l.length<100/\al.wM l
def al.wM:List al->Prop
 |[]=>True|a::l=>a.ok/\al.wM l
end
def al.adc:∀{l},al.wM l->∀x∈l,x.ok
 |[],_,x,M=>by cases M
 |a::l,h,x,M=>by
  rcases hS.1 M with rfl|M
  .exact h.1
  .exact al.adc h.2 x M
def al.mS(t:al):t.ok↔t.ay.length<1000/\t.l.length<100/\∀x∈t.l,x.ok:=by
 cases t with
 |mk ay g l=>
  refine⟨λh=>⟨h.1,h.2.1,al.adc h.2.2⟩,λh=>⟨h.1,h.2.1,?_⟩⟩;have:∀l:List al,(∀x∈l,x.ok)->al.wM l:=by
   intro l;induction l with
   |nil=>intro _;trivial|cons a l bQ=>intro h;exact⟨h a ua,bQ λx M=>h x (tD _ M)⟩
  exact this l h.2.2
mutual
def al.ir:al->Nat
 |.mk _ _ l=>al.f6 l+1
def al.f6:List al->Nat
 |[]=>0|a::l=>max a.ir (al.f6 l)
end
def al.vG(t:al):t.ir=al.f6 t.l+1:=by cases t;rw[al.ir];rfl
def al.EG:∀(d)(x),al.f6 (d++[x])=max (al.f6 d) x.ir
 |[],x=>by simp[al.f6]
 |a::d,x=>by simp[al.f6,al.EG d x,Nat.max_assoc]
def al.Bv:∀{l}{x},x∈l->x.ir<=al.f6 l
 |a::l,x,h=>by
  rcases hS.1 h with rfl|h
  .simp [al.f6];omega
  .have:=al.Bv h;simp[al.f6];omega
def al.MI(d r):al.f6 d<=al.f6 (d++r):=by
 induction d with
 |nil=>simp[al.f6]|cons a d bQ=>simp[al.f6];omega
def al.b0(t:al):Prop:=t.ok/\t.ir<1000
def al.b0.l0{t x:al}(h:t.b0)(M:x∈t.l):x.b0:=⟨((al.mS t).1 h.1).2.2 x M,by have:=al.Bv M;have:=h.2;rw[al.vG]at this;omega⟩
def al.b0.len{t:al}(h:t.b0):(t.l.map al.row).length<100:=by rw[ex];exact((al.mS t).1 h.1).2.1
def dI.ok(a:dI):Prop:=a.case.length<1000/\a.names.length<100/\∀s∈a.names,s.length<1000
def ai.mj(e:ai):Prop:=e.ay.length<1000/\e.mem.length<1000/\e.types.length<100/\(∀t∈e.types,t.b0)/\e.cg.length<100/\(∀s∈e.cg,s.length<1000)/\e.bM.length<100/\(∀a∈e.bM,a.ok)/\e.kids.length<100/\e.kind<9223372036854775808/\e.num<18446744073709551616
mutual
def ai.ok:ai->Prop
 |.mk bk bu b1 cP dO eb eY mN gZ pM oE l ti wD=>ai.mj (.mk bk bu b1 cP dO eb eY mN gZ pM oE l ti wD)/\ai.wM l
def ai.wM:List ai->Prop
 |[]=>True|a::l=>a.ok/\ai.wM l
end
def ai.Xo:∀{l},ai.wM l↔∀x∈l,x.ok
 |[]=>by simp[ai.wM]
 |a::l=>by simp[ai.wM,ai.Xo]
def ai.mS(t:ai):t.ok↔t.mj/\∀x∈t.kids,x.ok:=by cases t;rw[ai.ok,ai.Xo];rfl
mutual
def ai.size:ai->Nat
 |.mk _ _ _ _ _ _ _ _ _ _ _ l _ _=>ai.fw l+1
def ai.fw:List ai->Nat
 |[]=>0|a::l=>a.size+ai.fw l
end
def ai.size_eq(t:ai):t.size=ai.fw t.kids+1:=by cases t;rw[ai.size];rfl
def ai.EZ:∀(d r),ai.fw (d++r)=ai.fw d+ai.fw r
 |[],r=>by simp[ai.fw]
 |a::d,r=>by simp[ai.fw,ai.EZ d r];omega
def ai.acH:∀{l}{x},x∈l->x.size<=ai.fw l
 |a::l,x,h=>by
  rcases hS.1 h with rfl|h
  .simp [ai.fw]
  .have:=ai.acH h;simp[ai.fw];omega
mutual
def ai.ir:ai->Nat
 |.mk _ _ _ _ _ _ _ _ _ _ _ l _ _=>ai.f6 l+1
def ai.f6:List ai->Nat
 |[]=>0|a::l=>max a.ir (ai.f6 l)
end
def ai.vG(t:ai):t.ir=ai.f6 t.kids+1:=by cases t;rw[ai.ir];rfl
def ai.EG:∀(d)(x),ai.f6 (d++[x])=max (ai.f6 d) x.ir
 |[],x=>by simp[ai.f6]
 |a::d,x=>by simp[ai.f6,ai.EG d x,Nat.max_assoc]
def ai.Bv:∀{l}{x},x∈l->x.ir<=ai.f6 l
 |a::l,x,h=>by
  rcases hS.1 h with rfl|h
  .simp [ai.f6];omega
  .have:=ai.Bv h;simp[ai.f6];omega
def ai.MI(d r):ai.f6 d<=ai.f6 (d++r):=by
 induction d with
 |nil=>simp[ai.f6]|cons a d bQ=>simp[ai.f6];omega
def ai.aaK:∀e:ai,e.ir<=e.size:=ai.ind λe bQ=>by
 rw[ai.vG,ai.size_eq];have:∀l:List ai,(∀x∈l,x.ir<=x.size)->ai.f6 l<=ai.fw l:=by
  intro l;induction l with
  |nil=>intro _;simp[ai.f6]|cons a l Cq=>intro h;have D:=h a ua;have F:=Cq λx M=>h x (tD _ M);simp[ai.f6,ai.fw];omega
 have:=this e.kids bQ;omega
def ai.b0(e:ai):Prop:=e.ok/\e.size<1000000000000
def ai.b0.l0{e x:ai}(h:e.b0)(M:x∈e.kids):x.b0:=⟨((ai.mS e).1 h.1).2 x M,by have:=ai.acH M;have:=h.2;rw[ai.size_eq]at this;omega⟩
def ai.b0.one{e:ai}(h:e.b0):e.mj:=((ai.mS e).1 h.1).1
def ai.b0.len{e:ai}(h:e.b0):(e.kids.map ai.row).length<100:=by rw[ex];exact h.one.2.2.2.2.2.2.2.2.1
def Ue{α:Type}{s x}{d:List α}(h:s∉d)(M:x≠s):s∉d++[x]:=by
 intro cz;rcases l8.1 cz with cz|cz
 .exact h cz
 .exact M (ji.1 cz).symm
def De{α:Type}{p}{d:List α}{x}(h:d.all p)(M:p x):(d++[x]).all p:=by simp[h,M]
def Sx{α:Type}{p}{l d r:List α}{x}(Y:l=d++x::r)(M:p x=false):l.all p=false:=by subst Y;simp[M]
def k6{α:Type}(f:α->di):∀(d:List α)(x)(r:List α),fT ((d++x::r).map f) d.length=f x
 |[],x,r=>rfl|a::d,x,r=>k6 f d x r
def alj{α:Type}{f:α->di}{l d:List α}{i}(aN:i<(l.map f).length)(aY:l.take i=d):∃x r,l=d++x::r/\i=d.length/\fT (l.map f) i=f x:=by
 rw[ex]at aN;refine⟨l[i],l.drop (i+1),?_,?_,?_⟩
 .rw[<-aY,<-Be aN,Bj]
 .rw[<-aY,rR];omega
 .have:fT (l.map f) (l.take i).length=f l[i]:=by
   conv=>lhs;rw[show l=l.take i++l[i]::l.drop (i+1)from by rw[<-Be aN,Bj]]
   have e:(List.take i (List.take i l++l[i]::List.drop (i+1) l))=l.take i:=by rw[<-Be aN,Bj]
   rw[e];exact k6 f _ _ _
  rwa[rR,DE I]at this
def st(acc:List Acc)(a8:aO)(E:bK)(A:bf):Option (bK×bf):=match we acc E A with
 |some r=>match pS r.2 a8 with
  |some A=>some (r.1,A)|none=>none
 |none=>none
def acz{acc a8 E dQ fe bE k}(h:st acc a8 (forget E dQ) A=some (fe,bE))(ar:k2 id fe λE=>lA bE λA=>k E A):oO (some ⟨dQ,[],acc,a8⟩) E A k:=by
 unfold oO tU;simp only[Ec,yP,xH,Br]at ar ⊢;unfold st at h;cases acc with
 |nil=>
  simp only[we]at h ⊢;cases bq:pS A a8 with
  |none=>rw[bq]at h;cases h
  |some t=>rw[bq]at h;cases h;exact ar
 |cons a l=>
  simp only;cases aC:we (a::l) (forget E dQ) A with
  |none=>rw[aC]at h;cases h
  |some r=>
   rw[aC]at h;simp only at h;cases bq:pS r.2 a8 with
   |none=>rw[bq]at h;cases h
   |some t=>rw[bq]at h;cases h;simp only[qQ,bq,V9,yP,xH,Br];exact ar
def Li{dQ a8}{acc}{a9:(bK->bf->Prop)->bK->bf->Prop}{fm:bK}{iu}{α:Type}(e7:α->List (Nat×a2))(T:α->bf)(pb:α->Nat)(fL:α->Prop)(br:∃a,fL a/\st acc a8 (forget fm dQ) iu=some (forget (iF fm (e7 a)) dQ,T a))(ap:∀a (ba),fL a->(∀bz fe bE,pb bz<pb a->fL bz->st acc a8 (forget fe dQ) bE=some (forget (iF fm (e7 bz)) dQ,T bz)->ba fe bE)->k2 id (forget (iF fm (e7 a)) dQ) λE=>lA (T a) λA=>a9 ba E A):sk (λba E A=>oO (some ⟨dQ,[],acc,a8⟩) E A λE A=>a9 ba E A) fm iu:=by have⟨a,D,F⟩:=br;refine Q6 (λm E A=>∃a,m=pb a/\fL a/\st acc a8 (forget E dQ) A=some (forget (iF fm (e7 a)) dQ,T a)) ⟨_,a,rfl,D,F⟩ ?_;rintro m ba E A ⟨a,rfl,aj,an⟩ bt;exact acz an (ap a ba aj λbz fe bE bC aX b4=>bt _ _ _ bC ⟨bz,rfl,aX,b4⟩)
def kA{dQ a8}{acc}{a9:(bK->bf->Prop)->bK->bf->Prop}{fm:bK}{iu}{α fH:Type}(f:α->di)(l:List α)(p)(e7:List α->fH->List (Nat×a2))(T:List α->fH->bf)(fL:List α->fH->Prop)(br:∃b,fL [] b/\st acc a8 (forget fm dQ) iu=some (forget (iF fm ((p,.J (.int 3 0))::e7 [] b)) dQ,T [] b))(ap:∀d b x r (ba),l=d++x::r->d.length<(l.map f).length->fT (l.map f) d.length=f x->fL d b->(∀ep fe bE,fL (d++[x]) ep->st acc a8 (forget fe dQ) bE=some (forget (iF fm ((p,.J (.int 3 (d.length+1)))::e7 (d++[x]) ep)) dQ,T (d++[x]) ep)->ba fe bE)->k2 id (forget (iF fm ((p,.J (.int 3 d.length))::e7 d b)) dQ) λE=>lA (T d b) λA=>a9 ba E A)(aw:∀b (ba),fL l b->k2 id (forget (iF fm ((p,.J (.int 3 (l.map f).length))::e7 l b)) dQ) λE=>lA (T l b) λA=>a9 ba E A):sk (λba E A=>oO (some ⟨dQ,[],acc,a8⟩) E A λE A=>a9 ba E A) fm iu:=by
 have⟨mL,D,F⟩:=br;refine Li (α:={d:List α // ∃r,l=d++r}×fH) (λd=>(p,.J (.int 3 d.1.1.length))::e7 d.1.1 d.2) (λd=>T d.1.1 d.2) (λd=>l.length - d.1.1.length) (λd=>fL d.1.1 d.2) ⟨⟨⟨[],l,rfl⟩,mL⟩,D,F⟩ ?_;rintro⟨⟨d,r,rfl⟩,b⟩ ba a7 bt;cases r with
 |nil=>have:=aw b ba (by rw[kE];exact a7);rw[ex]at this;simp only[kE]at this ⊢;exact this
 |cons x r=>refine ap d b x r ba rfl (by simp) (k6 f d x r) a7 λep fe bE D F=>?_;refine bt ⟨⟨d++[x],r,by simp⟩,ep⟩ fe bE (by simp;omega) D ?_;simpa using F
def aao{dQ a8}{acc}{a9:(bK->bf->Prop)->bK->bf->Prop}{fm:bK}{iu}{fH:Type}(n p)(e7:Nat->fH->List (Nat×a2))(T:Nat->fH->bf)(fL:Nat->fH->Prop)(br:∃b,fL 0 b/\st acc a8 (forget fm dQ) iu=some (forget (iF fm ((p,.J (.int 3 0))::e7 0 b)) dQ,T 0 b))(ap:∀i b (ba),i<n->fL i b->(∀ep fe bE,fL (i+1) ep->st acc a8 (forget fe dQ) bE=some (forget (iF fm ((p,.J (.int 3 (i+1)))::e7 (i+1) ep)) dQ,T (i+1) ep)->ba fe bE)->k2 id (forget (iF fm ((p,.J (.int 3 i))::e7 i b)) dQ) λE=>lA (T i b) λA=>a9 ba E A)(aw:∀b (ba),fL n b->k2 id (forget (iF fm ((p,.J (.int 3 n))::e7 n b)) dQ) λE=>lA (T n b) λA=>a9 ba E A):sk (λba E A=>oO (some ⟨dQ,[],acc,a8⟩) E A λE A=>a9 ba E A) fm iu:=by
 have⟨mL,D,F⟩:=br;refine Li (α:={i:Nat // i<=n}×fH) (λi=>(p,.J (.int 3 i.1.1))::e7 i.1.1 i.2) (λi=>T i.1.1 i.2) (λi=>n - i.1.1) (λi=>fL i.1.1 i.2) ⟨⟨⟨0,qG n⟩,mL⟩,D,F⟩ ?_;rintro⟨⟨i,aN⟩,b⟩ ba a7 bt;rcases m4 i n with h|h
 .exact ap i b ba h a7 λep fe bE D F=>bt ⟨⟨i+1,h⟩,ep⟩ fe bE (by simp;omega) D F
 .have:i=n:=Nat.le_antisymm aN h;subst this;exact aw b ba a7
abbrev gK(l:List (Nat×aO×List Acc×aO)):Nat->Nat->Option qq:=λ_ id=>match l with
 |[(_,f,a,p)]=>some ⟨f,[],a,p⟩|l=>(l.find? λq=>Nat.beq q.1 id).map λq=>⟨q.2.1,[],q.2.2.1,q.2.2.2⟩
def Qa{X}{t}{k}(h:k (jo X t)):NO X t k:=by
 have sg:HE X t k:=by
  unfold jo at h;cases q:cf X t with
  |true=>rw[q]at h;exact .drop q h|false=>rw[q]at h;exact .iB q h
 have flat:∀a6,t=a6->cf X a6=false->k a6:=λa6 e a0=>by subst e;unfold jo at h;rw[a0]at h;exact h
 cases t<;>first|exact sg|(exact flat _ rfl (by simp only[cf]))
def Z1{X}:∀{l}{k},k (l.map (jo X))->Ix X l k
 |[],k,h=>h
 |t::l,k,h=>by unfold Ix;exact Qa (Z1 h)
def akz{X}{e}{k}(h:k (i5 X e)):NI X e k:=by
 cases e with
 |J t=>exact Qa (k:=λt=>k (.J t)) h|_=>exact h
def Ho{X}:∀{l}{k},k (l.map (i5 X))->yV X l k
 |[],k,h=>h
 |t::l,k,h=>by unfold yV;exact akz (Ho h)
def arF{X}{e}{k}(h:k (dF (i5 X) e)):UI X e k:=by
 cases e with
 |agg l=>exact Ho (k:=λl=>k (.agg l)) h|fn g b5 cV=>exact Ho (Ho (k:=λcV=>k (.fn g _ cV)) h)|J t=>exact Qa (k:=λt=>k (.J t)) h|_=>exact h
def Ve{X}:∀{l}{k},k (l.map (dF (i5 X)))->E3 X l k
 |[],k,h=>h
 |t::l,k,h=>by unfold E3;exact arF (Ve h)
def ij{X}{t}(h:cf X t=false):i5 X (.J t)=.J t:=by simp only[i5,jo,h]
def ro{X}{t}(h:cf X t):i5 X (.J t)=.J .undef:=by simp only[i5,jo,h]
def i0{X}{c n}:i5 X (.J (.int c n))=.J (.int c n):=ij (by simp only[cf])
def jn{X}{b}:i5 X (.J (.bool b))=.J (.bool b):=ij (by simp only[cf])
def iY{X}{s}:i5 X (.J (.str s))=.J (.str s):=ij (by simp only[cf])
def m9{X}:i5 X (.J .undef)=.J .undef:=ij (by simp only[cf])
def i1{X}{s B}:i5 X (.bN s B)=.bN s B:=rfl
def i2{X}:i5 X .bx=.bx:=rfl
end Go.Tx
