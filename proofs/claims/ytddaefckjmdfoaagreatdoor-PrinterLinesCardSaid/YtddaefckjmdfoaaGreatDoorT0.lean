/- Part of the proof of PrinterLines. -/
import Derived.Test.YtddaefckjmdfoaaGreatDoorE1
set_option linter.all false
namespace Go.Tx
noncomputable section
open Go Go.Ev
inductive b2 where
 |undef
 |bool (b:Bool)
 |int (c n:Nat)
 |str (s:k9)
 |nil (c:oJ)
 |aQ (g:Nat) (rows:List (List b2))
 |gc (g:Nat) (row:List b2) (aT:Nat)
 |fn (f:Nat) (xs bJ:List b2)
 |agg (l:List b2)
 |eJ (l:List b2)
 |op (g:Nat) (W:Value)
 deriving Inhabited
inductive a1 where
 |J (t:b2)
 |iy
 |bT
 |bH (s aT:Nat)
 |bQ (s:Nat)
 |fF (s r aT:Nat)
 |agg (l:List a1)
 |fn (f:Nat) (xs bJ:List a1)
 deriving Inhabited
inductive ul where
 |cc (l:List b2)
 |bE (l:List a1)
 deriving Inhabited
inductive eS where
 |box (el z:Nat) (row:ul)
 |arr (el z:Nat) (rows:List (List b2)) (u:Bool)
 deriving Inhabited
abbrev be:=List (Nat×eS)
def look:be->Nat->Option eS
 |[],_=>none
 |(s,D)::l,t=>match Nat.beq s t with
  |true=>some D
  |false=>look l t
def rem:be->Nat->be
 |[],_=>[]
 |(s,D)::l,t=>match Nat.beq s t with
  |true=>rem l t
  |false=>(s,D)::rem l t
def kr:be->Nat->eS->be
 |[],t,D=>[]
 |(s,bs)::l,t,D=>match Nat.beq s t with
  |true=>(s,D)::l
  |false=>(s,bs)::kr l t D
def jQ:aO->aO->Bool
 |[],_=>true
 |a::l,m=> !Ed a m&&jQ l m
where Ed (t:Nat):aO->Bool
 |[]=>false
 |a::l=>match Nat.beq a t with
  |true=>true
  |false=>Ed t l
def cr(t:Nat):aO->Bool
 |[]=>false
 |a::l=>match Nat.beq a t with
  |true=>true
  |false=>cr t l
def qP:List b2->Nat->b2
 |[],_=>.undef
 |a::_,0=>a
 |_::l,n+1=>qP l n
def ib:List (List b2)->Nat->List b2
 |[],_=>[]
 |a::_,0=>a
 |_::l,n+1=>ib l n
def i5:List a1->Nat->a1
 |[],_=>.J .undef
 |a::_,0=>a
 |_::l,n+1=>i5 l n
def iT:List a1->Nat->a1->List a1
 |[],_,_=>[]
 |_::l,0,v=>v::l
 |a::l,n+1,v=>a::iT l n v
def isInt(c:Nat):b2->Bool
 |.int fo _=>Nat.beq fo c
 |_=>false
def V7:b2->Bool
 |.int c _=>Nat.ble 3 c
 |_=>false
def zt{R:Type}(x:R):R:=x
def uI{R:Type}(x:R):R:=zt x
def fZ{R:Type}(x:R):R:=uI x
def D9{R:Type}(x:R):R:=fZ x
def Nf{R:Type}(x:R):R:=D9 x
def O7{R:Type}(x:R):R:=Nf x
def Rv{R:Type}(x:R):R:=O7 x
def RO{R:Type}(x:R):R:=Rv x
def Se{R:Type}(x:R):R:=RO x
def Vm{R:Type}(x:R):R:=Se x
def SR{R:Type}(x:R):R:=Vm x
def T1{R:Type}(x:R):R:=SR x
def UP{R:Type}(x:R):R:=T1 x
def Jp{R:Type}(x:R):R:=UP x
def BW(t:b2):Nat:=Jp (match t with
 |.int _ n=>n
 |_=>0)
def QA:b2->Bool
 |.str _=>true
 |_=>false
def TO(t:b2):k9:=Jp (match t with
 |.str s=>s
 |_=>[])
def Qp:b2->Bool
 |.bool _=>true
 |_=>false
def Uz(t:b2):Bool:=Jp (match t with
 |.bool b=>b
 |_=>false)
def rv:b2->Bool
 |.aQ _ _=>true
 |_=>false
def wn:b2->Nat
 |.aQ g _=>g
 |_=>0
def jl:b2->List (List b2)
 |.aQ _ r=>r
 |_=>[]
def yj(n:Nat):b2->Bool
 |.agg l=>Nat.beq l.length n
 |_=>false
def qF:b2->List b2
 |.agg l=>l
 |_=>[]
def acX(i:Nat):b2->Bool
 |.eJ l=>Nat.blt i l.length
 |_=>false
def QT:b2->List b2
 |.eJ l=>l
 |_=>[]
def nJ:b2->Nat
 |.gc g _ _=>g
 |_=>0
def se:b2->Bool
 |.gc _ _ _=>true
 |_=>false
def t2:b2->List b2
 |.gc _ r _=>r
 |_=>[]
def vR:b2->Nat
 |.gc _ _ D=>D
 |_=>0
def afn:b2->Bool
 |.fn _ _ _=>true
 |_=>false
def pJ:b2->Bool
 |.undef=>false
 |.agg _=>false
 |.eJ _=>false
 |_=>true
def fQ{α:Type}(l:List α)(n:Nat):Bool:=Nat.beq l.length n
def lW(l:List b2):Nat->Nat->List b2
 |_,0=>[]
 |i,n+1=>qP l i::lW l (i+1) n
def gD{α gd:Type}(f:α->Option gd):List α->Option (List gd)
 |[]=>some []
 |a::l=>match f a with
  |some b=>match gD f l with
   |some r=>some (b::r)
   |none=>none
  |none=>none
def ui:bl->Option b2
 |.bool b=>some (.bool b)
 |.int c n=>some (.int c n)
 |.str l n=>some (.str (CS l n))
 |.nil .s=>none
 |.nil c=>some (.nil c)
 |_=>none
where CS:Nat->Nat->k9
 |0,_=>[]
 |l+1,n=>UInt8.ofNat (n % 256)::CS l (n / 256)
def py:bl->a1
 |.nil .s=>.bT
 |v=>match ui v with
  |some t=>.J t
  |none=>.J .undef
def BO:bl->a1
 |.agg _ l=>.agg (l.map py)
 |v=>py v
structure c5 where
 L:List a1
 E:List a1
 A:be
def dN(es:aO)(ae:dv)(S:c5):Operand->a1
 |.tmp t=>match jp t ae with
  |some i=>i5 S.L i
  |none=>match i2 t es with
   |some s=>i5 S.E s
   |none=>.J .undef
 |.const v=>match mr v with
  |some v=>BO v
  |none=>.J .undef
 |.func f=>.J (.fn f [] [])
 |.global _=>.J .undef
def g7(A:be):Nat->a1->Option b2
 |_,.J t=>some t
 |_,.bT=>some (.aQ 1 [])
 |_,.bQ s=>match look A s with
  |some (.arr el _ ab u)=>some (.aQ (2*el+u.toNat) ab)
  |_=>none
 |_,.fF s r aT=>match look A s with
  |some (.arr el _ ab _)=>match ab[r]? with
   |some aF=>some (.gc (4*el+1) aF aT)
   |none=>none
  |_=>none
 |0,_=>none
 |n+1,.bH s aT=>match look A s with
  |some (.box el _ (.cc l))=>some (.gc (4*el+3) l aT)
  |some (.box el _ (.bE l))=>match gD (g7 A n) l with
   |some l=>some (.gc (4*el+3) l aT)
   |none=>none
  |_=>none
 |_+1,_=>none
def pR(A:be):a1->Option b2
 |.fn f bY bJ=>match gD (g7 A 3) bY,gD (g7 A 3) bJ with
  |some bY,some bJ=>some (.fn f bY bJ)
  |_,_=>none
 |.agg l=>match gD (g7 A 3) l with
  |some l=>some (.agg l)
  |none=>none
 |v=>g7 A 3 v
def dJ(f:a1->a1):a1->a1
 |.agg l=>.agg (l.map f)
 |.fn g bY bJ=>.fn g (bY.map f) (bJ.map f)
 |v=>f v
def gx(f:a1->a1):eS->eS
 |.box el z (.bE l)=>.box el z (.bE (l.map f))
 |D=>D
def fL(f:a1->a1):be->be
 |[]=>[]
 |(s,D)::l=>(s,gx f D)::fL f l
def c5.map(f:a1->a1)(S:c5):c5:=⟨S.L.map (dJ f),S.E.map (dJ f),fL f S.A⟩
def EN(D:Option b2):a1:=match D with
 |some t=>.J t
 |none=>.J .undef
def lk(A:be)(aX:aO):a1->a1
 |.bQ t=>match look A t with
  |some _=>EN (g7 A 3 (.bQ t))
  |none=>.bQ t
 |.bH t aT=>match look A t with
  |some _=>EN (g7 A 3 (.bH t aT))
  |none=>.bH t aT
 |.fF t r aT=>match look A t with
  |some _=>EN (g7 A 3 (.fF t r aT))
  |none=>.fF t r aT
 |v=>v
def keeps:be->aO->be
 |[],_=>[]
 |(s,D)::l,aX=>match cr s aX with
  |true=>(s,D)::keeps l aX
  |false=>keeps l aX
def jS:be->aO->be
 |[],_=>[]
 |(s,D)::l,aX=>match cr s aX with
  |true=>jS l aX
  |false=>(s,D)::jS l aX
def et(s:Nat):a1->a1
 |.bQ t=>match Nat.beq t s with
  |true=>.J .undef
  |false=>.bQ t
 |.bH t aT=>match Nat.beq t s with
  |true=>.J .undef
  |false=>.bH t aT
 |.fF t r aT=>match Nat.beq t s with
  |true=>.J .undef
  |false=>.fF t r aT
 |v=>v
def c5.ft(S:c5)(aX:aO):c5:=match aX with
 |[]=>S
 |aX=>(c5.mk S.L S.E (jS S.A aX)).map (lk (keeps S.A aX) aX)
def c5.kill(S:c5)(s:Nat):c5:=(c5.mk S.L S.E (rem S.A s)).map (et s)
def kS(bg a b:Nat):Nat:=Nat.mod (Nat.sub (Nat.add bg a) b) bg
def mb(h bg a b:Nat):Bool:=Nat.blt (Nat.mod (Nat.add h a) bg) (Nat.mod (Nat.add h b) bg)
def jJ(h bg a b:Nat):Bool:=Nat.ble (Nat.mod (Nat.add h a) bg) (Nat.mod (Nat.add h b) bg)
theorem aqb:kS=Ov:=by funext bg a b;show Nat.mod (Nat.sub (bg+a) b) bg=Nat.mod (Nat.sub (a+bg) b) bg;rw[Nat.add_comm]
theorem apN:mb=HG:=by funext h bg a b;show Nat.blt (Nat.mod (h+a) bg) (Nat.mod (h+b) bg)=Nat.blt (Nat.mod (a+h) bg) (Nat.mod (b+h) bg);rw[Nat.add_comm h a,Nat.add_comm h b]
theorem aoO:jJ=JY:=by funext h bg a b;show Nat.ble (Nat.mod (h+a) bg) (Nat.mod (h+b) bg)=Nat.ble (Nat.mod (a+h) bg) (Nat.mod (b+h) bg);rw[Nat.add_comm h a,Nat.add_comm h b]
def yH:a1->aO
 |.bQ s=>[s]
 |.bH s _=>[s]
 |.fF s _ _=>[s]
 |_=>[]
def Q5:ul->List a1
 |.cc _=>[]
 |.bE l=>l
def e6(A:be):Nat->a1->aO
 |0,v=>yH v
 |n+1,.bH s _=>(match look A s with
  |some (.box _ _ aF)=>(Q5 aF).flatMap (e6 A n)
  |_=>[])++[s]
 |n+1,.agg l=>l.flatMap (e6 A n)
 |n+1,.fn _ bY bJ=>bY.flatMap (e6 A n)++bJ.flatMap (e6 A n)
 |_+1,v=>yH v
def lP:aO->aO
 |[]=>[]
 |a::l=>match cr a l with
  |true=>a::(lP l).filter (λb=> !Nat.beq b a)
  |false=>a::lP l
def yi(op:BinOp)(c a b:Nat):Option b2:=
 match op with
 |.add=>some (.int c (nj (cp c) a b))
 |.sub=>some (.int c (kS (cp c) a b))
 |.mul=>some (.int c (Ht (cp c) a b))
 |.quo=>match Nat.blt a (dL c)&&Nat.blt b (dL c)&& !Nat.beq b 0 with
  |true=>some (.int c (a / b))
  |false=>none
 |.rem=>match Nat.blt a (dL c)&&Nat.blt b (dL c)&& !Nat.beq b 0 with
  |true=>some (.int c (a % b))
  |false=>none
 |.and=>some (.int c (Nat.land a b))
 |.or=>some (.int c (Nat.lor a b))
 |.xor=>some (.int c (Nat.xor a b))
 |.eql=>some (.bool (Nat.beq a b))
 |.neq=>some (.bool (!Nat.beq a b))
 |.lss=>match Nat.beq (dL c) (cp c) with
  |true=>some (.bool (Nat.blt a b))
  |false=>some (.bool (mb (dL c) (cp c) a b))
 |.leq=>match Nat.beq (dL c) (cp c) with
  |true=>some (.bool (Nat.ble a b))
  |false=>some (.bool (jJ (dL c) (cp c) a b))
 |.gtr=>match Nat.beq (dL c) (cp c) with
  |true=>some (.bool (Nat.blt b a))
  |false=>some (.bool (mb (dL c) (cp c) b a))
 |.geq=>match Nat.beq (dL c) (cp c) with
  |true=>some (.bool (Nat.ble b a))
  |false=>some (.bool (jJ (dL c) (cp c) b a))
 |_=>none
def qH(a b:k9):Bool:=Op.bytesLess a b
def m7(a b:k9):Bool:=a==b
def OB:Nat:=1152921504606846976
def Mv(op:BinOp)(a b:k9):Option b2:=
 match op with
 |.add=>match Nat.ble (a.length+b.length) OB with
  |true=>some (.str (a++b))
  |false=>none
 |.eql=>some (.bool (m7 a b))
 |.neq=>some (.bool (!m7 a b))
 |.lss=>some (.bool (qH a b))
 |.gtr=>some (.bool (!qH a b&& !m7 a b))
 |.leq=>some (.bool (qH a b||m7 a b))
 |.geq=>some (.bool (!qH a b))
 |_=>none
def Nq(op:BinOp)(a b:Bool):Option b2:=
 match op with
 |.eql=>some (.bool (a==b))
 |.neq=>some (.bool (a !=b))
 |_=>none
def ro(c:Nat):a1->jo
 |.J t=>match isInt c t with
  |true=>some (BW t)
  |false=>none
 |_=>none
def uM:a1->Option k9
 |.J t=>match QA t with
  |true=>some (TO t)
  |false=>none
 |_=>none
def nd:a1->Option Bool
 |.J t=>match Qp t with
  |true=>some (Uz t)
  |false=>none
 |_=>none
def aeF:b2->Bool
 |.int _ _=>true
 |_=>false
def LN:a1->jo
 |.J t=>match aeF t with
  |true=>some (BW t)
  |false=>none
 |_=>none
def tc(A:be)(s:Nat):Bool:=match look A s with
 |some (.box _ _ _)=>true
 |_=>false
def nS(A:be)(s:Nat):Bool:=match look A s with
 |some (.arr _ _ _ _)=>true
 |_=>false
def isNil(A:be)(c:oJ):a1->Option Bool
 |.J (.nil fo)=>match decide (c=fo) with
  |true=>some true
  |false=>none
 |.J (.gc _ _ _)=>match decide (c=.N) with
  |true=>some false
  |false=>none
 |.J (.fn _ _ _)=>match decide (c=.f) with
  |true=>some false
  |false=>none
 |.fn _ _ _=>match decide (c=.f) with
  |true=>some false
  |false=>none
 |.bH s _=>match decide (c=.N)&&tc A s with
  |true=>some false
  |false=>none
 |.fF s _ _=>match decide (c=.N)&&nS A s with
  |true=>some false
  |false=>none
 |_=>none
def c7{α gd th:Type}(a:Option α)(b:Option gd)(f:α->gd->Option th):Option th:=match a with
 |some a=>match b with
  |some b=>f a b
  |none=>none
 |none=>none
def cw{α th:Type}(a:Option α)(f:α->Option th):Option th:=match a with
 |some a=>f a
 |none=>none
def zU(D:Option b2):Option a1:=cw D λt=>some (.J t)
def H4(A:be)(op:BinOp)(c:oJ)(x y:Operand)(kF kw:a1):Option a1:=
 match op,Ao c x,Ao c y with
 |.eql,_,true=>cw (isNil A c kF) λb=>some (.J (.bool b))
 |.eql,true,false=>cw (isNil A c kw) λb=>some (.J (.bool b))
 |.neq,_,true=>cw (isNil A c kF) λb=>some (.J (.bool (!b)))
 |.neq,true,false=>cw (isNil A c kw) λb=>some (.J (.bool (!b)))
 |_,_,_=>none
def vC(P:dy)(A:be)(op:BinOp)(t:TypeId)(x y:Operand)(kF kw:a1):Option a1:=
 match P.ek t with
 |some (.int k)=>match op with
  |.shl=>zU (c7 (ro (cq k) kF) (LN kw) λa b=>match Nat.ble b 64 with
   |true=>some (.int (cq k) ((a*2 ^ b) % cp (cq k)))
   |false=>none)
  |.shr=>zU (c7 (ro (cq k) kF) (LN kw) λa b=>match Nat.ble b 64&&Nat.blt a (dL (cq k)) with
   |true=>some (.int (cq k) (a / 2 ^ b))
   |false=>none)
  |_=>zU (c7 (ro (cq k) kF) (ro (cq k) kw) (yi op (cq k)))
 |some .string=>zU (c7 (uM kF) (uM kw) (Mv op))
 |some .bool=>zU (c7 (nd kF) (nd kw) (Nq op))
 |some (.pointer _)=>H4 A op .N x y kF kw
 |some (.func ..)=>H4 A op .f x y kF kw
 |some (.interface _)=>H4 A op .i x y kF kw
 |_=>none
def Il(op:UnOp)(x:a1):Option a1:=
 match op with
 |.not=>cw (nd x) λb=>some (.J (.bool (!b)))
 |.neg=>match x with
  |.J (.int c n)=>some (.J (.int c ((cp c - n) % cp c)))
  |_=>none
 |_=>none
def Du(P:dy)(s d:TypeId)(x:a1):Option a1:=
 match P.ek s,P.ek d with
 |some (.int k),some (.int c8)=>cw (ro (cq k) x) λn=>match Nat.ble (cp (cq c8)) (cp (cq k)) with
  |true=>some (.J (.int (cq c8) (n % cp (cq c8))))
  |false=>match Nat.blt n (dL (cq k)) with
   |true=>some (.J (.int (cq c8) n))
   |false=>none
 |some .string,some .string=>cw (uM x) λs=>some (.J (.str s))
 |_,_=>none
def idx(v:a1)(b:Nat):jo:=
 match v with
 |.J t=>match V7 t&&Nat.blt (BW t) b with
  |true=>some (BW t)
  |false=>none
 |_=>none
def ns(A:be)(v:a1)(n:Nat):Option (List a1):=
 match v,n with
 |.agg l,n=>match fQ l n with
  |true=>some l
  |false=>none
 |.J t,1=>match pJ t with
  |true=>some [.J t]
  |false=>none
 |.J t,n=>match yj n t with
  |true=>some ((lW (qF t) 0 n).map .J)
  |false=>none
 |.bT,1=>some [.bT]
 |.bH s aT,1=>match tc A s with
  |true=>some [.bH s aT]
  |false=>none
 |.bQ s,1=>match nS A s with
  |true=>some [.bQ s]
  |false=>none
 |_,_=>none
def A7(P:dy)(t:TypeId)(aT:Nat)(l:List a1):Option a1:=
 match rp P t,eV P t with
 |some true,some n=>match Nat.ble (aT+n) l.length with
  |true=>some (.agg ((l.drop aT).take n))
  |false=>none
 |some false,some _=>match Nat.blt aT l.length with
  |true=>some (i5 l aT)
  |false=>none
 |_,_=>none
def Kt(P:dy)(t:TypeId)(f:Nat)(x:a1):Option a1:=
 match P.ek t with
 |some (.struct cz)=>match cz[f]? with
  |some fd=>match x with
   |.agg l=>A7 P fd.type fd.offset l
   |.J a6=>match eV P t with
    |some n=>match yj n a6 with
     |true=>A7 P fd.type fd.offset ((lW (qF a6) 0 n).map .J)
     |false=>none
    |none=>none
   |_=>none
  |none=>none
 |_=>none
def Gy(P:dy)(A:be)(t:TypeId)(f:Nat)(x:a1):Option a1:=
 match P.ek t with
 |some (.struct cz)=>match cz[f]? with
  |some fd=>match eV P fd.type,x with
   |some (_+1),.bH s aT=>match tc A s with
    |true=>some (.bH s (aT+fd.offset))
    |false=>none
   |some (_+1),.fF s r aT=>match nS A s with
    |true=>some (.fF s r (aT+fd.offset))
    |false=>none
   |some (_+1),.J a6=>match se a6 with
    |true=>some (.J (.gc (nJ a6) (t2 a6) (vR a6+fd.offset)))
    |false=>none
   |_,_=>none
  |none=>none
 |_=>none
def Iv(P:dy)(t:TypeId)(x i:a1):Option a1:=
 match P.ek t with
 |some .string=>cw (uM x) λs=>cw (idx i s.length) λM=>match s[M]? with
  |some b=>some (.J (.int 4 b.toNat))
  |none=>none
 |_=>none
def IG(P:dy)(t:TypeId)(A:be)(x i:a1):Option a1:=
 match P.ek t with
 |some (.slice e)=>match eV P e,x with
  |some (m+1),.J a6=>match rv a6 with
   |true=>cw (idx i (jl a6).length) λM=>match fQ (ib (jl a6) M) (m+1) with
    |true=>some (.J (.gc (4*(wn a6 / 2)+1) (ib (jl a6) M) 0))
    |false=>none
   |false=>none
  |some (m+1),.bQ s=>match look A s with
   |some (.arr _ z ab _)=>match Nat.beq z (m+1) with
    |true=>cw (idx i ab.length) λM=>some (.fF s M 0)
    |false=>none
   |_=>none
  |_,_=>none
 |_=>none
def uf(es:aO)(ae:dv)(S:c5)(d:Nat):Option Operand->jo
 |none=>some d
 |some x=>idx (dN es ae S x) 2147483648
def Ho(P:dy)(t:TypeId)(x:a1)(g8:jo)(aH:Nat->jo):Option a1:=
 match P.ek t with
 |some .string=>cw (uM x) λs=>c7 g8 (aH s.length) λi M=>match Nat.ble M s.length&&Nat.ble i M with
  |true=>some (.J (.str ((s.drop i).take (M - i))))
  |false=>none
 |some (.slice e)=>match x with
  |.J a6=>match rv a6 with
   |true=>match eV P e with
    |some (m+1)=>match fQ (ib (jl a6) 0) (m+1) with
     |true=>c7 g8 (aH (jl a6).length) λi M=>match Nat.ble M (jl a6).length&&Nat.ble i M with
      |true=>match Nat.blt i M with
       |true=>some (.J (.aQ (2*(wn a6 / 2)) (((jl a6).drop i).take (M - i))))
       |false=>match Nat.beq i 0 with
        |true=>some (.J (.aQ 0 []))
        |false=>some (.J .undef)
      |false=>none
     |false=>none
    |_=>none
   |false=>none
  |_=>none
 |_=>none
def Kc(x:a1)(i:Nat):Option a1:=
 match x with
 |.J t=>match acX i t with
  |true=>some (.J (qP (QT t) i))
  |false=>none
 |_=>none
def vl(i:Nat):List (Nat×a1)->Option a1
 |[]=>none
 |(M,g)::l=>match vl i l with
  |some g=>some g
  |none=>match Nat.beq i M with
   |true=>some g
   |false=>none
def uh(P:dy)(A:be)(parts:List (Nat×a1)):Nat->List Field->List a1->Option (List a1)
 |_,[],[]=>some []
 |_,[],_::_=>none
 |i,fd::l,z=>match eV P fd.type with
  |some s=>match Nat.ble s z.length,vl i parts with
   |true,some g=>c7 (ns A g s) (uh P A parts (i+1) l (z.drop s)) λc q=>some (c++q)
   |true,none=>cw (uh P A parts (i+1) l (z.drop s)) λq=>some (z.take s++q)
   |false,_=>none
  |none=>none
def rz(es:aO)(ae:dv)(S:c5):List (Nat×Operand)->List (Nat×a1)
 |[]=>[]
 |(i,x)::l=>(i,dN es ae S x)::rz es ae S l
def HA(P:dy)(A:be)(t:TypeId)(parts:List (Nat×a1)):Option a1:=
 match P.ek t with
 |some (.struct cz)=>match CA P 0 cz.toList&&kR (parts.map Prod.fst)&&parts.all (λN=>Nat.blt N.1 cz.toList.length),p4 P t with
  |true,some (.agg n l)=>cw (uh P A parts 0 cz.toList (l.map py)) λl=>some (.agg l)
  |_,_=>none
 |_=>none
def Im(P:dy)(t:TypeId)(A:be)(x:a1):Option a1:=
 match P.ek t with
 |some .string=>cw (uM x) λs=>some (.J (.int 3 s.length))
 |some (.slice _)=>match x with
  |.bT=>some (.J (.int 3 0))
  |.J a6=>match rv a6 with
   |true=>some (.J (.int 3 (jl a6).length))
   |false=>none
  |.bQ s=>match look A s with
   |some (.arr _ _ ab _)=>some (.J (.int 3 ab.length))
   |_=>none
  |_=>none
 |_=>none
def Gl(q:Bool)(x y:Nat):Nat:=match q with
 |true=>x
 |false=>y
def IR(bE:Bool)(a b:Nat):Nat:=match bE with
 |true=>Gl (nZ a b) b a
 |false=>Gl (nZ b a) b a
def At(bE:Bool):List a1->jo
 |[]=>none
 |[x]=>ro 3 x
 |x::l=>c7 (ro 3 x) (At bE l) λa b=>some (IR bE a b)
def Iz(A:be):a1->Bool
 |.bH s _=>tc A s
 |.fF s _ _=>nS A s
 |.J t=>se t||afn t
 |.fn _ _ _=>true
 |_=>false
def HW(c a b:a1):Option a1:=
 cw (nd c) λc=>match nd a,nd b with
  |some x,some y=>some (.J (.bool (match c with|true=>x|false=>y)))
  |_,_=>match c with
   |true=>some a
   |false=>some b
def atom:a1->Bool
 |.agg _=>false
 |.fn _ _ _=>false
 |_=>true
def u5(P:dy)(es:aO)(ae:dv)(S:c5)(op:Op):Option a1:=
 match op with
 |.move x=>some (dN es ae S x)
 |.assign x=>some (dN es ae S x)
 |.pick c a b=>HW (dN es ae S c) (dN es ae S a) (dN es ae S b)
 |.build t cg=>HA P S.A t (rz es ae S cg.toList)
 |.nilCheck x=>match Iz S.A (dN es ae S x) with
  |true=>some (dN es ae S x)
  |false=>none
 |.binOp op t x y _=>vC P S.A op t x y (dN es ae S x) (dN es ae S y)
 |.unOp op _ x=>Il op (dN es ae S x)
 |.convert s d x=>Du P s d (dN es ae S x)
 |.makeFunc (.func f) bY bJ=>match bY.toList.all (λx=>atom (dN es ae S x))&&bJ.toList.all (λx=>atom (dN es ae S x)) with
  |true=>some (.fn f (bY.toList.map (dN es ae S)) (bJ.toList.map (dN es ae S)))
  |false=>none
 |.slice t x g8 aH none=>Ho P t (dN es ae S x) (uf es ae S 0 g8) (λd=>uf es ae S d aH)
 |.fieldAddr t x f=>Gy P S.A t f (dN es ae S x)
 |.field t x f=>Kt P t f (dN es ae S x)
 |.indexAddr t x i=>IG P t S.A (dN es ae S x) (dN es ae S i)
 |.index t x i=>Iv P t (dN es ae S x) (dN es ae S i)
 |.extract x i=>Kc (dN es ae S x) i
 |.call c=>match c.callee,c.argTypes.toList,c.args.toList with
  |.builtin .len,[t],[x]=>Im P t S.A (dN es ae S x)
  |.builtin .max,_,l=>cw (At true (l.map (dN es ae S))) λn=>some (.J (.int 3 n))
  |.builtin .min,_,l=>cw (At false (l.map (dN es ae S))) λn=>some (.J (.int 3 n))
  |_,_,_=>none
 |_=>none
def wP(P:dy)(t:TypeId)(A:be)(N:a1):Option a1:=
 match rp P t,eV P t with
 |some true,some n=>match N with
  |.bH s aT=>match look A s with
   |some (.box _ z (.cc l))=>match Nat.beq aT 0&&Nat.beq n z with
    |true=>some (.J (.agg l))
    |false=>match Nat.ble (aT+n) z with
     |true=>some (.J (.agg (lW l aT n)))
     |false=>none
   |some (.box _ z (.bE l))=>match Nat.ble (aT+n) l.length with
    |true=>some (.agg ((l.drop aT).take n))
    |false=>none
   |_=>none
  |.J a6=>match se a6 with
   |true=>match Nat.beq (vR a6) 0&&fQ (t2 a6) n with
    |true=>some (.J (.agg (t2 a6)))
    |false=>match Nat.ble (vR a6+n) (t2 a6).length with
     |true=>some (.J (.agg (lW (t2 a6) (vR a6) n)))
     |false=>none
   |false=>none
  |.fF s r aT=>match look A s with
   |some (.arr _ z ab _)=>match ab[r]? with
    |some aF=>match Nat.beq aT 0&&Nat.beq n z with
     |true=>some (.J (.agg aF))
     |false=>none
    |none=>none
   |_=>none
  |_=>none
 |some false,some 1=>match N with
  |.bH s aT=>match look A s with
   |some (.box _ z (.cc l))=>match Nat.blt aT z with
    |true=>some (.J (qP l aT))
    |false=>none
   |some (.box _ _ (.bE l))=>match Nat.blt aT l.length with
    |true=>some (i5 l aT)
    |false=>none
   |_=>none
  |.J a6=>match se a6&&Nat.blt (vR a6) (t2 a6).length with
   |true=>some (.J (qP (t2 a6) (vR a6)))
   |false=>none
  |.fF s r aT=>match look A s with
   |some (.arr _ z ab _)=>match ab[r]? with
    |some aF=>match Nat.blt aT z with
     |true=>some (.J (qP aF aT))
     |false=>none
    |none=>none
   |_=>none
  |_=>none
 |_,_=>none
def LP(l:List a1)(aT:Nat)(c:List a1):List a1:=l.take aT++(c++l.drop (aT+c.length))
def Gr(z:Nat):ul->List a1
 |.cc l=>(lW l 0 z).map .J
 |.bE l=>l
def ve(P:dy)(t:TypeId)(S:c5)(N v:a1):Option be:=
 match eV P t with
 |some (m+1)=>match N with
  |.bH s aT=>match look S.A s with
   |some (.box el z aF)=>match Nat.beq aT 0&&Nat.beq (m+1) z with
    |true=>match v with
     |.J a6=>match z with
      |1=>match pJ a6 with
       |true=>some (kr S.A s (.box el 1 (.cc [a6])))
       |false=>none
      |z=>match yj z a6 with
       |true=>some (kr S.A s (.box el z (.cc (qF a6))))
       |false=>none
     |v=>cw (ns S.A v z) λc=>some (kr S.A s (.box el z (.bE c)))
    |false=>match Nat.ble (aT+(m+1)) z with
     |true=>cw (ns S.A v (m+1)) λc=>some (kr S.A s (.box el z (.bE (LP (Gr z aF) aT c))))
     |false=>none
   |_=>none
  |.fF s r aT=>match look S.A s with
   |some (.arr el z ab u)=>match v,Nat.beq aT 0&&Nat.beq (m+1) z&&Nat.blt r ab.length with
    |.J a6,true=>match z with
     |1=>match pJ a6 with
      |true=>some (kr S.A s (.arr el 1 (ab.set r [a6]) u))
      |false=>none
     |z=>match yj z a6 with
      |true=>some (kr S.A s (.arr el z (ab.set r (qF a6)) u))
      |false=>none
    |_,_=>none
   |_=>none
  |_=>none
 |_=>none
def DL(A:be)(z:Nat):a1->Option (List (List b2))
 |.bT=>some []
 |.J a6=>match rv a6&&(jl a6).all (λr=>fQ r z)&&Nat.ble (jl a6).length 2147483647 with
  |true=>some (jl a6)
  |false=>none
 |.bQ s=>match look A s with
  |some (.arr _ cI ab _)=>match Nat.beq z cI&&Nat.ble ab.length 2147483647 with
   |true=>some ab
   |false=>none
  |_=>none
 |_=>none
def sn:Nat:=2147483647
mutual
def cA(X:aO):b2->Bool
 |.aQ g ab=>match ab with
  |[]=>false
  |_=>cr (g / 2) X||hy X ab
 |.gc g aF _=>cr (g / 4) X||dw X aF
 |.fn _ bY bJ=>dw X bY||dw X bJ
 |.agg l=>dw X l
 |.eJ l=>dw X l
 |_=>false
def dw(X:aO):List b2->Bool
 |[]=>false
 |t::l=>cA X t||dw X l
def hy(X:aO):List (List b2)->Bool
 |[]=>false
 |r::l=>dw X r||hy X l
end
def i7(X:aO)(t:b2):b2:=match cA X t with
 |true=>.undef
 |false=>t
def ip(X:aO):a1->a1
 |.J t=>.J (i7 X t)
 |v=>v
def ob(X:aO):eS->eS
 |.box el z (.cc l)=>.box el z (.cc (l.map (i7 X)))
 |.box el z (.bE l)=>.box el z (.bE (l.map (ip X)))
 |.arr el z ab u=>.arr el z (ab.map λr=>r.map (i7 X)) u
def nm(X:aO):be->be
 |[]=>[]
 |(s,D)::l=>(s,ob X D)::nm X l
def ev:aO->aO
 |0::_=>[]
 |X=>X
def zH(X:aO):a1->Bool
 |.bH s _=>match X with
  |0::l=>cr s l
  |_=>false
 |_=>false
def c5.bz(S:c5)(X:aO):c5:=match X with
 |[]=>S
 |X=>⟨S.L.map (dJ (ip X)),S.E.map (dJ (ip X)),nm X S.A⟩
def c5.put(S:c5)(s:Nat)(D:eS):c5:=
 match S.kill s with
 |⟨L,E,A⟩=>⟨L,E,(s,D)::A⟩
def yX(X:aO)(S:c5)(d e z b:Nat)(x:a1)(l:List (List b2)):Option (a1×c5):=
 match x with
 |.J a6=>match rv a6&&Nat.beq (wn a6) (2*e+1)&&fQ (ib (jl a6) 0) z&&cr e (ev X)&&Nat.ble (((jl a6).length+l.length)*b) sn with
  |true=>some (.bQ d,(S.bz [e]).put d (.arr e z ((jl a6++l).map λr=>r.map (i7 [e])) true))
  |false=>match rv a6&&Nat.beq (wn a6 % 2) 1&&Nat.beq (jl a6).length 0&&Nat.ble (l.length*b) sn with
   |true=>some (.bQ d,S.put d (.arr e z l true))
   |false=>none
 |.bT=>match Nat.ble (l.length*b) sn with
  |true=>some (.bQ d,S.put d (.arr e z l true))
  |false=>none
 |.bQ s=>match look S.A s with
  |some (.arr ci cI ab true)=>match Nat.beq e ci&&Nat.beq z cI&&Nat.ble ((ab.length+l.length)*b) sn with
   |true=>some (.bQ d,(S.kill s).put d (.arr e z (ab++l) true))
   |false=>none
  |some (.arr ci cI ab false)=>match Nat.beq e ci&&Nat.beq z cI&&Nat.ble ((ab.length+l.length)*b) sn&&Nat.blt 0 l.length&& !Nat.beq s d with
   |true=>some (.bQ d,S.put d (.arr e z (ab++l) true))
   |false=>none
  |_=>none
 |_=>none
def uz:List (List b2)->Option k9
 |[]=>some []
 |[.int 4 n]::l=>match Nat.blt n 256 with
  |true=>cw (uz l) λr=>some (UInt8.ofNat n::r)
  |false=>none
 |_=>none
def hG:k9->List (List b2)
 |[]=>[]
 |b::l=>[.int 4 b.toNat]::hG l
structure Hint where
 sF:Nat->Nat->Bool
 flat:Nat->Bool
 grow:Nat->Bool
 mt:Nat->aO
 du:aO
 own:Nat->Bool
 i4:aO
structure AZ(R:Type) where
 fail:R
 test:Bool->R->R->R
 call:aO->b2->List a1->be->(b2->be->R)->R
 loop:((List a1->be->R)->List a1->be->R)->List a1->be->R
 ii:dy->TypeId->b2->b2->List b2->be->(List b2->be->R)->R
 acS:b2->List b2->(Nat->Nat->List b2->R)->R
def aoX{R:Type}(x:R):R:=x
def amq{R:Type}(x:R):R:=aoX x
def Wy{R:Type}(x:R):R:=amq x
def hs{R α:Type}(bP:AZ R)(D:Option α)(k:α->R):R:=Wy (match D with
 |some a=>k a
 |none=>bP.fail)
def tU{R:Type}(b:Bool)(x y:R):R:=Wy (match b with
 |true=>x
 |false=>y)
inductive lH (b:Bool) (x y:Prop):Prop where
 |yes:b=true->x->lH b x y
 |no:b=false->y->lH b x y
def place:aO->Nat->Nat->jo
 |[],_,_=>none
 |a::l,i,s=>match Nat.beq a s with
  |true=>some i
  |false=>place l (i+1) s
def qT(bc:aO)(i:Nat):a1->a1
 |.bH s aT=>match place bc i s with
  |some M=>.bH M aT
  |none=>.J .undef
 |.bQ s=>match place bc i s with
  |some M=>.bQ M
  |none=>.J .undef
 |.J t=>.J t
 |.bT=>.bT
 |_=>.J .undef
def yK(bc:aO):a1->a1
 |.bH s aT=>match Nat.ble 1000 s with
  |true=>match bc[s - 1000]? with
   |some t=>.bH t aT
   |none=>.J .undef
  |false=>.J .undef
 |.bQ s=>match Nat.ble 1000 s with
  |true=>match bc[s - 1000]? with
   |some t=>.bQ t
   |none=>.J .undef
  |false=>.J .undef
 |.J t=>.J t
 |.bT=>.bT
 |_=>.J .undef
def oM(h:Nat->Bool):Nat->List a1->aO
 |_,[]=>[]
 |i,v::l=>match h i,v with
  |true,.bH s 0=>s::oM h (i+1) l
  |true,.bQ s=>s::oM h (i+1) l
  |_,_=>oM h (i+1) l
def tq(h:Nat->Bool):Nat->List a1->List a1
 |_,[]=>[]
 |i,v::l=>match h i,v with
  |true,.bH _ 0=>tq h (i+1) l
  |true,.bQ _=>tq h (i+1) l
  |_,_=>v::tq h (i+1) l
def aqs(A:be)(s:Nat):aO:=match look A s with
 |some (.box _ _ aF)=>(Q5 aF).flatMap λv=>match v with
  |.bH t _=>[t]
  |_=>[]
 |_=>[]
def t9(A:be)(s:Nat):aO:=match look A s with
 |some (.box _ _ aF)=>(Q5 aF).flatMap λv=>match v with
  |.bQ t=>[t]
  |_=>[]
 |_=>[]
def reach(A:be):Nat->aO->aO->aO
 |0,done,_=>done
 |_+1,done,[]=>done
 |n+1,done,s::l=>match cr s done with
  |true=>reach A n done l
  |false=>reach A n (done++[s]) (l++aqs A s)
def kG(h:Nat->Bool)(bc:aO)(A:be):Nat->List a1->Option (List a1)
 |_,[]=>some []
 |i,v::l=>match h i,v with
  |true,.bH s 0=>cw (kG h bc A (i+1) l) λr=>some (qT bc 1000 (.bH s 0)::r)
  |true,.bQ s=>cw (kG h bc A (i+1) l) λr=>some (qT bc 1000 (.bQ s)::r)
  |_,_=>c7 (pR A v) (kG h bc A (i+1) l) λt r=>some (.J t::r)
def PJ:eS->Bool
 |.box _ _ _=>true
 |.arr _ _ _ u=> !u
def wD:eS->eS->Bool
 |.box el z _,.box eC cI _=>Nat.beq el eC&&Nat.beq z cI
 |.arr el z ab u,.arr eC cI f7 fa=>Nat.beq el eC&&Nat.beq z cI&& !u&& !fa&&Nat.beq ab.length f7.length
 |_,_=>false
def rD(bc:aO)(A:be):Nat->aO->Option be
 |_,[]=>some []
 |i,s::l=>match look A s with
  |some D=>match PJ D with
   |true=>cw (rD bc A (i+1) l) λr=>some ((i,gx (qT bc 1000) D)::r)
   |false=>none
  |none=>none
def r0(bc:aO):Nat->aO->be->be->Option be
 |_,[],[],A=>some A
 |i,s::l,(M,D)::r,A=>match Nat.beq i M,look A s with
  |true,some bs=>match wD bs D with
   |true=>r0 bc (i+1) l r (kr A s (gx (yK bc) D))
   |false=>none
  |_,_=>none
 |_,_,_,_=>none
def yS:b2->Bool
 |.bool _=>true
 |.int _ _=>true
 |.str _=>true
 |.nil _=>true
 |.eJ l=>l.all λv=>match v with
  |.bool _=>true
  |.int _ _=>true
  |.str _=>true
  |.nil _=>true
  |_=>false
 |_=>false
def tu(A:be):aO->aO
 |[]=>[]
 |s::l=>match look A s with
  |some (.box el _ _)=>el::tu A l
  |some (.arr el _ _ _)=>el::tu A l
  |none=>tu A l
def zL(A:be)(l:aO):aO:=l.filter (nS A)
def wc(A:be)(l:aO):aO:=l.filter λs=> !nS A s
def D5(h:Hint)(qA:jo)(args:List a1):Bool:=match qA with
 |some g=>fQ (oM (h.sF g) 0 args) 0
 |none=>true
def wM:aO->aO->Bool
 |[],_=>true
 |a::l,m=>cr a m&&wM l m
def Ml(l aM:aO):Nat->aO->Bool
 |_,[]=>true
 |n,b::bc=>(!cr b l||cr n aM)&&Ml l aM (n+1) bc
def w8(bc X:aO):aO->Bool
 |0::l=>match X with
  |0::aM=>Ml l aM 1000 bc
  |_=>jQ bc l
 |_=>true
def tV{R:Type}(bP:AZ R)(h:Hint)(f:b2)(qA:jo)(args:List a1)(S:c5)(k:a1->c5->R):R:=
 match(match qA with|some g=>h.sF g|none=>λ_=>false),(match qA with|some g=>h.flat g|none=>false),(match qA with|some g=>h.mt g|none=>[]) with
 |r,f6,X=>match reach S.A 9 [] (oM r 0 args),lP ((tq r 0 args).flatMap (e6 S.A 3)) with
  |[],aX=>match f6 with
   |true=>hs bP (kG r [] (keeps S.A aX) 0 args) λda=>bP.call [] f da [] λv _=>tU (yS v) (k (.J v) S) (tU (!cA (tu S.A (wc S.A aX)) v) (k (.J v) (S.ft (zL S.A aX))) bP.fail)
   |false=>hs bP (kG r [] (keeps S.A aX) 0 args) λda=>bP.call [] f da [] λv _=>k (.J v) (S.ft aX)
  |bc,aX=>match lP (aX++bc.flatMap (t9 S.A)) with
   |aX=>match jQ aX bc&&kR bc&&wM (ev X) (ev h.du)&&w8 bc X h.du with
    |true=>hs bP (kG r bc (keeps S.A aX) 0 args) λda=>match S.ft aX with
     |om=>hs bP (rD bc om.A 1000 bc) λdP=>bP.call X f da dP λv dP=>hs bP (r0 bc 1000 bc dP (om.bz (ev X)).A) λA=>k (.J v) ⟨(om.bz (ev X)).L,(om.bz (ev X)).E,A⟩
    |false=>bP.fail
section
variable{R:Type}(bP:AZ R)(h:Hint)(P:dy)(es:aO)
def rc:a1->aO
 |.bH s _=>[s]
 |.bQ s=>[s]
 |.fF s _ _=>[s]
 |_=>[]
def Ca:Operand->jo
 |.func f=>some f
 |_=>none
def outs(A:be):aO:=(A.map Prod.fst).filter λs=>Nat.ble 1000 s
def CZ(t:TypeId)(S:c5)(N v:a1)(k:a1->c5->R):R:=match N,v with
 |.J mm,.J km=>match se mm&&Nat.beq (nJ mm % 2) 1&&cr (nJ mm / 4) (ev h.du)&&kR (outs S.A)&&fQ ((outs S.A).flatMap (t9 S.A)) 0 with
  |true=>hs bP (rD (outs S.A) S.A 1000 (outs S.A)) λdP=>bP.ii P t mm km [] dP λ_ dP=>hs bP (r0 (outs S.A) 1000 (outs S.A) dP (S.bz [nJ mm / 4]).A) λA=>k (.J .undef) ⟨(S.bz [nJ mm / 4]).L,(S.bz [nJ mm / 4]).E,A⟩
  |false=>bP.fail
 |N,v=>match zH h.du N with
  |true=>bP.fail
  |false=>hs bP (ve P t S N v) λA=>k (.J .undef) ⟨S.L,S.E,A⟩
def J2(E:List a1):aO->List b2
 |[]=>[]
 |s::l=>(match i5 E s with
  |.J t=>t
  |_=>.undef)::J2 E l
def Dg(E:List a1):aO->List b2->List a1
 |s::l,t::r=>Dg (iT E s (.J t)) l r
 |_,_=>E
def CY(t:TypeId)(S:c5)(N v:a1)(k:a1->c5->R):R:=match N,v with
 |.J mm,.J km=>match se mm&&Nat.beq (nJ mm % 2) 1&&cr (nJ mm / 4) (ev h.du)&&kR (outs S.A)&&fQ ((outs S.A).flatMap (t9 S.A)) 0 with
  |true=>hs bP (rD (outs S.A) S.A 1000 (outs S.A)) λdP=>bP.ii P t mm km (J2 S.E h.i4) dP λbX dP=>hs bP (r0 (outs S.A) 1000 (outs S.A) dP (S.bz [nJ mm / 4]).A) λA=>k (.J .undef) ⟨(S.bz [nJ mm / 4]).L,Dg (S.bz [nJ mm / 4]).E h.i4 bX,A⟩
  |false=>bP.fail
 |N,v=>match zH h.du N with
  |true=>bP.fail
  |false=>hs bP (ve P t S N v) λA=>k (.J .undef) ⟨S.L,S.E,A⟩
def HJ:a1->Option b2
 |.J t=>some t
 |_=>none
def P2(d:Nat)(f:b2)(args:List a1)(S:c5)(k:a1->c5->R):R:=
 hs bP (gD HJ args) λbX=>bP.acS f bX λel z aF=>k (.bH d 0) (S.put d (.box el z (.cc aF)))
def q4(ae:dv)(d:Nat)(op:Op)(S:c5)(k:a1->c5->R):R:=
 match op with
 |.load t x=>hs bP (wP P t S.A (dN es ae S x)) λv=>k v S
 |.store t x y=>CZ bP h P t S (dN es ae S x) (dN es ae S y) k
 |.convert s t x=>match P.ek s,P.ek t with
  |some (.slice e),some .string=>match P.ek e,eV P e with
   |some (.int .u8),some 1=>hs bP (cw (DL S.A 1 (dN es ae S x)) uz) λs=>k (.J (.str s)) S
   |_,_=>bP.fail
  |_,_=>bP.fail
 |.call c=>match h.own d with
  |true=>match c.callee with
   |.value f=>match dN es ae S f with
    |.J g=>P2 bP d g (c.args.toList.map (dN es ae S)) S k
    |_=>bP.fail
   |_=>bP.fail
  |false=>match c.callee with
   |.value f=>match dN es ae S f with
    |.J g=>tV bP h g (Ca f) (c.args.toList.map (dN es ae S)) S k
    |.fn g bY bJ=>tV bP h (.fn g [] []) (some g) (bY++(c.args.toList.map (dN es ae S)++bJ)) S k
    |_=>bP.fail
   |.builtin .append=>match c.argTypes.toList,c.args.toList with
    |[t,a6],[x,y]=>match P.ek t with
     |some (.slice e)=>match eV P e,va P e,(sV P e).map (·.length) with
      |some (s+1),some (b+1),some q=>match Nat.beq q (s+1),P.ek a6 with
       |true,some (.slice _)=>match Nat.beq t a6 with
        |true=>hs bP (cw (DL S.A (s+1) (dN es ae S y)) λl=>yX h.du S d e (s+1) (b+1) (dN es ae S x) l) λr=>k r.1 r.2
        |false=>bP.fail
       |true,some .string=>match P.ek e,s with
        |some (.int .u8),0=>hs bP (cw (uM (dN es ae S y)) λl=>yX h.du S d e 1 (b+1) (dN es ae S x) (hG l)) λr=>k r.1 r.2
        |_,_=>bP.fail
       |_,_=>bP.fail
      |_,_,_=>bP.fail
     |_=>bP.fail
    |_,_=>bP.fail
   |_=>bP.fail
 |_=>bP.fail
def nF(ae:dv)(op:Op)(S:c5):aO:=match op with
 |.buildSlice _ _ cg=>lP ((rz es ae S cg.toList).flatMap λN=>e6 S.A 3 N.2)
 |_=>[]
def Ag(ae:dv)(d:Nat)(op:Op)(S:c5):Option (a1×Option eS):=
 match op with
 |.alloc el=>match sV P el,eV P el with
  |some z,some (n+1)=>match Nat.beq z.length (n+1) with
   |true=>some (.bH d 0,some (.box el (n+1) (.bE (z.map py))))
   |false=>none
  |_,_=>none
 |.box el x=>match eV P el with
  |some (n+1)=>match dN es ae S x with
   |.J a6=>match n with
    |0=>match pJ a6 with
     |true=>some (.bH d 0,some (.box el 1 (.cc [a6])))
     |false=>none
    |n+1=>match yj (n+2) a6 with
     |true=>some (.bH d 0,some (.box el (n+2) (.cc (qF a6))))
     |false=>none
   |v=>cw (ns S.A v (n+1)) λc=>some (.bH d 0,some (.box el (n+1) (.bE c)))
  |_=>none
 |.buildSlice t n cg=>match P.ek t with
  |some (.slice e)=>match eV P e with
   |some (s+1)=>match Nat.beq cg.toList.length n&&((rz es ae S cg.toList).map Prod.fst==List.range n)&&Nat.blt 0 n&&Nat.ble (n*(s+1)) 100000&&(p4 P e).isSome with
    |true=>cw (gD (λN=>cw (pR (keeps S.A (nF es ae op S)) N.2) λt=>cw (ns S.A (.J t) (s+1)) (gD (g7 S.A 0))) (rz es ae S cg.toList)) λab=>match h.grow d with
     |true=>match nF es ae op S with
      |[]=>some (.bQ d,some (.arr e (s+1) ab false))
      |_=>none
     |false=>some (.J (.aQ (2*e) ab),none)
    |false=>none
   |_=>none
  |_=>none
 |.makeSlice t l c=>match P.ek t with
  |some (.slice e)=>match eV P e,sV P e with
   |some (s+1),some z=>match Nat.beq z.length (s+1)&&Nat.ble ((va P e).getD 1001) 1000 with
    |true=>c7 (ro 3 (dN es ae S l)) (ro 3 (dN es ae S c)) λn m=>match Nat.beq n m&&Nat.blt n 513 with
     |true=>cw (gD (λv=>g7 S.A 0 (py v)) z) λaF=>some (.bQ d,some (.arr e (s+1) (List.replicate n aF) false))
     |false=>none
    |false=>none
   |_,_=>none
  |_=>none
 |_=>none
def D1(ae:dv)(d:Nat)(op:Op)(S:c5)(k:a1->c5->R):R:=
 hs bP (Ag h P es ae d op S) λr=>match r.2 with
  |some D=>k r.1 (S.put d (gx (et d) D))
  |none=>k r.1 (S.ft (nF es ae op S))
def It(ae:dv)(d:Nat)(op:Op)(S:c5)(k:a1->c5->R):R:=
 match lN P op with
 |.pure=>hs bP (u5 P es ae S op) λv=>k v S
 |.sf=>D1 bP h P es ae d op S k
 |.wr=>q4 bP h P es ae d op S k
def Cf(ae:dv)(d:Nat)(op:Op)(S:c5)(k:a1->c5->R):R:=
 match lN P op,op with
 |.wr,.store t x y=>CY bP h P t S (dN es ae S x) (dN es ae S y) k
 |_,op=>It bP h P es ae d op S k
def st:List a1->Nat->Bool->List a1
 |[],_,_=>[]
 |_::l,0,b=>.J (.bool b)::l
 |a::l,n+1,b=>a::st l n b
def zl(ae:dv)(d:Nat)(k2:Bool)(S:c5)(y n:c5->R):R:=
 match jp d ae with
 |some i=>match i5 S.L i with
  |.iy=>n S
  |.J t=>hs bP (nd (.J t)) λb=>bP.test b
   (match k2 with|true=>y ⟨st S.L i true,S.E,S.A⟩|false=>n ⟨st S.L i true,S.E,S.A⟩)
   (match k2 with|true=>n ⟨st S.L i false,S.E,S.A⟩|false=>y ⟨st S.L i false,S.E,S.A⟩)
  |_=>bP.fail
 |none=>bP.fail
def zv(aP:Nat)(pU:jo)(v:a1)(S:c5)(k:c5->R):R:=
 match pU with
 |none=>k ⟨.J .undef::S.L,S.E,S.A⟩
 |some d=>match Nat.blt d aP with
  |true=>match i2 d es with
   |none=>k ⟨v::S.L,S.E,S.A⟩
   |some i=>k ⟨v::S.L,iT S.E i v,S.A⟩
  |false=>bP.fail
def yW(aP:Nat)(an:Array Oper):dv->gu->c5->(c5->R)->R
 |_,[],S,k=>k S
 |ae,D::l,S,k=>match zu D.op|| !Nat.blt (D.dst.getD 0) 1000 with
  |true=>bP.fail
  |false=>match D.guard with
   |none=>Cf bP h P es ae (D.dst.getD 0) D.op S λv S=>zv bP es aP D.dst v S λS=>yW aP an (D.dst::ae) l S k
   |some (M,w)=>match(an[M]?).bind (·.dst) with
    |some d=>zl bP ae d w S
     (λS=>Cf bP h P es ae (D.dst.getD 0) D.op S λv S=>zv bP es aP D.dst v S λS=>yW aP an (D.dst::ae) l S k)
     (λS=>zv bP es aP D.dst .iy S λS=>yW aP an (D.dst::ae) l S k)
    |none=>bP.fail
structure mE where
 S:c5
 iM:List (Nat×Nat)
 iV:List (Nat×Nat)
 dk:aO
def sites(l:List (Nat×Nat)):aO:=l.map Prod.snd
def DK:b2->Bool
 |.bool _=>true
 |.int _ _=>true
 |.str _=>true
 |.nil _=>true
 |.aQ _ _=>true
 |.gc _ _ _=>true
 |_=>false
def an4:b2->Bool
 |.agg l=>l.all DK
 |t=>DK t
def Hp(A:be):a1->Bool
 |.J t=>DK t
 |.bT=>true
 |.bH s _=>tc A s
 |.bQ s=>nS A s
 |.fF s _ _=>nS A s
 |_=>false
def GF(A:be):a1->Bool
 |.J t=>an4 t
 |.agg l=>l.all (Hp A)
 |v=>Hp A v
def gK(m:Nat)(l:List (Nat×Nat)):List (Nat×Nat):=l.filter λN=> !dd m N.1
def J7(X:aO):a1->Bool
 |.J t=> !cr (nJ t / 4) X
 |_=>true
def Us:a1->Bool
 |.J _=>true
 |_=>false
def uT(ae:dv)(i:Nat)(v:Bool)(d:Nat)(op:Op)(aY:mE)(k:a1->mE->R):R:=
 match op with
 |.load t x=>match jQ (rc (dN es ae aY.S x)) (sites aY.iV)&&(!Us (dN es ae aY.S x)||fQ aY.dk 0) with
  |true=>hs bP (wP P t aY.S.A (dN es ae aY.S x)) λw=>match v with
   |false=>k w aY
   |true=>tU (J7 h.du (dN es ae aY.S x)&&GF aY.S.A w) (k w ⟨aY.S,(rc (dN es ae aY.S x)).map (λs=>(i,s))++aY.iM,aY.iV,aY.dk⟩) bP.fail
  |false=>bP.fail
 |op=>match lN P op with
  |.pure=>hs bP (u5 P es ae aY.S op) λw=>k w aY
  |.sf=>match Nat.blt d 1000&&jQ [d] (sites aY.iV++sites aY.iM)&&jQ (nF es ae op aY.S) (sites aY.iM) with
   |true=>match aY.S.ft (nF es ae op aY.S) with
    |S=>hs bP (Ag ⟨h.sF,h.flat,λ_=>true,h.mt,h.du,h.own,h.i4⟩ P es ae d op S) λr=>match r.2 with
     |some D=>k r.1 ⟨S.put d (gx (et d) D),aY.iM,(i,d)::aY.iV.filter (λN=> !cr N.2 (nF es ae op aY.S)),(aY.iV.filter (λN=>cr N.2 (nF es ae op aY.S))).map Prod.fst++aY.dk⟩
     |none=>bP.fail
   |false=>bP.fail
  |.wr=>bP.fail
def x9(ae:dv)(op:Op)(S:c5):Bool:=match op with
 |.call c=>match c.callee with
  |.value f=>match dN es ae S f with
   |.J _=>D5 h (Ca f) (c.args.toList.map (dN es ae S))
   |.fn g bY bJ=>D5 h (some g) (bY++(c.args.toList.map (dN es ae S)++bJ))
   |_=>false
  |_=>false
 |_=>false
def No(h:Hint)(S:c5)(qA:jo)(args:List a1)(cW:aO):Bool:=match qA with
 |none=>false
 |some f=>match h.mt f with
  |0::l=>match reach S.A 9 [] (oM (h.sF f) 0 args) with
   |[]=>false
   |bc=>cW.all λs=>tc S.A s&&(match place bc 0 s with
    |some n=>cr (1000+n) l
    |none=>true)
  |_=>false
def xa(ae:dv)(d:Nat)(op:Op)(S:c5)(cW:aO):Bool:=match h.own d with
 |true=>false
 |false=>match op with
  |.call c=>match c.callee with
   |.value f=>match dN es ae S f with
    |.J _=>No h S (Ca f) (c.args.toList.map (dN es ae S)) cW
    |_=>false
   |_=>false
  |_=>false
def ka(A:be):aO->be
 |[]=>[]
 |s::l=>match look A s with
  |some D=>(s,D)::ka A l
  |none=>ka A l
def pt:be->List a1
 |[]=>[]
 |(_,.box _ _ (.bE l))::r=>.agg l::pt r
 |_::r=>pt r
def rX(X:aO)(D:eS):eS:=match X with
 |[]=>D
 |X=>ob X D
def xi(X:aO):be->List a1->be
 |[],_=>[]
 |(s,.box el z (.bE _))::r,.agg l::es=>(s,.box el z (.bE l))::xi X r es
 |(s,D)::r,es=>(s,rX X D)::xi X r es
def DD(aJ:aO):a1->Bool
 |.J _=>true
 |.bQ s=> !cr s aJ
 |_=>false
def vs(aJ:aO):be->Bool
 |[]=>true
 |(_,.box _ _ (.bE l))::r=>l.all (λe=>jQ (yH e) aJ)&&vs aJ r
 |_::r=>vs aJ r
def ym(A:be):aO->Bool
 |[]=>true
 |s::l=>match look A s with
  |some (.box _ _ _)=>ym A l
  |some (.arr _ _ ab u)=>(!u|| !fQ ab 0)&&ym A l
  |none=>false
def AO(aY:mE)(aJ:aO):c5:=⟨aY.S.L++pt (ka aY.S.A aJ),aY.S.E,jS aY.S.A aJ⟩
def hidden(q:Bool)(dj cW:aO):aO:=match q with
 |true=>dj
 |false=>dj++cW
def Jz(ae:dv)(m:Nat)(d:Nat)(op:Op)(aY:mE)(k:a1->mE->R):R:=
 match gK m aY.iV,gK m aY.iM with
 |dj,cW=>match x9 h es ae op (AO aY (sites dj))||xa h es ae d op (AO aY (sites dj)) (sites cW) with
  |q=>match hidden q (sites dj) (sites cW),lN P op with
   |aJ,.wr=>match Nat.blt d 1000&&jQ [d] (sites dj++sites cW)&&aY.dk.all (λi=>dd m i)&&Nat.ble ae.length aY.S.L.length with
    |true=>q4 bP h P es ae d op (AO aY aJ) λv S=>tU (DD aJ v&&vs aJ S.A&&(!q||ym S.A (sites cW))) (k v ⟨⟨S.L.take aY.S.L.length,S.E,xi (ev h.du) (ka aY.S.A aJ) (S.L.drop aY.S.L.length)++S.A⟩,cW,dj,[]⟩) bP.fail
    |false=>bP.fail
   |_,_=>bP.fail
def xQ(aP:Nat)(an:gu)(ae:dv)(D:Oper)(aY:mE)(y:mE->(a1->mE->R)->R)(k:mE->R):R:=
 match(match D.dst with|some d=>Nat.blt d aP|none=>true) with
 |true=>match D.guard with
  |none=>y aY λv aY=>k ⟨⟨v::aY.S.L,aY.S.E,aY.S.A⟩,aY.iM,aY.iV,aY.dk⟩
  |some (M,w)=>match(an[M]?).bind (·.dst) with
   |some d=>zl bP ae d w aY.S
    (λS=>y ⟨S,aY.iM,aY.iV,aY.dk⟩ λv aY=>k ⟨⟨v::aY.S.L,aY.S.E,aY.S.A⟩,aY.iM,aY.iV,aY.dk⟩)
    (λS=>k ⟨⟨.iy::S.L,S.E,S.A⟩,aY.iM,aY.iV,aY.dk⟩)
   |none=>bP.fail
 |false=>bP.fail
def Bi(aP:Nat)(an:gu)(jg:jo):dv->aO->mE->(mE->R)->R
 |_,[],aY,k=>k aY
 |ae,i::l,aY,k=>match an[i]? with
  |some D=>xQ bP aP an ae D aY (λaY k=>uT bP h P es ae i (match jg with|some m=> !dd m i|none=>false) (D.dst.getD 0) D.op aY k) λaY=>Bi aP an jg (D.dst::ae) l aY k
  |none=>bP.fail
def Gu(aP:Nat)(an:gu)(bg:aO):dv->List (aO×Nat)->mE->(mE->R)->R
 |_,[],aY,k=>k aY
 |ae,(aQ,w)::l,aY,k=>match an[w]? with
  |some D=>Bi bP h P es aP an (some (mk bg w)) ae aQ aY λaY=>xQ bP aP an (k3 an ae aQ) D aY (λaY k=>Jz bP h P es (k3 an ae aQ) (mk bg w) (D.dst.getD 0) D.op aY k) λaY=>Gu aP an bg (D.dst::k3 an ae aQ) l aY k
  |none=>bP.fail
def AY:dv->List a1->List a1->List a1
 |[],_,E=>E
 |d::ae,L,E=>AY ae L.tail (match d with
  |none=>E
  |some d=>match i2 d es with
   |none=>E
   |some i=>iT E i (i5 L 0))
def Iy(aP:Nat)(an:gu)(bg:aO)(pl:Ew)(E:List a1)(A:be)(k:List a1->be->R):R:=
 match pl.kt with
 |[]=>Gu bP h P es aP an bg [] pl.oe ⟨⟨[],E,A⟩,[],[],[]⟩ λaY=>Bi bP h P es aP an none (nH an [] pl.oe) pl.last aY λaY=>k (AY es (k3 an (nH an [] pl.oe) pl.last) aY.S.L aY.S.E) aY.S.A
 |_=>bP.fail
end
inductive zx where
 |exit (id:Nat)
 |ret
structure Acc where
 box:Bool
 i:Nat
 M:Nat
 eO:Nat
 el:Nat
 z:Nat
structure qY where
 c4:aO
 bS:aO
 acc:List Acc
 aU:aO
def q8(s t:Nat):a1->a1
 |.bQ a=>match Nat.beq a t with
  |true=>.J .undef
  |false=>match Nat.beq a s with
   |true=>.bQ t
   |false=>.bQ a
 |.fF a r D=>match Nat.beq a t with
  |true=>.J .undef
  |false=>match Nat.beq a s with
   |true=>.fF t r D
   |false=>.fF a r D
 |.bH a D=>match Nat.beq a t with
  |true=>.J .undef
  |false=>.bH a D
 |v=>v
def uS(s t:Nat):be->be
 |[]=>[]
 |(a,D)::l=>match Nat.beq a s with
  |true=>(t,D)::rem l s
  |false=>(a,D)::uS s t l
def forget:List a1->aO->List a1
 |E,[]=>E
 |E,i::l=>forget (iT E i (.J .undef)) l
def aaJ(E:List a1)(A:be)(a:Acc):a1:=match a.box with
 |false=>i5 E a.i
 |true=>match look A a.i with
  |some (.box _ _ (.bE l))=>i5 l a.M
  |_=>.J .undef
def acm(E:List a1)(A:be)(a:Acc)(v:a1):List a1×be:=match a.box with
 |false=>(iT E a.i v,A)
 |true=>match look A a.i with
  |some (.box el z (.bE l))=>(E,kr A a.i (.box el z (.bE (iT l a.M v))))
  |_=>(E,A)
def uU:List Acc->List a1->be->Option (List a1×be)
 |[],E,A=>some (E,A)
 |a::l,E,A=>match Nat.blt a.eO 1000,aaJ E A a with
  |true,.bT=>match look A a.eO,acm (E.map (dJ (et a.eO))) ((a.eO,.arr a.el a.z [] true)::fL (et a.eO) (rem A a.eO)) a (.bQ a.eO) with
   |none,(E,A)=>uU l E A
   |some _,_=>none
  |true,.bQ s=>match Nat.beq s a.eO with
   |true=>uU l E A
   |false=>match nS A s,look A a.eO with
    |true,none=>uU l (E.map (dJ (q8 s a.eO))) (fL (q8 s a.eO) (uS s a.eO A))
    |false,_=>none
    |true,some _=>uU l ((E.map (dJ (et a.eO))).map (dJ (q8 s a.eO))) (fL (q8 s a.eO) (uS s a.eO (fL (et a.eO) (rem A a.eO))))
  |_,_=>none
def oz(A:be):aO->Option be
 |[]=>some []
 |s::l=>match look A s with
  |some D=>cw (oz A l) λr=>some ((s,D)::r)
  |none=>none
def norm{R:Type}(bP:AZ R)(H:Option qY)(E:List a1)(A:be)(k:List a1->be->R):R:=match H with
 |none=>k E A
 |some H=>match(c5.mk [] (forget E H.c4) A).ft H.bS with
  |S=>hs bP (uU H.acc S.E S.A) λr=>hs bP (oz r.2 H.aU) λA=>k r.1 A
section
variable{R:Type}(bP:AZ R)(h:Hint)(jI:Nat->Option qY)(P:dy)(es:aO)(aP:Nat)
def pf:Code->Nat->List a1->be->(List a1->be->R)->(zx->List a1->be->R)->R
 |.skip,_,E,A,b0,_=>b0 E A
 |.region _ an false,_,E,A,b0,_=>yW bP h P es aP an [] an.toList ⟨[],E,A⟩ λS=>b0 S.E S.A
 |.region _ an true,_,E,A,b0,_=>match xV P (iK [] an.toList) an.toList (CF P (iK [] an.toList) an.toList) with
  |true=>Iy bP h P es aP an.toList (iK [] an.toList) (CF P (iK [] an.toList) an.toList) E A b0
  |false=>bP.fail
 |.seq a b,_,E,A,b0,bz=>pf a 0 E A (λE A=>pf b 0 E A b0 bz) bz
 |.cond c a b,_,E,A,b0,bz=>hs bP (nd (dN es [] ⟨[],E,A⟩ c)) λv=>bP.test v (pf a 0 E A b0 bz) (pf b 0 E A b0 bz)
 |.block id c,_,E,A,b0,bz=>pf c id E A b0 λx E A=>match x with
  |.exit i=>match Nat.beq i id with
   |true=>b0 E A
   |false=>bz (.exit i) E A
  |.ret=>bz .ret E A
 |.loop c,id,E,A,b0,bz=>bP.loop (λba E A=>norm bP (jI id) E A λE A=>pf c 0 E A ba bz) E A
 |.exit id,_,E,A,_,bz=>bz (.exit id) E A
 |.ret,_,E,A,_,bz=>bz .ret E A
 |_,_,_,_,_,_=>bP.fail
end
def wX(P:dy)(es:aO)(S:c5):List ResultVar->Option (List a1)
 |[]=>some []
 |.tmp t::l=>cw (wX P es S l) λr=>some (dN es [] S (.tmp t)::r)
 |.cell a t::l=>c7 (wP P t S.A (dN es [] S (.tmp a))) (wX P es S l) λv r=>some (v::r)
def PM:List b2->b2
 |[t]=>t
 |bX=>.eJ bX
def Eb(A:be):aO:=(A.map Prod.fst).filter λs=>Nat.blt s 1000
def finish{R:Type}(bP:AZ R)(P:dy)(es:aO)(am:List ResultVar)(gI:aO)(E:List a1)(A:be)(k:b2->be->R):R:=
 hs bP (wX P es ⟨[],E,A⟩ am) λfb=>hs bP (gD (pR (keeps A (Eb A))) fb) λbX=>hs bP (oz ((c5.mk [] [] A).ft (Eb A)).A gI) λA=>k (PM bX) A
def IH{R:Type}(bP:AZ R)(ak:Nat->Hint)(jI:Nat->Nat->Option qY)(P:dy)(iZ:Nat->aO)(f:Nat)(args:List a1)(A:be)(k:b2->be->R):R:=
 match P.fn f with
 |some fn=>match fn.body with
  |some c=>match fQ args (fn.params.size+fn.nfree)&&Nat.ble (fn.params.size+fn.nfree) 16&&Nat.ble (fn.params.size+fn.nfree) (iZ f).length&&Nat.ble (iZ f).length 64&&Nat.ble (fn.params.size+fn.nfree) fn.ntmps&&t4 (fn.params.size+fn.nfree) 0 (iZ f)&& !sE c&&A.all (λN=>Nat.ble 1000 N.1) with
   |true=>pf bP (ak f) (jI f) P (iZ f) fn.ntmps c 0 (args++List.replicate ((iZ f).length - (fn.params.size+fn.nfree)) (.J .undef)) A
    (λE bw=>finish bP P (iZ f) fn.results.toList (A.map Prod.fst) E bw k)
    (λx E bw=>match x with
     |.ret=>finish bP P (iZ f) fn.results.toList (A.map Prod.fst) E bw k
     |.exit _=>bP.fail)
   |false=>bP.fail
  |none=>bP.fail
 |none=>bP.fail
end
end Go.Tx
namespace Go
abbrev bG := List Tx.a1
abbrev di := List Tx.b2
abbrev gF := List (List Tx.b2)
end Go
