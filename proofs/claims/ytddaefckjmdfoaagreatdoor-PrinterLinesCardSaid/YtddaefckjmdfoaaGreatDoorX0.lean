/- Part of the proof of PrinterLines. -/
import Derived.Test.YtddaefckjmdfoaaGreatDoorT8
set_option linter.all false
namespace Go.Tx
open Go Go.Ev
structure gz(N:Prop)(x:Prop):Prop where
 h:N
 x:x
inductive jM (rows:gF) (i:Nat) (k:di->Prop):Prop where
 |mk (r:di) (h:ib rows i=r) (x:k r)
inductive aes (rows:gF) (i:Nat) (k:di->Prop):Prop where
 |mk (r:di) (h:rows[i]?=some r) (x:k r)
inductive adO (s:k9) (i:Nat) (k:UInt8->Prop):Prop where
 |mk (b:UInt8) (h:s[i]?=some b) (x:k b)
inductive qk (N:Prop) (a b:Nat) (k:Nat->Prop):Prop where
 |nice:N->k a->qk N a b k
 |mW:k b->qk N a b k
inductive l8 (N:Prop) (a b:Bool) (k:Bool->Prop):Prop where
 |nice:N->k a->l8 N a b k
 |mW:k b->l8 N a b k
inductive D7 (X:aO) (t:b2) (k:b2->Prop):Prop where
 |hZ:cA X t=false->k t->D7 X t k
 |drop:cA X t=true->k .undef->D7 X t k
inductive u0 (i M n:Nat) (x y z:Prop):Prop where
 |some:i<M->M<=n->x->u0 i M n x y z
 |zero:i=0->M=0->y->u0 i M n x y z
 |none:0<i->i=M->M<=n->z->u0 i M n x y z
structure Ib(C:Nat->cG)(X:aO)(f:Nat)(args:bG)(A:be)(bZ:b2->be->Prop):Prop where
 h:bj C X f args A bZ
structure qK(body:(bG->be->Prop)->bG->be->Prop)(E:bG)(A:be):Prop where
 h:∃n,lQ body n E A
inductive Iw (N:Prop) (eo:(bG->be->Prop)->Prop) (bc:bG->be->Prop):Prop where
 |plain:N->Iw N eo bc
 |join (bv:bG->be->Prop):eo bv->(∀E A,bv E A->bc E A)->Iw N eo bc
def FB:a1->(a1->Prop)->Prop
 |.J t,k=>k (.J t)
 |.iy,k=>k .iy
 |.bT,k=>k .bT
 |.bH s D,k=>k (.bH s D)
 |.bQ s,k=>k (.bQ s)
 |.fF s r D,k=>k (.fF s r D)
 |.agg l,k=>k (.agg l)
 |.fn f x y,k=>k (.fn f x y)
def wm(f:a1->a1):bG->(bG->Prop)->Prop
 |[],k=>k []
 |e::l,k=>FB (f e) λe=>wm f l λl=>k (e::l)
def P0(f:a1->a1):a1->(a1->Prop)->Prop
 |.agg l,k=>wm f l λl=>k (.agg l)
 |.fn g bY bJ,k=>wm f bY λbY=>wm f bJ λbJ=>k (.fn g bY bJ)
 |e,k=>FB (f e) k
def jK(f:a1->a1):bG->(bG->Prop)->Prop
 |[],k=>k []
 |e::l,k=>P0 f e λe=>jK f l λl=>k (e::l)
def BL(f:a1->a1):be->(be->Prop)->Prop
 |[],k=>k []
 |(s,.box el z (.bE l))::r,k=>wm f l λl=>BL f r λr=>k ((s,.box el z (.bE l))::r)
 |(s,D)::r,k=>BL f r λr=>k ((s,D)::r)
def sX:aO->(aO->Prop)->Prop
 |[],k=>k []
 |a::l,k=>sX l λl=>k (a::l)
def ky{α:Type}:List α->(List α->Prop)->Prop
 |[],k=>k []
 |a::l,k=>ky l λl=>k (a::l)
def yU:bG->Nat->(a1->Prop)->Prop
 |[],_,k=>k (.J .undef)
 |a::_,0,k=>k a
 |_::l,n+1,k=>yU l n k
def AA:di->Nat->(b2->Prop)->Prop
 |[],_,k=>k .undef
 |a::_,0,k=>k a
 |_::l,n+1,k=>AA l n k
def EZ(l:di):Nat->Nat->(di->Prop)->Prop
 |_,0,k=>k []
 |i,n+1,k=>AA l i λa=>EZ l (i+1) n λr=>k (a::r)
def yf:bG->Nat->a1->(bG->Prop)->Prop
 |[],_,_,k=>k []
 |_::l,0,v,k=>k (v::l)
 |a::l,n+1,v,k=>yf l n v λl=>k (a::l)
def Cj:bG->Nat->Bool->(bG->Prop)->Prop
 |[],_,_,k=>k []
 |_::l,0,b,k=>k (.J (.bool b)::l)
 |a::l,n+1,b,k=>Cj l n b λl=>k (a::l)
def w2{α:Type}:Nat->List α->(List α->Prop)->Prop
 |0,_,k=>k []
 |_+1,[],k=>k []
 |n+1,a::l,k=>w2 n l λl=>k (a::l)
def vP{α:Type}:Nat->List α->(List α->Prop)->Prop
 |0,l,k=>k l
 |_+1,[],k=>k []
 |n+1,_::l,k=>vP n l k
def pT{α:Type}:List α->List α->(List α->Prop)->Prop
 |[],m,k=>k m
 |a::l,m,k=>pT l m λl=>k (a::l)
def zC:di->(bG->Prop)->Prop
 |[],k=>k []
 |t::l,k=>zC l λl=>k (.J t::l)
def ud:be->Nat->eS->(be->Prop)->Prop
 |[],_,_,k=>k []
 |(s,bs)::l,t,D,k=>match Nat.beq s t with
  |true=>k ((s,D)::l)
  |false=>ud l t D λl=>k ((s,bs)::l)
def Jy:be->Nat->(be->Prop)->Prop
 |[],_,k=>k []
 |(s,D)::l,t,k=>match Nat.beq s t with
  |true=>Jy l t k
  |false=>Jy l t λl=>k ((s,D)::l)
def wq:be->aO->(be->Prop)->Prop
 |[],_,k=>k []
 |(s,D)::l,aX,k=>match cr s aX with
  |true=>wq l aX λl=>k ((s,D)::l)
  |false=>wq l aX k
def C0:be->aO->(be->Prop)->Prop
 |[],_,k=>k []
 |(s,D)::l,aX,k=>match cr s aX with
  |true=>C0 l aX k
  |false=>C0 l aX λl=>k ((s,D)::l)
abbrev Ah:=bG->bG->be->Prop
def Oh(f:a1->a1)(L E:bG)(A:be)(k:Ah):Prop:=jK f L λL=>jK f E λE=>BL f A λA=>k L E A
def vE(aX:aO)(L E:bG)(A:be)(k:Ah):Prop:=match aX with
 |[]=>k L E A
 |aX=>C0 A aX λr=>wq A aX λq=>Oh (lk q aX) L E r k
def La(s:Nat)(L E:bG)(A:be)(k:Ah):Prop:=Jy A s λr=>Oh (et s) L E r k
def ME(d:Nat)(D:eS)(k:eS->Prop):Prop:=match D with
 |.box el z (.bE l)=>wm (et d) l λl=>k (.box el z (.bE l))
 |D=>k D
def w3(s:Nat)(D:eS)(L E:bG)(A:be)(k:Ah):Prop:=La s L E A λL E A=>k L E ((s,D)::A)
def OH(X:aO):b2->(b2->Prop)->Prop
 |.undef,k=>k .undef
 |.bool b,k=>k (.bool b)
 |.int c n,k=>k (.int c n)
 |.str s,k=>k (.str s)
 |.nil c,k=>k (.nil c)
 |t,k=>D7 X t k
def Ji(X:aO):di->(di->Prop)->Prop
 |[],k=>k []
 |t::l,k=>OH X t λt=>Ji X l λl=>k (t::l)
def Lw(X:aO):a1->(a1->Prop)->Prop
 |.J t,k=>OH X t λt=>k (.J t)
 |e,k=>k e
def x7(X:aO):bG->(bG->Prop)->Prop
 |[],k=>k []
 |e::l,k=>Lw X e λe=>x7 X l λl=>k (e::l)
def Un(X:aO):a1->(a1->Prop)->Prop
 |.agg l,k=>x7 X l λl=>k (.agg l)
 |.fn g bY bJ,k=>x7 X bY λbY=>x7 X bJ λbJ=>k (.fn g bY bJ)
 |e,k=>Lw X e k
def Fb(X:aO):bG->(bG->Prop)->Prop
 |[],k=>k []
 |e::l,k=>Un X e λe=>Fb X l λl=>k (e::l)
structure MO(X:aO)(rows:gF)(k:Prop):Prop where
 h:hy X rows=false
 x:k
def P6(X:aO):eS->(eS->Prop)->Prop
 |.box el z (.cc l),k=>Ji X l λl=>k (.box el z (.cc l))
 |.box el z (.bE l),k=>x7 X l λl=>k (.box el z (.bE l))
 |.arr el z ab u,k=>MO X ab (k (.arr el z ab u))
def xf(X:aO):be->(be->Prop)->Prop
 |[],k=>k []
 |(s,D)::r,k=>P6 X D λD=>xf X r λr=>k ((s,D)::r)
def jt(X:aO)(L E:bG)(A:be)(k:Ah):Prop:=match X with
 |[]=>k L E A
 |X=>Fb X L λL=>Fb X E λE=>xf X A λA=>k L E A
def lits:aO:=[0,1,2,3,4,5,6,7,8,9,10,11,12,13,14,15,16,17,18,19,20,21,22,23,24,25,26,27,28,29,30,31,32,33,34,35,36,37,38,39,40,41,42,43,44,45,46,47,48,49,50,51,52,53,54,55,56,57,58,59,60,61,62,63,64,65,90,94,95,97,98,100,102,111,120,122,200,255,256,700,1000,1001,2000,4096,4097,6000,10000,16384,65536,100000,1000000,536870912,1073741824,4294967296,9223372036854775807,9223372036854775808,18446744073709551615]
def MG(n:Nat)(k:Nat->Prop):aO->Prop
 |[]=>k n
 |a::l=>match Nat.beq a n with
  |true=>k a
  |false=>MG n k l
def MN(n:Nat)(k:Nat->Prop):Prop:=MG n k lits
def WY(b:Bool)(k:Bool->Prop):Prop:=match b with
 |true=>k true
 |false=>k false
def MT(e:a1)(k:a1->Prop):Prop:=match e with
 |.J (.int c n)=>MN c λc=>MN n λn=>k (.J (.int c n))
 |.J (.str s)=>ky s λs=>k (.J (.str s))
 |.J (.bool b)=>WY b λb=>k (.J (.bool b))
 |e=>FB e k
def FT:bG->(bG->Prop)->Prop
 |[],k=>k []
 |e::l,k=>MT e λe=>FT l λl=>k (e::l)
def M5(e:a1)(k:a1->Prop):Prop:=match e with
 |.agg l=>FT l λl=>k (.agg l)
 |e=>MT e k
def ac6:IntKind->(Nat->Prop)->Prop
 |.i8,k=>k 0|.i16,k=>k 1|.i32,k=>k 2|.i64,k=>k 3|.u8,k=>k 4|.u16,k=>k 5|.u32,k=>k 6|.u64,k=>k 7
def L2(v:Value)(k:a1->Prop):Prop:=match v with
 |.int cj (.ofNat m)=>match Nat.blt m (dL (cq cj)) with
  |true=>ac6 cj λc=>MN m λm=>k (.J (.int c m))
  |false=>False
 |.bool b=>k (.J (.bool b))
 |.string s=>match Nat.ble s.data.toList.length 1152921504606846976 with
  |true=>match Nat.ble s.data.toList.length 40 with
   |true=>ky s.data.toList λl=>k (.J (.str l))
   |false=>k (.J (.str s.data.toList))
  |false=>False
 |v=>match mr v with
  |some v=>M5 (BO v) k
  |none=>k (.J .undef)
section
variable(C:Nat->cG)(h:Hint)(P:dy)(es:aO)
def gW(ae:dv)(L E:bG)(x:Operand)(k:a1->Prop):Prop:=match x with
 |.tmp t=>match jp t ae with
  |some i=>yU L i k
  |none=>match i2 t es with
   |some s=>yU E s k
   |none=>k (.J .undef)
 |.const v=>L2 v k
 |.func f=>k (.J (.fn f [] []))
 |.global _=>k (.J .undef)
def xt(ae:dv)(L E:bG):List Operand->(bG->Prop)->Prop
 |[],k=>k []
 |x::l,k=>gW es ae L E x λv=>xt ae L E l λl=>k (v::l)
def DV(ae:dv)(L E:bG):List (Nat×Operand)->(List (Nat×a1)->Prop)->Prop
 |[],k=>k []
 |(i,x)::l,k=>gW es ae L E x λv=>DV ae L E l λl=>k ((i,v)::l)
def BZ(op:BinOp)(c bg aI a b:Nat)(k:a1->Prop):Prop:=
 match op with
 |.add=>qk (a+b<bg) (a+b) (nj bg a b) λn=>k (.J (.int c n))
 |.sub=>qk (b<=a/\a<bg) (a - b) (kS bg a b) λn=>k (.J (.int c n))
 |.mul=>qk (a*b<bg) (a*b) (Ht bg a b) λn=>k (.J (.int c n))
 |.quo=>gz (a<aI/\b<aI/\0<b) (k (.J (.int c (a / b))))
 |.rem=>gz (a<aI/\b<aI/\0<b) (k (.J (.int c (a % b))))
 |.and=>k (.J (.int c (Nat.land a b)))
 |.or=>k (.J (.int c (Nat.lor a b)))
 |.xor=>k (.J (.int c (Nat.xor a b)))
 |.eql=>k (.J (.bool (Nat.beq a b)))
 |.neq=>k (.J (.bool (!Nat.beq a b)))
 |.lss=>match Nat.beq aI bg with
  |true=>k (.J (.bool (Nat.blt a b)))
  |false=>l8 (a<aI/\b<aI) (Nat.blt a b) (mb aI bg a b) λq=>k (.J (.bool q))
 |.leq=>match Nat.beq aI bg with
  |true=>k (.J (.bool (Nat.ble a b)))
  |false=>l8 (a<aI/\b<aI) (Nat.ble a b) (jJ aI bg a b) λq=>k (.J (.bool q))
 |.gtr=>match Nat.beq aI bg with
  |true=>k (.J (.bool (Nat.blt b a)))
  |false=>l8 (b<aI/\a<aI) (Nat.blt b a) (mb aI bg b a) λq=>k (.J (.bool q))
 |.geq=>match Nat.beq aI bg with
  |true=>k (.J (.bool (Nat.ble b a)))
  |false=>l8 (b<aI/\a<aI) (Nat.ble b a) (jJ aI bg b a) λq=>k (.J (.bool q))
 |_=>False
def Yx(op:BinOp)(a b:k9)(k:a1->Prop):Prop:=
 match op with
 |.add=>gz (a.length+b.length<=1152921504606846976) (k (.J (.str (a++b))))
 |.eql=>k (.J (.bool (m7 a b)))
 |.neq=>k (.J (.bool (!m7 a b)))
 |.lss=>k (.J (.bool (qH a b)))
 |.gtr=>k (.J (.bool (!qH a b&& !m7 a b)))
 |.leq=>k (.J (.bool (qH a b||m7 a b)))
 |.geq=>k (.J (.bool (!qH a b)))
 |_=>False
def ab0(op:BinOp)(a b:Bool)(k:a1->Prop):Prop:=
 match op with
 |.eql=>k (.J (.bool (a==b)))
 |.neq=>k (.J (.bool (a !=b)))
 |_=>False
def vB(c:Nat)(v:a1)(k:Nat->Prop):Prop:=match v with
 |.J (.int fo n)=>match Nat.beq fo c with
  |true=>k n
  |false=>False
 |_=>False
def rL{α:Type}(D:Option α)(k:α->Prop):Prop:=match D with
 |some v=>k v
 |none=>False
def H2:IntKind->(Nat->Nat->Nat->Prop)->Prop
 |.i8,k=>k 0 256 128|.i16,k=>k 1 65536 32768|.i32,k=>k 2 4294967296 2147483648|.i64,k=>k 3 18446744073709551616 9223372036854775808
 |.u8,k=>k 4 256 256|.u16,k=>k 5 65536 65536|.u32,k=>k 6 4294967296 4294967296|.u64,k=>k 7 18446744073709551616 18446744073709551616
def PX(A:be)(op:BinOp)(t:TypeId)(x y:Operand)(kF kw:a1)(k:a1->Prop):Prop:=
 match P.ek t with
 |some (.int cj)=>match op with
  |.shl=>rL (vC P A .shl t x y kF kw) k
  |.shr=>rL (vC P A .shr t x y kF kw) k
  |op=>H2 cj λc bg aI=>vB c kF λa=>vB c kw λb=>BZ op c bg aI a b k
 |some .string=>match kF,kw with
  |.J (.str a),.J (.str b)=>Yx op a b k
  |_,_=>False
 |some .bool=>match kF,kw with
  |.J (.bool a),.J (.bool b)=>ab0 op a b k
  |_,_=>False
 |_=>rL (vC P A op t x y kF kw) k
def UX(op:UnOp)(x:a1)(k:a1->Prop):Prop:=
 match op with
 |.not=>match x with
  |.J (.bool b)=>k (.J (.bool (!b)))
  |_=>False
 |op=>rL (Il op x) k
def QL(s d:TypeId)(x:a1)(k:a1->Prop):Prop:=
 match P.ek s,P.ek d with
 |some (.int cj),some (.int Sv)=>H2 cj λc bg aI=>H2 Sv λfo Tu _=>vB c x λn=>match Nat.ble Tu bg with
  |true=>qk (n<Tu) n (n % Tu) λn=>k (.J (.int fo n))
  |false=>gz (n<aI) (k (.J (.int fo n)))
 |some .string,some .string=>match x with
  |.J (.str s)=>k (.J (.str s))
  |_=>False
 |_,_=>False
def Ds(v:a1)(b:Nat)(k:Nat->Prop):Prop:=match v with
 |.J (.int c n)=>match Nat.ble 3 c with
  |true=>gz (n<b) (k n)
  |false=>False
 |_=>False
def Gg(A:be)(v:a1)(n:Nat)(k:bG->Prop):Prop:=match n with
 |1=>match v with
  |.agg l=>match fQ l 1 with
   |true=>k l
   |false=>False
  |.J t=>match pJ t with
   |true=>k [.J t]
   |false=>False
  |.bT=>k [.bT]
  |.bH s aT=>match tc A s with
   |true=>k [.bH s aT]
   |false=>False
  |.bQ s=>match nS A s with
   |true=>k [.bQ s]
   |false=>False
  |_=>False
 |n=>match v with
  |.agg l=>match fQ l n with
   |true=>k l
   |false=>False
  |.J (.agg l)=>match fQ l n with
   |true=>zC l k
   |false=>False
  |_=>False
def G8(a b:Nat)(k:Nat->Prop):Prop:=match a with
 |0=>k b
 |a+1=>k (a+1+b)
def Of(t:TypeId)(aT:Nat)(l:bG)(k:a1->Prop):Prop:=
 match rp P t,eV P t with
 |some true,some n=>match Nat.ble (aT+n) l.length with
  |true=>vP aT l λl=>w2 n l λl=>k (.agg l)
  |false=>False
 |some false,some _=>match Nat.blt aT l.length with
  |true=>yU l aT k
  |false=>False
 |_,_=>False
def RZ(t:TypeId)(f:Nat)(x:a1)(k:a1->Prop):Prop:=
 match P.ek t with
 |some (.struct cz)=>match cz[f]? with
  |some fd=>match x with
   |.agg l=>Of P fd.type fd.offset l k
   |.J (.agg l)=>match eV P t with
    |some n=>match fQ l n with
     |true=>zC l λl=>Of P fd.type fd.offset l k
     |false=>False
    |none=>False
   |_=>False
  |none=>False
 |_=>False
def TU(A:be)(t:TypeId)(f:Nat)(x:a1)(k:a1->Prop):Prop:=
 match P.ek t with
 |some (.struct cz)=>match cz[f]? with
  |some ⟨_,jZ,D,_,_,_,_⟩=>match eV P jZ with
   |some (_+1)=>match x with
    |.bH s aT=>match tc A s with
     |true=>G8 aT D λn=>k (.bH s n)
     |false=>False
    |.fF s r aT=>match nS A s with
     |true=>G8 aT D λn=>k (.fF s r n)
     |false=>False
    |.J (.gc g r aT)=>G8 aT D λn=>k (.J (.gc g r n))
    |_=>False
   |_=>False
  |none=>False
 |_=>False
def P9(t:TypeId)(x i:a1)(k:a1->Prop):Prop:=
 match P.ek t with
 |some .string=>match x with
  |.J (.str s)=>Ds i s.length λM=>adO s M λb=>k (.J (.int 4 b.toNat))
  |_=>False
 |_=>False
def Tp(t:TypeId)(A:be)(x i:a1)(k:a1->Prop):Prop:=
 match P.ek t with
 |some (.slice e)=>match eV P e with
  |some (m+1)=>match x with
   |.J (.aQ g ab)=>Ds i ab.length λM=>jM ab M λr=>match fQ r (m+1) with
    |true=>k (.J (.gc (4*(g / 2)+1) r 0))
    |false=>False
   |.bQ s=>match look A s with
    |some (.arr _ z ab _)=>match Nat.beq z (m+1) with
     |true=>Ds i ab.length λM=>k (.fF s M 0)
     |false=>False
    |_=>False
   |_=>False
  |_=>False
 |_=>False
def HB(ae:dv)(L E:bG)(d:Nat)(x:Option Operand)(k:Nat->Prop):Prop:=match x with
 |none=>k d
 |some x=>gW es ae L E x λv=>Ds v 2147483648 k
def Qq(ae:dv)(L E:bG)(t:TypeId)(x:a1)(g8 aH:Option Operand)(k:a1->Prop):Prop:=
 match P.ek t with
 |some .string=>match x with
  |.J (.str s)=>HB es ae L E 0 g8 λi=>HB es ae L E s.length aH λM=>gz (i<=M/\M<=s.length) (k (.J (.str ((s.drop i).take (M - i)))))
  |_=>False
 |some (.slice e)=>match x with
  |.J (.aQ g ab)=>match eV P e with
   |some (m+1)=>jM ab 0 λr=>match fQ r (m+1) with
    |true=>HB es ae L E 0 g8 λi=>HB es ae L E ab.length aH λM=>u0 i M ab.length (k (.J (.aQ (2*(g / 2)) ((ab.drop i).take (M - i))))) (k (.J (.aQ 0 []))) (k (.J .undef))
    |false=>False
   |_=>False
  |_=>False
 |_=>False
def H6(A:be)(parts:List (Nat×a1)):Nat->List Field->bG->(bG->Prop)->Prop
 |_,[],[],k=>k []
 |_,[],_::_,_=>False
 |i,fd::l,z,k=>match eV P fd.type with
  |some s=>match Nat.ble s z.length,vl i parts with
   |true,some g=>Gg A g s λc=>vP s z λz=>H6 A parts (i+1) l z λq=>pT c q k
   |true,none=>w2 s z λc=>vP s z λz=>H6 A parts (i+1) l z λq=>pT c q k
   |false,_=>False
  |none=>False
def QC(A:be)(t:TypeId)(parts:List (Nat×a1))(k:a1->Prop):Prop:=
 match P.ek t with
 |some (.struct cz)=>match CA P 0 cz.toList&&kR (parts.map Prod.fst)&&parts.all (λN=>Nat.blt N.1 cz.toList.length),p4 P t with
  |true,some (.agg n l)=>FT (l.map py) λz=>H6 P A parts 0 cz.toList z λl=>k (.agg l)
  |_,_=>False
 |_=>False
def UA(t:TypeId)(A:be)(x:a1)(k:a1->Prop):Prop:=
 match P.ek t with
 |some .string=>match x with
  |.J (.str s)=>k (.J (.int 3 s.length))
  |_=>False
 |some (.slice _)=>match x with
  |.bT=>k (.J (.int 3 0))
  |.J (.aQ _ ab)=>k (.J (.int 3 ab.length))
  |.bQ s=>match look A s with
   |some (.arr _ _ ab _)=>k (.J (.int 3 ab.length))
   |_=>False
  |_=>False
 |_=>False
def KQ(bE:Bool):bG->(Nat->Prop)->Prop
 |[],_=>False
 |[x],k=>vB 3 x k
 |x::l,k=>vB 3 x λa=>KQ bE l λb=>qk (a<9223372036854775808/\b<9223372036854775808) (match bE with|true=>max a b|false=>min a b) (IR bE a b) k
def Sz(c a b:a1)(k:a1->Prop):Prop:=match c with
 |.J (.bool q)=>match a,b with
  |.J (.bool x),.J (.bool y)=>lH q (k (.J (.bool x))) (k (.J (.bool y)))
  |a,b=>match q with
   |true=>match nd a,nd b with
    |some _,some _=>False
    |_,_=>k a
   |false=>match nd a,nd b with
    |some _,some _=>False
    |_,_=>k b
 |_=>False
def MB(ae:dv)(L E:bG)(A:be)(op:Op)(k:a1->Prop):Prop:=
 match op with
 |.move x=>gW es ae L E x k
 |.assign x=>gW es ae L E x k
 |.pick c a b=>gW es ae L E c λc=>gW es ae L E a λa=>gW es ae L E b λb=>Sz c a b k
 |.build t cg=>DV es ae L E cg.toList λcg=>QC P A t cg k
 |.nilCheck x=>gW es ae L E x λv=>match Iz A v with
  |true=>k v
  |false=>False
 |.binOp op t x y _=>gW es ae L E x λkF=>gW es ae L E y λkw=>PX P A op t x y kF kw k
 |.unOp op _ x=>gW es ae L E x λx=>UX op x k
 |.convert s d x=>gW es ae L E x λx=>QL P s d x k
 |.makeFunc (.func f) bY bJ=>xt es ae L E bY.toList λbY=>xt es ae L E bJ.toList λbJ=>match bY.all atom&&bJ.all atom with
  |true=>k (.fn f bY bJ)
  |false=>False
 |.slice t x g8 aH none=>gW es ae L E x λx=>Qq P es ae L E t x g8 aH k
 |.fieldAddr t x f=>gW es ae L E x λx=>TU P A t f x k
 |.field t x f=>gW es ae L E x λx=>RZ P t f x k
 |.indexAddr t x i=>gW es ae L E x λx=>gW es ae L E i λi=>Tp P t A x i k
 |.index t x i=>gW es ae L E x λx=>gW es ae L E i λi=>P9 P t x i k
 |.extract x i=>gW es ae L E x λx=>match x with
  |.J (.eJ l)=>match Nat.blt i l.length with
   |true=>AA l i λt=>k (.J t)
   |false=>False
  |_=>False
 |.call c=>match c.callee,c.argTypes.toList,c.args.toList with
  |.builtin .len,[t],[x]=>gW es ae L E x λx=>UA P t A x k
  |.builtin .max,_,l=>xt es ae L E l λl=>KQ true l λn=>k (.J (.int 3 n))
  |.builtin .min,_,l=>xt es ae L E l λl=>KQ false l λn=>k (.J (.int 3 n))
  |_,_,_=>False
 |_=>False
def IB(t:TypeId)(A:be)(N:a1)(k:a1->Prop):Prop:=
 match rp P t,eV P t with
 |some true,some n=>match N with
  |.bH s aT=>match look A s with
   |some (.box _ z (.cc l))=>match Nat.beq aT 0&&Nat.beq n z with
    |true=>k (.J (.agg l))
    |false=>match Nat.ble (aT+n) z with
     |true=>EZ l aT n λl=>k (.J (.agg l))
     |false=>False
   |some (.box _ z (.bE l))=>match Nat.ble (aT+n) l.length with
    |true=>vP aT l λl=>w2 n l λl=>k (.agg l)
    |false=>False
   |_=>False
  |.J (.gc _ r aT)=>match Nat.beq aT 0&&fQ r n with
   |true=>k (.J (.agg r))
   |false=>match Nat.ble (aT+n) r.length with
    |true=>EZ r aT n λl=>k (.J (.agg l))
    |false=>False
  |.fF s r aT=>match look A s with
   |some (.arr _ z ab _)=>aes ab r λaF=>match Nat.beq aT 0&&Nat.beq n z with
    |true=>k (.J (.agg aF))
    |false=>False
   |_=>False
  |_=>False
 |some false,some 1=>match N with
  |.bH s aT=>match look A s with
   |some (.box _ z (.cc l))=>match Nat.blt aT z with
    |true=>AA l aT λt=>k (.J t)
    |false=>False
   |some (.box _ _ (.bE l))=>match Nat.blt aT l.length with
    |true=>yU l aT k
    |false=>False
   |_=>False
  |.J (.gc _ r aT)=>match Nat.blt aT r.length with
   |true=>AA r aT λt=>k (.J t)
   |false=>False
  |.fF s r aT=>match look A s with
   |some (.arr _ z ab _)=>aes ab r λaF=>match Nat.blt aT z with
    |true=>AA aF aT λt=>k (.J t)
    |false=>False
   |_=>False
  |_=>False
 |_,_=>False
def Tt(l:bG)(aT:Nat)(c:bG)(k:bG->Prop):Prop:=w2 aT l λa=>vP (aT+c.length) l λb=>pT c b λq=>pT a q k
def Ty(z:Nat)(r:ul)(k:bG->Prop):Prop:=match r with
 |.cc l=>EZ l 0 z λl=>zC l k
 |.bE l=>k l
def KU(t:TypeId)(A:be)(N v:a1)(k:be->Prop):Prop:=
 match eV P t with
 |some (m+1)=>match N with
  |.bH s aT=>match look A s with
   |some (.box el z aF)=>match Nat.beq aT 0&&Nat.beq (m+1) z with
    |true=>match v with
     |.J a6=>match z with
      |1=>match pJ a6 with
       |true=>ud A s (.box el 1 (.cc [a6])) k
       |false=>False
      |z=>match a6 with
       |.agg l=>match fQ l z with
        |true=>ud A s (.box el z (.cc l)) k
        |false=>False
       |_=>False
     |v=>Gg A v z λc=>ud A s (.box el z (.bE c)) k
    |false=>match Nat.ble (aT+(m+1)) z with
     |true=>Gg A v (m+1) λc=>Ty z aF λr=>Tt r aT c λr=>ud A s (.box el z (.bE r)) k
     |false=>False
   |_=>False
  |.fF s r aT=>match look A s with
   |some (.arr el z ab u)=>match v,Nat.beq aT 0&&Nat.beq (m+1) z with
    |.J a6,true=>gz (r<ab.length) (match z with
     |1=>match pJ a6 with
      |true=>ud A s (.arr el 1 (ab.set r [a6]) u) k
      |false=>False
     |z=>match a6 with
      |.agg l=>match fQ l z with
       |true=>ud A s (.arr el z (ab.set r l) u) k
       |false=>False
      |_=>False)
    |_,_=>False
   |_=>False
  |_=>False
 |_=>False
def K4(A:be)(z:Nat)(v:a1)(k:gF->Prop):Prop:=match v with
 |.bT=>k []
 |.J (.aQ _ ab)=>gz (ab.all (λr=>fQ r z)=true/\ab.length<=2147483647) (k ab)
 |.bQ s=>match look A s with
  |some (.arr _ cI ab _)=>match Nat.beq z cI with
   |true=>gz (ab.length<=2147483647) (k ab)
   |false=>False
  |_=>False
 |_=>False
abbrev vX:=a1->bG->bG->be->Prop
inductive FI (X:aO) (g e z b n:Nat) (rows:gF) (x y:Prop):Prop where
 |aan:g=2*e+1->fQ (ib rows 0) z=true->cr e (ev X)=true->(rows.length+n)*b<=2147483647->x->FI X g e z b n rows x y
 |fresh:cr e (ev X)=false\/fQ (ib rows 0) z=false->g % 2=1->rows=[]->n*b<=2147483647->y->FI X g e z b n rows x y
def M2(X:aO)(L E:bG)(A:be)(d e z b:Nat)(x:a1)(l:gF)(k:vX):Prop:=
 match x with
 |.J (.aQ g ab)=>FI X g e z b l.length ab
  (MO [e] (ab++l) (jt [e] L E A λL E A=>w3 d (.arr e z (ab++l) true) L E A (k (.bQ d))))
  (w3 d (.arr e z l true) L E A (k (.bQ d)))
 |.bT=>gz (l.length*b<=2147483647) (w3 d (.arr e z l true) L E A (k (.bQ d)))
 |.bQ s=>match look A s with
  |some (.arr ci cI ab true)=>match Nat.beq e ci&&Nat.beq z cI with
   |true=>gz ((ab.length+l.length)*b<=2147483647) (La s L E A λL E A=>w3 d (.arr e z (ab++l) true) L E A (k (.bQ d)))
   |false=>False
  |some (.arr ci cI ab false)=>match Nat.beq e ci&&Nat.beq z cI&& !Nat.beq s d with
   |true=>gz ((ab.length+l.length)*b<=2147483647/\0<l.length) (w3 d (.arr e z (ab++l) true) L E A (k (.bQ d)))
   |false=>False
  |_=>False
 |_=>False
def IJ(A:be)(v:a1)(k:b2->Prop):Prop:=match v with
 |.J t=>k t
 |.agg l=>rL (gD (g7 A 3) l) λl=>k (.agg l)
 |v=>rL (pR A v) k
def zG(r:Nat->Bool)(bc:aO)(A:be):Nat->bG->(bG->Prop)->Prop
 |_,[],k=>k []
 |i,v::l,k=>match r i,v with
  |true,.bH s 0=>FB (qT bc 1000 (.bH s 0)) λe=>zG r bc A (i+1) l λl=>k (e::l)
  |true,.bQ s=>FB (qT bc 1000 (.bQ s)) λe=>zG r bc A (i+1) l λl=>k (e::l)
  |_,v=>IJ A v λt=>zG r bc A (i+1) l λl=>k (.J t::l)
def yC(bc:aO)(A:be):Nat->aO->(be->Prop)->Prop
 |_,[],k=>k []
 |i,s::l,k=>match look A s with
  |some (.box el z (.bE r))=>wm (qT bc 1000) r λr=>yC bc A (i+1) l λq=>k ((i,.box el z (.bE r))::q)
  |some (.box el z (.cc r))=>yC bc A (i+1) l λq=>k ((i,.box el z (.cc r))::q)
  |some (.arr el z ab false)=>yC bc A (i+1) l λq=>k ((i,.arr el z ab false)::q)
  |_=>False
def yk(bc:aO):Nat->aO->be->be->(be->Prop)->Prop
 |_,[],[],A,k=>k A
 |i,s::l,(M,D)::r,A,k=>match Nat.beq i M,look A s,D with
  |true,some (.box el z _),.box eC cI aF=>match Nat.beq el eC&&Nat.beq z cI with
   |true=>match aF with
    |.bE c=>wm (yK bc) c λc=>ud A s (.box el z (.bE c)) λA=>yk bc (i+1) l r A k
    |.cc c=>ud A s (.box el z (.cc c)) λA=>yk bc (i+1) l r A k
   |false=>False
  |true,some (.arr el z ab false),.arr eC cI f7 false=>match Nat.beq el eC&&Nat.beq z cI with
   |true=>gz (ab.length=f7.length) (ud A s (.arr el z f7 false) λA=>yk bc (i+1) l r A k)
   |false=>False
  |_,_,_=>False
 |_,_,_,_,_=>False
structure FF(P:dy)(t:TypeId)(N v:b2)(bX:di)(dP:be)(bZ:di->be->Prop):Prop where
 h:F2 P t N v bX dP bZ
inductive GO (du:aO) (g:Nat) (k:Nat->Prop):Prop where
 |mk (el:Nat) (br:g / 4=el/\g % 2=1) (hm:cr el (ev du)=true) (x:k el)
def Rs(t:TypeId)(N v:a1)(L E:bG)(A:be)(k:vX):Prop:=match N,v with
 |.J (.gc g aF aT),.J km=>match kR (outs A)&&fQ ((outs A).flatMap (t9 A)) 0 with
  |true=>sX (outs A) λbc=>GO h.du g λel=>yC bc A 1000 bc λdP=>FF P t (.gc g aF aT) km [] dP λ_ dP=>jt [el] L E A λL E A=>yk bc 1000 bc dP A λA=>k (.J .undef) L E A
  |false=>False
 |N,v=>match zH h.du N with
  |true=>False
  |false=>KU P t A N v λA=>k (.J .undef) L E A
def Fx(E:bG):aO->(di->Prop)->Prop
 |[],k=>k []
 |s::l,k=>yU E s λe=>match e with
  |.J t=>Fx E l λr=>k (t::r)
  |_=>Fx E l λr=>k (.undef::r)
def EY:bG->aO->di->(bG->Prop)->Prop
 |E,s::l,t::r,k=>yf E s (.J t) λE=>EY E l r k
 |E,_,_,k=>k E
def OJ(t:TypeId)(N v:a1)(L E:bG)(A:be)(k:vX):Prop:=match N,v with
 |.J (.gc g aF aT),.J km=>match kR (outs A)&&fQ ((outs A).flatMap (t9 A)) 0 with
  |true=>sX (outs A) λbc=>GO h.du g λel=>yC bc A 1000 bc λdP=>Fx E h.i4 λbX=>FF P t (.gc g aF aT) km bX dP λbX dP=>jt [el] L E A λL E A=>EY E h.i4 bX λE=>yk bc 1000 bc dP A λA=>k (.J .undef) L E A
  |false=>False
 |N,v=>match zH h.du N with
  |true=>False
  |false=>KU P t A N v λA=>k (.J .undef) L E A
def Hm(X:aO)(g:b2)(da:bG)(A:be)(k:b2->be->Prop):Prop:=match g with
 |.fn f bY bJ=>zC bY λbY=>zC bJ λbJ=>pT da bJ λl=>pT bY l λl=>Ib C X f l A k
 |_=>False
structure apK(C:Nat->cG)(f:Nat)(bX:di)(bZ:Nat->Nat->di->Prop):Prop where
 h:zZ C f bX bZ
def TA(d:Nat)(g:b2)(args:bG)(L E:bG)(A:be)(k:vX):Prop:=match g with
 |.fn f bY bJ=>rL (gD HJ args) λbX=>pT bX bJ λl=>pT bY l λl=>apK C f l λel z aF=>w3 d (.box el z (.cc aF)) L E A (k (.bH d 0))
 |_=>False
def MD(r:Nat->Bool)(f6:Bool)(X:aO)(f:b2)(args:bG)(L E:bG)(A:be)(k:vX):Prop:=
 match reach A 9 [] (oM r 0 args) with
  |[]=>sX (lP ((tq r 0 args).flatMap (e6 A 3))) λaX=>match f6 with
   |true=>wq A aX λq=>zG r [] q 0 args λda=>Hm C [] f da [] λv _=>
    match yS v with
     |true=>k (.J v) L E A
     |false=>gz (cA (tu A (wc A aX)) v=false) (vE (zL A aX) L E A (k (.J v)))
   |false=>wq A aX λq=>zG r [] q 0 args λda=>Hm C [] f da [] λv _=>vE aX L E A (k (.J v))
  |bc=>sX bc λbc=>sX (lP (lP ((tq r 0 args).flatMap (e6 A 3))++bc.flatMap (t9 A))) λaX=>match jQ aX bc&&kR bc&&wM (ev X) (ev h.du)&&w8 bc X h.du with
   |true=>wq A aX λq=>zG r bc q 0 args λda=>vE aX L E A λL E A=>yC bc A 1000 bc λdP=>Hm C X f da dP λv dP=>jt (ev X) L E A λL E A=>yk bc 1000 bc dP A λA=>k (.J v) L E A
   |false=>False
def Sj(f:b2)(qA:jo)(args:bG)(L E:bG)(A:be)(k:vX):Prop:=match qA with
 |some g=>MD C h (h.sF g) (h.flat g) (h.mt g) f args L E A k
 |none=>MD C h (λ_=>false) false [] f args L E A k
def Lt(ae:dv)(d:Nat)(op:Op)(L E:bG)(A:be)(k:vX):Prop:=
 match op with
 |.load t x=>gW es ae L E x λN=>IB P t A N λv=>k v L E A
 |.store t x y=>gW es ae L E x λN=>gW es ae L E y λv=>Rs h P t N v L E A k
 |.convert s t x=>match P.ek s,P.ek t with
  |some (.slice e),some .string=>match P.ek e,eV P e with
   |some (.int .u8),some 1=>gW es ae L E x λv=>K4 A 1 v λab=>rL (uz ab) λs=>k (.J (.str s)) L E A
   |_,_=>False
  |_,_=>False
 |.call c=>match h.own d with
  |true=>match c.callee with
   |.value f=>gW es ae L E f λg=>xt es ae L E c.args.toList λda=>match g with
    |.J g=>TA C d g da L E A k
    |_=>False
   |_=>False
  |false=>match c.callee with
   |.value f=>gW es ae L E f λg=>xt es ae L E c.args.toList λda=>match g with
    |.J g=>Sj C h g (Ca f) da L E A k
    |.fn g bY bJ=>pT da bJ λl=>pT bY l λl=>Sj C h (.fn g [] []) (some g) l L E A k
    |_=>False
   |.builtin .append=>match c.argTypes.toList,c.args.toList with
    |[t,a6],[x,y]=>match P.ek t with
     |some (.slice e)=>match eV P e,va P e,(sV P e).map (·.length) with
      |some (s+1),some (b+1),some q=>match Nat.beq q (s+1),P.ek a6 with
       |true,some (.slice _)=>match Nat.beq t a6 with
        |true=>gW es ae L E y λy=>K4 A (s+1) y λl=>gW es ae L E x λx=>M2 h.du L E A d e (s+1) (b+1) x l k
        |false=>False
       |true,some .string=>match P.ek e,s with
        |some (.int .u8),0=>gW es ae L E y λy=>match y with
         |.J (.str y)=>gW es ae L E x λx=>M2 h.du L E A d e 1 (b+1) x (hG y) k
         |_=>False
        |_,_=>False
       |_,_=>False
      |_,_,_=>False
     |_=>False
    |_,_=>False
   |_=>False
 |_=>False
def KD(A:be)(s:Nat):List (Nat×a1)->(gF->Prop)->Prop
 |[],k=>k []
 |(_,v)::l,k=>IJ A v λt=>match t with
  |.agg r=>match fQ r s,Nat.beq s 1 with
   |true,false=>KD A s l λq=>k (r::q)
   |_,_=>False
  |t=>match pJ t,s with
   |true,1=>KD A s l λq=>k ([t]::q)
   |_,_=>False
def LM(ae:dv)(d:Nat)(op:Op)(L E:bG)(A:be)(k:a1->Option eS->Prop):Prop:=
 match op with
 |.alloc el=>match sV P el,eV P el with
  |some z,some (n+1)=>match Nat.beq z.length (n+1) with
   |true=>FT (z.map py) λz=>k (.bH d 0) (some (.box el (n+1) (.bE z)))
   |false=>False
  |_,_=>False
 |.box el x=>match eV P el with
  |some (n+1)=>gW es ae L E x λv=>match v with
   |.J a6=>match n with
    |0=>match pJ a6 with
     |true=>k (.bH d 0) (some (.box el 1 (.cc [a6])))
     |false=>False
    |n+1=>match a6 with
     |.agg l=>match fQ l (n+2) with
      |true=>k (.bH d 0) (some (.box el (n+2) (.cc l)))
      |false=>False
     |_=>False
   |v=>Gg A v (n+1) λc=>k (.bH d 0) (some (.box el (n+1) (.bE c)))
  |_=>False
 |.buildSlice t n cg=>match P.ek t with
  |some (.slice e)=>match eV P e with
   |some (s+1)=>DV es ae L E cg.toList λk8=>match Nat.beq cg.toList.length n&&(k8.map Prod.fst==List.range n)&&Nat.blt 0 n&&Nat.ble (n*(s+1)) 100000&&(p4 P e).isSome with
    |true=>sX (lP (k8.flatMap λN=>e6 A 3 N.2)) λaX=>wq A aX λq=>KD q (s+1) k8 λab=>match h.grow d with
     |true=>match aX with
      |[]=>k (.bQ d) (some (.arr e (s+1) ab false))
      |_=>False
     |false=>k (.J (.aQ (2*e) ab)) none
    |false=>False
   |_=>False
  |_=>False
 |.makeSlice t l c=>match P.ek t with
  |some (.slice e)=>match eV P e,sV P e with
   |some (s+1),some z=>match Nat.beq z.length (s+1)&&Nat.ble ((va P e).getD 1001) 1000 with
    |true=>gW es ae L E l λl=>gW es ae L E c λc=>vB 3 l λn=>vB 3 c λm=>gz (n=m/\n<513) (rL (gD (λv=>g7 A 0 (py v)) z) λaF=>k (.bQ d) (some (.arr e (s+1) (List.replicate n aF) false)))
    |false=>False
   |_,_=>False
  |_=>False
 |_=>False
def acp(ae:dv)(d:Nat)(op:Op)(L E:bG)(A:be)(k:vX):Prop:=
 LM h P es ae d op L E A λv D=>match D with
  |some D=>ME d D λD=>w3 d D L E A (k v)
  |none=>match op with
   |.buildSlice _ _ cg=>DV es ae L E cg.toList λk8=>sX (lP (k8.flatMap λN=>e6 A 3 N.2)) λaX=>vE aX L E A (k v)
   |_=>False
def Sd(ae:dv)(d:Nat)(op:Op)(L E:bG)(A:be)(k:vX):Prop:=
 match lN P op with
 |.pure=>MB P es ae L E A op λv=>k v L E A
 |.sf=>acp h P es ae d op L E A k
 |.wr=>Lt C h P es ae d op L E A k
def H8(ae:dv)(d:Nat)(k2:Bool)(L:bG)(y n:bG->Prop):Prop:=
 match jp d ae with
 |some i=>yU L i λv=>match v with
  |.iy=>n L
  |.J (.bool b)=>lH b
   (match k2 with|true=>Cj L i true y|false=>Cj L i true n)
   (match k2 with|true=>Cj L i false n|false=>Cj L i false y)
  |_=>False
 |none=>False
def xj(ae:dv)(d:Nat)(op:Op)(L E:bG)(A:be)(k:vX):Prop:=
 match lN P op,op with
 |.wr,.store t x y=>gW es ae L E x λN=>gW es ae L E y λv=>OJ h P t N v L E A k
 |_,op=>Sd C h P es ae d op L E A k
def vv(aP:Nat)(pU:jo)(v:a1)(L E:bG)(k:bG->bG->Prop):Prop:=
 match pU with
 |none=>k (.J .undef::L) E
 |some d=>match Nat.blt d aP with
  |true=>match i2 d es with
   |none=>k (v::L) E
   |some i=>yf E i v λE=>k (v::L) E
  |false=>False
def H0:jo->(Nat->Prop)->Prop
 |none,k=>k 0
 |some d,k=>k d
def lL(aP:Nat)(an:Array Oper):dv->gu->bG->bG->be->Ah->Prop
 |_,[],L,E,A,k=>k L E A
 |ae,D::l,L,E,A,k=>match zu D.op|| !Nat.blt (D.dst.getD 0) 1000 with
  |true=>False
  |false=>H0 D.dst λd=>match D.guard with
   |none=>xj C h P es ae d D.op L E A λv L E A=>vv es aP D.dst v L E λL E=>lL aP an (D.dst::ae) l L E A k
   |some (M,w)=>match(an[M]?).bind (·.dst) with
    |some g=>H8 ae g w L
     (λL=>xj C h P es ae d D.op L E A λv L E A=>vv es aP D.dst v L E λL E=>lL aP an (D.dst::ae) l L E A k)
     (λL=>vv es aP D.dst .iy L E λL E=>lL aP an (D.dst::ae) l L E A k)
    |none=>False
structure asj where
 L:bG
 E:bG
 A:be
 cW:List (Nat×Nat)
 dj:List (Nat×Nat)
 dk:aO
abbrev o6:=bG->bG->be->List (Nat×Nat)->List (Nat×Nat)->aO->Prop
def HK(ae:dv)(i:Nat)(v:Bool)(d:Nat)(op:Op)(L E:bG)(A:be)(cW dj:List (Nat×Nat))(dk:aO)(k:a1->o6):Prop:=
 match op with
 |.load t x=>gW es ae L E x λN=>match jQ (rc N) (sites dj)&&(!Us N||fQ dk 0) with
  |true=>IB P t A N λw=>match v with
   |false=>k w L E A cW dj dk
   |true=>match J7 h.du N&&GF A w with
    |true=>pT ((rc N).map (λs=>(i,s))) cW λcW=>k w L E A cW dj dk
    |false=>False
  |false=>False
 |op=>match lN P op with
  |.pure=>MB P es ae L E A op λw=>k w L E A cW dj dk
  |.sf=>QI ae op L E A λaX=>match Nat.blt d 1000&&jQ [d] (sites dj++sites cW)&&jQ aX (sites cW) with
   |true=>vE aX L E A λL E A=>LM ⟨h.sF,h.flat,λ_=>true,h.mt,h.du,h.own,h.i4⟩ P es ae d op L E A λv D=>match D with
    |some D=>ME d D λD=>w3 d D L E A λL E A=>ky (dj.filter (λN=> !cr N.2 aX)) λajA=>ky ((dj.filter (λN=>cr N.2 aX)).map Prod.fst++dk) λdk=>k v L E A cW ((i,d)::ajA) dk
    |none=>False
   |false=>False
  |.wr=>False
where QI (ae:dv) (op:Op) (L E:bG) (A:be) (k:aO->Prop):Prop:=match op with
 |.buildSlice _ _ cg=>DV es ae L E cg.toList λk8=>sX (lP (k8.flatMap λN=>e6 A 3 N.2)) k
 |_=>k []
def DG(A:be):aO->(be->Prop)->Prop
 |[],k=>k []
 |s::l,k=>match look A s with
  |some D=>DG A l λr=>k ((s,D)::r)
  |none=>DG A l k
def zK:be->(bG->Prop)->Prop
 |[],k=>k []
 |(_,.box _ _ (.bE l))::r,k=>zK r λq=>k (.agg l::q)
 |_::r,k=>zK r k
def YI(X:aO)(D:eS)(k:eS->Prop):Prop:=match X with
 |[]=>k D
 |X=>P6 X D k
def sh(X:aO):be->bG->(be->Prop)->Prop
 |[],_,k=>k []
 |(s,.box el z (.bE _))::r,.agg l::es,k=>sh X r es λq=>k ((s,.box el z (.bE l))::q)
 |(s,D)::r,es,k=>YI X D λD=>sh X r es λq=>k ((s,D)::q)
def GK(ae:dv)(op:Op)(L E:bG)(k:Bool->Prop):Prop:=match op with
 |.call c=>match c.callee with
  |.value f=>gW es ae L E f λg=>xt es ae L E c.args.toList λda=>match g with
   |.J _=>EF (D5 h (Ca f) da) k
   |.fn g bY bJ=>EF (D5 h (some g) (bY++(da++bJ))) k
   |_=>k false
  |_=>k false
 |_=>k false
where EF (b:Bool) (k:Bool->Prop):Prop:=match b with
 |true=>k true
 |false=>k false
def KV(ae:dv)(d:Nat)(op:Op)(L E:bG)(A:be)(cW:aO)(k:Bool->Prop):Prop:=match h.own d with
 |true=>k false
 |false=>match op with
  |.call c=>match c.callee with
   |.value f=>gW es ae L E f λg=>xt es ae L E c.args.toList λda=>match g with
    |.J _=>GK.EF (No h ⟨[],[],A⟩ (Ca f) da cW) k
    |_=>k false
   |_=>k false
  |_=>k false
def nD(q:Bool)(y:(Bool->Prop)->Prop)(k:Bool->Prop):Prop:=match q with
 |true=>k true
 |false=>y k
def S7(ae:dv)(m:Nat)(d:Nat)(op:Op)(L E:bG)(A:be)(alN am1:List (Nat×Nat))(dk:aO)(k:a1->o6):Prop:=
 ky (gK m am1) λdj=>ky (gK m alN) λcW=>
  DG A (sites dj) λma=>zK ma λzt=>pT L zt λvc=>C0 A (sites dj) λgI=>GK h es ae op vc E λma=>nD ma (KV h es ae d op vc E gI (sites cW)) λq=>
   sX (hidden q (sites dj) (sites cW)) λaJ=>match lN P op,Nat.blt d 1000&&jQ [d] (sites dj++sites cW)&&dk.all (λi=>dd m i)&&Nat.ble ae.length L.length with
    |.wr,true=>DG A aJ λbq=>zK bq λaw=>pT L aw λh9=>C0 A aJ λoC=>Lt C h P es ae d op h9 E oC λv ia mQ nl=>
     match DD aJ v&&vs aJ nl&&(!q||ym nl (sites cW)) with
      |true=>w2 L.length ia λtQ=>vP L.length ia λamI=>sh (ev h.du) bq amI λu=>pT u nl λaoN=>k v tQ mQ aoN cW dj []
      |false=>False
    |_,_=>False
def Nb(aP:Nat)(an:gu)(ae:dv)(D:Oper)(L E:bG)(A:be)(cW dj:List (Nat×Nat))(dk:aO)(y:bG->(a1->o6)->Prop)(k:o6):Prop:=
 match(match D.dst with|some d=>Nat.blt d aP|none=>true) with
 |true=>match D.guard with
  |none=>y L λv L E A cW dj dk=>k (v::L) E A cW dj dk
  |some (M,w)=>match(an[M]?).bind (·.dst) with
   |some d=>H8 ae d w L
    (λL=>y L λv L E A cW dj dk=>k (v::L) E A cW dj dk)
    (λL=>k (.iy::L) E A cW dj dk)
   |none=>False
 |false=>False
def Jm(aP:Nat)(an:gu)(jg:jo):dv->aO->bG->bG->be->List (Nat×Nat)->List (Nat×Nat)->aO->o6->Prop
 |_,[],L,E,A,cW,dj,dk,k=>k L E A cW dj dk
 |ae,i::l,L,E,A,cW,dj,dk,k=>match an[i]? with
  |some D=>H0 D.dst λd=>Nb aP an ae D L E A cW dj dk (λL k=>HK h P es ae i (match jg with|some m=> !dd m i|none=>false) d D.op L E A cW dj dk k) λL E A cW dj dk=>Jm aP an jg (D.dst::ae) l L E A cW dj dk k
  |none=>False
def LZ(aP:Nat)(an:gu)(bg:aO):dv->List (aO×Nat)->bG->bG->be->List (Nat×Nat)->List (Nat×Nat)->aO->o6->Prop
 |_,[],L,E,A,cW,dj,dk,k=>k L E A cW dj dk
 |ae,(aQ,w)::l,L,E,A,cW,dj,dk,k=>match an[w]? with
  |some D=>Jm h P es aP an (some (mk bg w)) ae aQ L E A cW dj dk λL E A cW dj dk=>H0 D.dst λd=>Nb aP an (k3 an ae aQ) D L E A cW dj dk (λL k=>S7 C h P es (k3 an ae aQ) (mk bg w) d D.op L E A cW dj dk k) λL E A cW dj dk=>LZ aP an bg (D.dst::k3 an ae aQ) l L E A cW dj dk k
  |none=>False
def w7:dv->bG->bG->(bG->Prop)->Prop
 |[],_,E,k=>k E
 |d::ae,L,E,k=>match L with
  |[]=>match d with
   |none=>w7 ae [] E k
   |some d=>match i2 d es with
    |none=>w7 ae [] E k
    |some i=>yf E i (.J .undef) λE=>w7 ae [] E k
  |v::L=>match d with
   |none=>w7 ae L E k
   |some d=>match i2 d es with
    |none=>w7 ae L E k
    |some i=>yf E i v λE=>w7 ae L E k
def RM(aP:Nat)(an:gu)(bg:aO)(pl:Ew)(E:bG)(A:be)(k:bG->be->Prop):Prop:=
 match pl.kt with
 |[]=>LZ C h P es aP an bg [] pl.oe [] E A [] [] [] λL E A cW dj dk=>Jm h P es aP an none (nH an [] pl.oe) pl.last L E A cW dj dk λL E A cW dj dk=>w7 es (k3 an (nH an [] pl.oe) pl.last) L E λE=>k E A
 |_=>False
end
def tD:bG->aO->(bG->Prop)->Prop
 |E,[],k=>k E
 |E,i::l,k=>yf E i (.J .undef) λE=>tD E l k
def R0(l:bG×be)(k:bG->be->Prop):Prop:=match l with
 |(E,A)=>jK id E λE=>ky A λA=>k E A
def np(H:Option qY)(E:bG)(A:be)(k:bG->be->Prop):Prop:=match H with
 |none=>k E A
 |some H=>tD E H.c4 λE=>jK id E λE=>vE H.bS [] E A λ_ E A=>match H.acc with
  |[]=>rL (oz A H.aU) λA=>k E A
  |acc=>rL (uU acc E A) λr=>rL (oz r.2 H.aU) λA=>R0 (r.1,A) k
def Ih:Code->Bool
 |.cond _ _ _=>true
 |.seq a b=>Ih a||Ih b
 |.block _ c=>Ih c
 |_=>false
section
variable(C:Nat->cG)(h:Hint)(jI:Nat->Option qY)(P:dy)(es:aO)(aP:Nat)
def nt:Code->Nat->bG->be->(bG->be->Prop)->(zx->bG->be->Prop)->Prop
 |.skip,_,E,A,b0,_=>b0 E A
 |.region _ an false,_,E,A,b0,_=>lL C h P es aP an [] an.toList [] E A λ_ E A=>b0 E A
 |.region _ an true,_,E,A,b0,_=>gz (xV P (iK [] an.toList) an.toList (CF P (iK [] an.toList) an.toList)=true)
  (RM C h P es aP an.toList (iK [] an.toList) (CF P (iK [] an.toList) an.toList) E A b0)
 |.seq a b,_,E,A,b0,bz=>match Ih a with
  |false=>nt a 0 E A (λE A=>nt b 0 E A b0 bz) bz
  |true=>Iw (nt a 0 E A (λE A=>nt b 0 E A b0 bz) bz) (λbv=>nt a 0 E A bv bz) (λE A=>nt b 0 E A b0 bz)
 |.cond c a b,_,E,A,b0,bz=>gW es [] [] E c λv=>match v with
  |.J (.bool q)=>lH q (nt a 0 E A b0 bz) (nt b 0 E A b0 bz)
  |_=>False
 |.block id c,_,E,A,b0,bz=>nt c id E A b0 λx E A=>match x with
  |.exit i=>match Nat.beq i id with
   |true=>b0 E A
   |false=>bz (.exit i) E A
  |.ret=>bz .ret E A
 |.loop c,id,E,A,b0,bz=>qK (λba E A=>np (jI id) E A λE A=>nt c 0 E A ba bz) E A
 |.exit id,_,E,A,_,bz=>bz (.exit id) E A
 |.ret,_,E,A,_,bz=>bz .ret E A
 |_,_,_,_,_,_=>False
end
def M4(P:dy)(es:aO)(E:bG)(A:be):List ResultVar->(bG->Prop)->Prop
 |[],k=>k []
 |.tmp t::l,k=>gW es [] [] E (.tmp t) λv=>M4 P es E A l λr=>k (v::r)
 |.cell a t::l,k=>gW es [] [] E (.tmp a) λN=>IB P t A N λv=>M4 P es E A l λr=>k (v::r)
def RE(A:be):bG->(di->Prop)->Prop
 |[],k=>k []
 |v::l,k=>IJ A v λt=>RE A l λr=>k (t::r)
def aaE:di->(b2->Prop)->Prop
 |[t],k=>k t
 |bX,k=>k (.eJ bX)
def Ud(P:dy)(es:aO)(am:List ResultVar)(gI:aO)(E:bG)(A:be)(k:b2->be->Prop):Prop:=
 M4 P es E A am λfb=>wq A (Eb A) λq=>RE q fb λbX=>vE (Eb A) [] [] A λ_ _ A=>rL (oz A gI) λA=>aaE bX λt=>k t A
def Mm(C:Nat->cG)(ak:Nat->Hint)(jI:Nat->Nat->Option qY)(P:dy)(iZ:Nat->aO)(f:Nat)(args:bG)(A:be)(k:b2->be->Prop):Prop:=
 match P.fn f with
 |some fn=>match fn.body with
  |some c=>match fQ args (fn.params.size+fn.nfree)&&Nat.ble (fn.params.size+fn.nfree) 16&&Nat.ble (fn.params.size+fn.nfree) (iZ f).length&&Nat.ble (iZ f).length 64&&Nat.ble (fn.params.size+fn.nfree) fn.ntmps&&t4 (fn.params.size+fn.nfree) 0 (iZ f)&& !sE c&&A.all (λN=>Nat.ble 1000 N.1) with
   |true=>pT args (List.replicate ((iZ f).length - (fn.params.size+fn.nfree)) (.J .undef)) λE=>jK id E λE=>nt C (ak f) (jI f) P (iZ f) fn.ntmps c 0 E A
    (λE bw=>Ud P (iZ f) fn.results.toList (A.map Prod.fst) E bw k)
    (λx E bw=>match x with
     |.ret=>Ud P (iZ f) fn.results.toList (A.map Prod.fst) E bw k
     |.exit _=>False)
   |false=>False
  |none=>False
 |none=>False
end Go.Tx
