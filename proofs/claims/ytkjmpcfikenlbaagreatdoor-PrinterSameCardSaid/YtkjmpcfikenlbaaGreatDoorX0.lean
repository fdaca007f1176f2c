/- A part. -/
import Derived.Test.YtkjmpcfikenlbaaGreatDoorT8
set_option linter.all false
namespace Go.Tx
open Go Go.Ev
structure bV(p:Prop)(x:Prop):Prop where
 h:p
 x:x
inductive dU (rows:g4) (i:Nat) (k:di->Prop):Prop where
 |mk (r:di) (h:fT rows i=r) (x:k r)
inductive kK (rows:g4) (i:Nat) (k:di->Prop):Prop where
 |mk (r:di) (h:rows[i]?=some r) (x:k r)
inductive ahg (s:lS) (i:Nat) (k:UInt8->Prop):Prop where
 |mk (b:UInt8) (h:s[i]?=some b) (x:k b)
inductive uj (p:Prop) (a b:Nat) (k:Nat->Prop):Prop where
 |nice:p->k a->uj p a b k
 |rJ:k b->uj p a b k
inductive q2 (p:Prop) (a b:Bool) (k:Bool->Prop):Prop where
 |nice:p->k a->q2 p a b k
 |rJ:k b->q2 p a b k
inductive HE (X:aO) (t:b9) (k:b9->Prop):Prop where
 |iB:cf X t=false->k t->HE X t k
 |drop:cf X t=true->k .undef->HE X t k
inductive mK (i j n:Nat) (x y z:Prop):Prop where
 |some:i<j->j<=n->x->mK i j n x y z
 |zero:i=0->j=0->y->mK i j n x y z
 |none:0<i->i=j->j<=n->z->mK i j n x y z
structure IF(C:Nat->cE)(X:aO)(f:Nat)(args:bK)(A:bf)(b8:b9->bf->Prop):Prop where
 h:bU C X f args A b8
structure sk(body:(bK->bf->Prop)->bK->bf->Prop)(E:bK)(A:bf):Prop where
 h:∃n,eE body n E A
inductive GS (p:Prop) (fL:(bK->bf->Prop)->Prop) (a9:bK->bf->Prop):Prop where
 |plain:p->GS p fL a9
 |join (bv:bK->bf->Prop):fL bv->(∀E A,bv E A->a9 E A)->GS p fL a9
def EF:a2->(a2->Prop)->Prop
 |.J t,k=>k (.J t)|.i4,k=>k .i4|.bx,k=>k .bx|.bN s B,k=>k (.bN s B)|.bD s,k=>k (.bD s)|.fU s r B,k=>k (.fU s r B)|.agg l,k=>k (.agg l)|.fn f x y,k=>k (.fn f x y)
def xd(f:a2->a2):bK->(bK->Prop)->Prop
 |[],k=>k []|e::l,k=>EF (f e) λe=>xd f l λl=>k (e::l)
def R9(f:a2->a2):a2->(a2->Prop)->Prop
 |.agg l,k=>xd f l λl=>k (.agg l)|.fn g b5 cV,k=>xd f b5 λb5=>xd f cV λcV=>k (.fn g b5 cV)|e,k=>EF (f e) k
def k2(f:a2->a2):bK->(bK->Prop)->Prop
 |[],k=>k []|e::l,k=>R9 f e λe=>k2 f l λl=>k (e::l)
def BR(f:a2->a2):bf->(bf->Prop)->Prop
 |[],k=>k []|(s,.box ak z (.bS l))::r,k=>xd f l λl=>BR f r λr=>k ((s,.box ak z (.bS l))::r)|(s,B)::r,k=>BR f r λr=>k ((s,B)::r)
def tH:aO->(aO->Prop)->Prop
 |[],k=>k []|a::l,k=>tH l λl=>k (a::l)
def lA{α:Type}:List α->(List α->Prop)->Prop
 |[],k=>k []|a::l,k=>lA l λl=>k (a::l)
def zo:bK->Nat->(a2->Prop)->Prop
 |[],_,k=>k (.J .undef)|a::_,0,k=>k a|_::l,n+1,k=>zo l n k
def AQ:di->Nat->(b9->Prop)->Prop
 |[],_,k=>k .undef|a::_,0,k=>k a|_::l,n+1,k=>AQ l n k
def DA(l:di):Nat->Nat->(di->Prop)->Prop
 |_,0,k=>k []|i,n+1,k=>AQ l i λa=>DA l (i+1) n λr=>k (a::r)
def yN:bK->Nat->a2->(bK->Prop)->Prop
 |[],_,_,k=>k []|_::l,0,v,k=>k (v::l)|a::l,n+1,v,k=>yN l n v λl=>k (a::l)
def BH:bK->Nat->Bool->(bK->Prop)->Prop
 |[],_,_,k=>k []|_::l,0,b,k=>k (.J (.bool b)::l)|a::l,n+1,b,k=>BH l n b λl=>k (a::l)
def vP{α:Type}:Nat->List α->(List α->Prop)->Prop
 |0,_,k=>k []|_+1,[],k=>k []|n+1,a::l,k=>vP n l λl=>k (a::l)
def uM{α:Type}:Nat->List α->(List α->Prop)->Prop
 |0,l,k=>k l|_+1,[],k=>k []|n+1,_::l,k=>uM n l k
def oJ{α:Type}:List α->List α->(List α->Prop)->Prop
 |[],m,k=>k m|a::l,m,k=>oJ l m λl=>k (a::l)
def xZ:di->(bK->Prop)->Prop
 |[],k=>k []|t::l,k=>xZ l λl=>k (.J t::l)
def s6:bf->Nat->fB->(bf->Prop)->Prop
 |[],_,_,k=>k []
 |(s,bH)::l,t,B,k=>match Nat.beq s t with
  |true=>k ((s,B)::l)|false=>s6 l t B λl=>k ((s,bH)::l)
def G9:bf->Nat->(bf->Prop)->Prop
 |[],_,k=>k []
 |(s,B)::l,t,k=>match Nat.beq s t with
  |true=>G9 l t k|false=>G9 l t λl=>k ((s,B)::l)
def v6:bf->aO->(bf->Prop)->Prop
 |[],_,k=>k []
 |(s,B)::l,aU,k=>match cn s aU with
  |true=>v6 l aU λl=>k ((s,B)::l)|false=>v6 l aU k
def CG:bf->aO->(bf->Prop)->Prop
 |[],_,k=>k []
 |(s,B)::l,aU,k=>match cn s aU with
  |true=>CG l aU k|false=>CG l aU λl=>k ((s,B)::l)
abbrev AA:=bK->bK->bf->Prop
def OH(f:a2->a2)(L E:bK)(A:bf)(k:AA):Prop:=k2 f L λL=>k2 f E λE=>BR f A λA=>k L E A
def tU(aU:aO)(L E:bK)(A:bf)(k:AA):Prop:=match aU with
 |[]=>k L E A|aU=>CG A aU λr=>v6 A aU λq=>OH (lZ q aU) L E r k
def Ni(s:Nat)(L E:bK)(A:bf)(k:AA):Prop:=G9 A s λr=>OH (e1 s) L E r k
def LP(d:Nat)(B:fB)(k:fB->Prop):Prop:=match B with
 |.box ak z (.bS l)=>xd (e1 d) l λl=>k (.box ak z (.bS l))|B=>k B
def nr(s:Nat)(B:fB)(L E:bK)(A:bf)(k:AA):Prop:=Ni s L E A λL E A=>k L E ((s,B)::A)
def NO(X:aO):b9->(b9->Prop)->Prop
 |.undef,k=>k .undef|.bool b,k=>k (.bool b)|.int c n,k=>k (.int c n)|.str s,k=>k (.str s)|.nil c,k=>k (.nil c)|t,k=>HE X t k
def Ix(X:aO):di->(di->Prop)->Prop
 |[],k=>k []|t::l,k=>NO X t λt=>Ix X l λl=>k (t::l)
def NI(X:aO):a2->(a2->Prop)->Prop
 |.J t,k=>NO X t λt=>k (.J t)|e,k=>k e
def yV(X:aO):bK->(bK->Prop)->Prop
 |[],k=>k []|e::l,k=>NI X e λe=>yV X l λl=>k (e::l)
def UI(X:aO):a2->(a2->Prop)->Prop
 |.agg l,k=>yV X l λl=>k (.agg l)|.fn g b5 cV,k=>yV X b5 λb5=>yV X cV λcV=>k (.fn g b5 cV)|e,k=>NI X e k
def E3(X:aO):bK->(bK->Prop)->Prop
 |[],k=>k []|e::l,k=>UI X e λe=>E3 X l λl=>k (e::l)
structure qm(X:aO)(rows:g4)(k:Prop):Prop where
 h:h7 X rows=false
 x:k
def S5(X:aO):fB->(fB->Prop)->Prop
 |.box ak z (.cb l),k=>Ix X l λl=>k (.box ak z (.cb l))|.box ak z (.bS l),k=>yV X l λl=>k (.box ak z (.bS l))|.bF ak z Q u,k=>qm X Q (k (.bF ak z Q u))
def Da(X:aO):bf->(bf->Prop)->Prop
 |[],k=>k []|(s,B)::r,k=>S5 X B λB=>Da X r λr=>k ((s,B)::r)
def ia(X:aO)(L E:bK)(A:bf)(k:AA):Prop:=match X with
 |[]=>k L E A|X=>E3 X L λL=>E3 X E λE=>Da X A λA=>k L E A
def lits:aO:=[0,1,2,3,4,5,6,7,8,9,10,11,12,13,14,15,16,17,18,19,20,21,22,23,24,25,26,27,28,29,30,31,32,33,34,35,36,37,38,39,40,41,42,43,44,45,46,47,48,49,50,51,52,53,54,55,56,57,58,59,60,61,62,63,64,65,90,94,95,97,98,100,102,111,120,122,200,255,256,700,1000,1001,2000,4096,4097,6000,10000,16384,65536,100000,1000000,536870912,1073741824,4294967296,9223372036854775807,9223372036854775808,18446744073709551615]
def Oj(n:Nat)(k:Nat->Prop):aO->Prop
 |[]=>k n
 |a::l=>match Nat.beq a n with
  |true=>k a|false=>Oj n k l
def O3(n:Nat)(k:Nat->Prop):Prop:=Oj n k lits
def X3(b:Bool)(k:Bool->Prop):Prop:=match b with
 |true=>k true|false=>k false
def Mh(e:a2)(k:a2->Prop):Prop:=match e with
 |.J (.int c n)=>O3 c λc=>O3 n λn=>k (.J (.int c n))|.J (.str s)=>lA s λs=>k (.J (.str s))|.J (.bool b)=>X3 b λb=>k (.J (.bool b))|e=>EF e k
def Gu:bK->(bK->Prop)->Prop
 |[],k=>k []|e::l,k=>Mh e λe=>Gu l λl=>k (e::l)
def LY(e:a2)(k:a2->Prop):Prop:=match e with
 |.agg l=>Gu l λl=>k (.agg l)|e=>Mh e k
def acR:IntKind->(Nat->Prop)->Prop
 |.i8,k=>k 0|.i16,k=>k 1|.i32,k=>k 2|.i64,k=>k 3|.u8,k=>k 4|.u16,k=>k 5|.u32,k=>k 6|.u64,k=>k 7
def Ld(v:Value)(k:a2->Prop):Prop:=match v with
 |.int bn (.ofNat m)=>match Nat.blt m (eK (cv bn))with
  |true=>acR bn λc=>O3 m λm=>k (.J (.int c m))|false=>False
 |.bool b=>k (.J (.bool b))
 |.string s=>match Nat.ble s.data.toList.length 1152921504606846976 with
  |true=>match Nat.ble s.data.toList.length 40 with
   |true=>lA s.data.toList λl=>k (.J (.str l))|false=>k (.J (.str s.data.toList))
  |false=>False
 |v=>match mP v with
  |some v=>LY (Cx v) k|none=>k (.J .undef)
section
variable(C:Nat->cE)(h:kH)(P:dK)(es:aO)
def hH(ah:dM)(L E:bK)(x:Operand)(k:a2->Prop):Prop:=match x with
 |.tmp t=>match j2 t ah with
  |some i=>zo L i k
  |none=>match jB t es with
   |some s=>zo E s k|none=>k (.J .undef)
 |.const v=>Ld v k|.func f=>k (.J (.fn f [] []))|.global _=>k (.J .undef)
def wX(ah:dM)(L E:bK):List Operand->(bK->Prop)->Prop
 |[],k=>k []|x::l,k=>hH es ah L E x λv=>wX ah L E l λl=>k (v::l)
def D2(ah:dM)(L E:bK):List (Nat×Operand)->(List (Nat×a2)->Prop)->Prop
 |[],k=>k []|(i,x)::l,k=>hH es ah L E x λv=>D2 ah L E l λl=>k ((i,v)::l)
def CS(op:BinOp)(c bb a1 a b:Nat)(k:a2->Prop):Prop:=
 match op with
 |.add=>uj (a+b<bb) (a+b) (eN bb a b) λn=>k (.J (.int c n))|.sub=>uj (b<=a/\a<bb) (a - b) (eJ bb a b) λn=>k (.J (.int c n))|.mul=>uj (a*b<bb) (a*b) (I1 bb a b) λn=>k (.J (.int c n))|.quo=>bV (a<a1/\b<a1/\0<b) (k (.J (.int c (a / b))))|.rem=>bV (a<a1/\b<a1/\0<b) (k (.J (.int c (a % b))))|.and=>k (.J (.int c (Nat.land a b)))|.or=>k (.J (.int c (Nat.lor a b)))|.xor=>k (.J (.int c (Nat.xor a b)))|.eql=>k (.J (.bool (Nat.beq a b)))|.neq=>k (.J (.bool (!Nat.beq a b)))
 |.lss=>match Nat.beq a1 bb with
  |true=>k (.J (.bool (Nat.blt a b)))|false=>q2 (a<a1/\b<a1) (Nat.blt a b) (eA a1 bb a b) λq=>k (.J (.bool q))
 |.leq=>match Nat.beq a1 bb with
  |true=>k (.J (.bool (Nat.ble a b)))|false=>q2 (a<a1/\b<a1) (Nat.ble a b) (eo a1 bb a b) λq=>k (.J (.bool q))
 |.gtr=>match Nat.beq a1 bb with
  |true=>k (.J (.bool (Nat.blt b a)))|false=>q2 (b<a1/\a<a1) (Nat.blt b a) (eA a1 bb b a) λq=>k (.J (.bool q))
 |.geq=>match Nat.beq a1 bb with
  |true=>k (.J (.bool (Nat.ble b a)))|false=>q2 (b<a1/\a<a1) (Nat.ble b a) (eo a1 bb b a) λq=>k (.J (.bool q))
 |_=>False
def aaL(op:BinOp)(a b:lS)(k:a2->Prop):Prop:=
 match op with
 |.add=>bV (a.length+b.length<=1152921504606846976) (k (.J (.str (a++b))))|.eql=>k (.J (.bool (iA a b)))|.neq=>k (.J (.bool (!iA a b)))|.lss=>k (.J (.bool (ra a b)))|.gtr=>k (.J (.bool (!ra a b&& !iA a b)))|.leq=>k (.J (.bool (ra a b||iA a b)))|.geq=>k (.J (.bool (!ra a b)))|_=>False
def aeW(op:BinOp)(a b:Bool)(k:a2->Prop):Prop:=
 match op with
 |.eql=>k (.J (.bool (a==b)))|.neq=>k (.J (.bool (a !=b)))|_=>False
def vm(c:Nat)(v:a2)(k:Nat->Prop):Prop:=match v with
 |.J (.int fF n)=>match Nat.beq fF c with
  |true=>k n|false=>False
 |_=>False
def qQ{α:Type}(B:Option α)(k:α->Prop):Prop:=match B with
 |some v=>k v|none=>False
def Kd:IntKind->(Nat->Nat->Nat->Prop)->Prop
 |.i8,k=>k 0 256 128|.i16,k=>k 1 65536 32768|.i32,k=>k 2 4294967296 2147483648|.i64,k=>k 3 18446744073709551616 9223372036854775808|.u8,k=>k 4 256 256|.u16,k=>k 5 65536 65536|.u32,k=>k 6 4294967296 4294967296|.u64,k=>k 7 18446744073709551616 18446744073709551616
def T9(A:bf)(op:BinOp)(t:TypeId)(x y:Operand)(kB kq:a2)(k:a2->Prop):Prop:=
 match P.eV t with
 |some (.int bn)=>match op with
  |.shl=>qQ (rp P A .shl t x y kB kq) k|.shr=>qQ (rp P A .shr t x y kB kq) k|op=>Kd bn λc bb a1=>vm c kB λa=>vm c kq λb=>CS op c bb a1 a b k
 |some .string=>match kB,kq with
  |.J (.str a),.J (.str b)=>aaL op a b k|_,_=>False
 |some .bool=>match kB,kq with
  |.J (.bool a),.J (.bool b)=>aeW op a b k|_,_=>False
 |_=>qQ (rp P A op t x y kB kq) k
def PB(op:UnOp)(x:a2)(k:a2->Prop):Prop:=
 match op with
 |.not=>match x with
  |.J (.bool b)=>k (.J (.bool (!b)))|_=>False
 |op=>qQ (JR op x) k
def UE(s d:TypeId)(x:a2)(k:a2->Prop):Prop:=
 match P.eV s,P.eV d with
 |some (.int bn),some (.int Tk)=>Kd bn λc bb a1=>Kd Tk λfF PH _=>vm c x λn=>match Nat.ble PH bb with
  |true=>uj (n<PH) n (n % PH) λn=>k (.J (.int fF n))|false=>bV (n<a1) (k (.J (.int fF n)))
 |some .string,some .string=>match x with
  |.J (.str s)=>k (.J (.str s))|_=>False
 |_,_=>False
def EI(v:a2)(b:Nat)(k:Nat->Prop):Prop:=match v with
 |.J (.int c n)=>match Nat.ble 3 c with
  |true=>bV (n<b) (k n)|false=>False
 |_=>False
def E6(A:bf)(v:a2)(n:Nat)(k:bK->Prop):Prop:=match n with
 |1=>match v with
  |.agg l=>match gC l 1 with
   |true=>k l|false=>False
  |.J t=>match oN t with
   |true=>k [.J t]|false=>False
  |.bx=>k [.bx]
  |.bN s aR=>match t5 A s with
   |true=>k [.bN s aR]|false=>False
  |.bD s=>match nW A s with
   |true=>k [.bD s]|false=>False
  |_=>False
 |n=>match v with
  |.agg l=>match gC l n with
   |true=>k l|false=>False
  |.J (.agg l)=>match gC l n with
   |true=>xZ l k|false=>False
  |_=>False
def Im(a b:Nat)(k:Nat->Prop):Prop:=match a with
 |0=>k b|a+1=>k (a+1+b)
def L7(t:TypeId)(aR:Nat)(l:bK)(k:a2->Prop):Prop:=
 match p8 P t,fy P t with
 |some true,some n=>match Nat.ble (aR+n) l.length with
  |true=>uM aR l λl=>vP n l λl=>k (.agg l)|false=>False
 |some false,some _=>match Nat.blt aR l.length with
  |true=>zo l aR k|false=>False
 |_,_=>False
def VS(t:TypeId)(f:Nat)(x:a2)(k:a2->Prop):Prop:=
 match P.eV t with
 |some (.struct cK)=>match cK[f]? with
  |some fd=>match x with
   |.agg l=>L7 P fd.type fd.offset l k
   |.J (.agg l)=>match fy P t with
    |some n=>match gC l n with
     |true=>xZ l λl=>L7 P fd.type fd.offset l k|false=>False
    |none=>False
   |_=>False
  |none=>False
 |_=>False
def SQ(A:bf)(t:TypeId)(f:Nat)(x:a2)(k:a2->Prop):Prop:=
 match P.eV t with
 |some (.struct cK)=>match cK[f]? with
  |some ⟨_,ka,B,_,_,_,_⟩=>match fy P ka with
   |some (_+1)=>match x with
    |.bN s aR=>match t5 A s with
     |true=>Im aR B λn=>k (.bN s n)|false=>False
    |.fU s r aR=>match nW A s with
     |true=>Im aR B λn=>k (.fU s r n)|false=>False
    |.J (.hy g r aR)=>Im aR B λn=>k (.J (.hy g r n))|_=>False
   |_=>False
  |none=>False
 |_=>False
def PC(t:TypeId)(x i:a2)(k:a2->Prop):Prop:=
 match P.eV t with
 |some .string=>match x with
  |.J (.str s)=>EI i s.length λj=>ahg s j λb=>k (.J (.int 4 b.toNat))|_=>False
 |_=>False
def US(t:TypeId)(A:bf)(x i:a2)(k:a2->Prop):Prop:=
 match P.eV t with
 |some (.slice e)=>match fy P e with
  |some (m+1)=>match x with
   |.J (.aH g Q)=>EI i Q.length λj=>dU Q j λr=>match gC r (m+1)with
    |true=>k (.J (.hy (4*(g / 2)+1) r 0))|false=>False
   |.bD s=>match look A s with
    |some (.bF _ z Q _)=>match Nat.beq z (m+1)with
     |true=>EI i Q.length λj=>k (.fU s j 0)|false=>False
    |_=>False
   |_=>False
  |_=>False
 |_=>False
def Ih(ah:dM)(L E:bK)(d:Nat)(x:Option Operand)(k:Nat->Prop):Prop:=match x with
 |none=>k d|some x=>hH es ah L E x λv=>EI v 2147483648 k
def Wb(ah:dM)(L E:bK)(t:TypeId)(x:a2)(hU aN:Option Operand)(k:a2->Prop):Prop:=
 match P.eV t with
 |some .string=>match x with
  |.J (.str s)=>Ih es ah L E 0 hU λi=>Ih es ah L E s.length aN λj=>bV (i<=j/\j<=s.length) (k (.J (.str ((s.drop i).take (j - i)))))|_=>False
 |some (.slice e)=>match x with
  |.J (.aH g Q)=>match fy P e with
   |some (m+1)=>dU Q 0 λr=>match gC r (m+1)with
    |true=>Ih es ah L E 0 hU λi=>Ih es ah L E Q.length aN λj=>mK i j Q.length (k (.J (.aH (2*(g / 2)) ((Q.drop i).take (j - i))))) (k (.J (.aH 0 []))) (k (.J (.aH 0 [])))|false=>False
   |_=>False
  |_=>False
 |_=>False
def KF(A:bf)(parts:List (Nat×a2)):Nat->List Field->bK->(bK->Prop)->Prop
 |_,[],[],k=>k []|_,[],_::_,_=>False
 |i,fd::l,z,k=>match fy P fd.type with
  |some s=>match Nat.ble s z.length,zD i parts with
   |true,some g=>E6 A g s λc=>uM s z λz=>KF A parts (i+1) l z λq=>oJ c q k|true,none=>vP s z λc=>uM s z λz=>KF A parts (i+1) l z λq=>oJ c q k|false,_=>False
  |none=>False
def P0(A:bf)(t:TypeId)(parts:List (Nat×a2))(k:a2->Prop):Prop:=
 match P.eV t with
 |some (.struct cK)=>match CE P 0 cK.toList&&lw (parts.map Prod.fst)&&parts.all (λp=>Nat.blt p.1 cK.toList.length),p6 P t with
  |true,some (.agg n l)=>Gu (l.map pA) λz=>KF P A parts 0 cK.toList z λl=>k (.agg l)|_,_=>False
 |_=>False
def Qi(t:TypeId)(A:bf)(x:a2)(k:a2->Prop):Prop:=
 match P.eV t with
 |some .string=>match x with
  |.J (.str s)=>k (.J (.int 3 s.length))|_=>False
 |some (.slice _)=>match x with
  |.bx=>k (.J (.int 3 0))|.J (.aH _ Q)=>k (.J (.int 3 Q.length))
  |.bD s=>match look A s with
   |some (.bF _ _ Q _)=>k (.J (.int 3 Q.length))|_=>False
  |_=>False
 |_=>False
def LS(bS:Bool):bK->(Nat->Prop)->Prop
 |[],_=>False|[x],k=>vm 3 x k
 |x::l,k=>vm 3 x λa=>LS bS l λb=>uj (a<9223372036854775808/\b<9223372036854775808) (match bS with|true=>max a b|false=>min a b) (LR bS a b) k
def Tu(c a b:a2)(k:a2->Prop):Prop:=match c with
 |.J (.bool q)=>match a,b with
  |.J (.bool x),.J (.bool y)=>lY q (k (.J (.bool x))) (k (.J (.bool y)))
  |a,b=>match q with
   |true=>match pj a,pj b with
    |some _,some _=>False|_,_=>k a
   |false=>match pj a,pj b with
    |some _,some _=>False|_,_=>k b
 |_=>False
def Oi(ah:dM)(L E:bK)(A:bf)(op:Op)(k:a2->Prop):Prop:=
 match op with
 |.move x=>hH es ah L E x k|.assign x=>hH es ah L E x k|.pick c a b=>hH es ah L E c λc=>hH es ah L E a λa=>hH es ah L E b λb=>Tu c a b k|.build t c7=>D2 es ah L E c7.toList λc7=>P0 P A t c7 k
 |.nilCheck x=>hH es ah L E x λv=>match NB A v with
  |true=>k v|false=>False
 |.binOp op t x y _=>hH es ah L E x λkB=>hH es ah L E y λkq=>T9 P A op t x y kB kq k|.unOp op _ x=>hH es ah L E x λx=>PB op x k|.convert s d x=>hH es ah L E x λx=>UE P s d x k
 |.makeFunc (.func f) b5 cV=>wX es ah L E b5.toList λb5=>wX es ah L E cV.toList λcV=>match b5.all atom&&cV.all atom with
  |true=>k (.fn f b5 cV)|false=>False
 |.slice t x hU aN none=>hH es ah L E x λx=>Wb P es ah L E t x hU aN k|.fieldAddr t x f=>hH es ah L E x λx=>SQ P A t f x k|.field t x f=>hH es ah L E x λx=>VS P t f x k|.indexAddr t x i=>hH es ah L E x λx=>hH es ah L E i λi=>US P t A x i k|.index t x i=>hH es ah L E x λx=>hH es ah L E i λi=>PC P t x i k
 |.extract x i=>hH es ah L E x λx=>match x with
  |.J (.gy l)=>match Nat.blt i l.length with
   |true=>AQ l i λt=>k (.J t)|false=>False
  |_=>False
 |.call c=>match c.callee,c.argTypes.toList,c.args.toList with
  |.builtin .len,[t],[x]=>hH es ah L E x λx=>Qi P t A x k|.builtin .max,_,l=>wX es ah L E l λl=>LS true l λn=>k (.J (.int 3 n))|.builtin .min,_,l=>wX es ah L E l λl=>LS false l λn=>k (.J (.int 3 n))|_,_,_=>False
 |_=>False
def Ib(t:TypeId)(A:bf)(p:a2)(k:a2->Prop):Prop:=
 match p8 P t,fy P t with
 |some true,some n=>match p with
  |.bN s aR=>match look A s with
   |some (.box _ z (.cb l))=>match Nat.beq aR 0&&Nat.beq n z with
    |true=>k (.J (.agg l))
    |false=>match Nat.ble (aR+n) z with
     |true=>DA l aR n λl=>k (.J (.agg l))|false=>False
   |some (.box _ z (.bS l))=>match Nat.ble (aR+n) l.length with
    |true=>uM aR l λl=>vP n l λl=>k (.agg l)|false=>False
   |_=>False
  |.J (.hy _ r aR)=>match Nat.beq aR 0&&gC r n with
   |true=>k (.J (.agg r))
   |false=>match Nat.ble (aR+n) r.length with
    |true=>DA r aR n λl=>k (.J (.agg l))|false=>False
  |.fU s r aR=>match look A s with
   |some (.bF _ z Q _)=>kK Q r λaJ=>match Nat.beq aR 0&&Nat.beq n z with
    |true=>k (.J (.agg aJ))
    |false=>match Nat.ble (aR+n) z with
     |true=>DA aJ aR n λl=>k (.J (.agg l))|false=>False
   |_=>False
  |_=>False
 |some false,some 1=>match p with
  |.bN s aR=>match look A s with
   |some (.box _ z (.cb l))=>match Nat.blt aR z with
    |true=>AQ l aR λt=>k (.J t)|false=>False
   |some (.box _ _ (.bS l))=>match Nat.blt aR l.length with
    |true=>zo l aR k|false=>False
   |_=>False
  |.J (.hy _ r aR)=>match Nat.blt aR r.length with
   |true=>AQ r aR λt=>k (.J t)|false=>False
  |.fU s r aR=>match look A s with
   |some (.bF _ z Q _)=>kK Q r λaJ=>match Nat.blt aR z with
    |true=>AQ aJ aR λt=>k (.J t)|false=>False
   |_=>False
  |_=>False
 |_,_=>False
def Qm(l:bK)(aR:Nat)(c:bK)(k:bK->Prop):Prop:=vP aR l λa=>uM (aR+c.length) l λb=>oJ c b λq=>oJ a q k
def U2(z:Nat)(r:uq)(k:bK->Prop):Prop:=match r with
 |.cb l=>DA l 0 z λl=>xZ l k|.bS l=>k l
def SH(t:b9)(n:Nat)(k:di->Prop):Prop:=match n with
 |1=>match oN t with
  |true=>k [t]|false=>False
 |n=>match t with
  |.agg l=>match gC l n with
   |true=>k l|false=>False
  |_=>False
def Xy(aJ:di)(aR:Nat)(c:di)(k:di->Prop):Prop:=vP aR aJ λa=>uM (aR+c.length) aJ λb=>oJ c b λq=>oJ a q k
def U3(t:TypeId)(A:bf)(p v:a2)(k:bf->Prop):Prop:=
 match fy P t with
 |some (m+1)=>match p with
  |.bN s aR=>match look A s with
   |some (.box ak z aJ)=>match Nat.beq aR 0&&Nat.beq (m+1) z with
    |true=>match v with
     |.J a6=>match z with
      |1=>match oN a6 with
       |true=>s6 A s (.box ak 1 (.cb [a6])) k|false=>False
      |z=>match a6 with
       |.agg l=>match gC l z with
        |true=>s6 A s (.box ak z (.cb l)) k|false=>False
       |_=>False
     |v=>E6 A v z λc=>s6 A s (.box ak z (.bS c)) k
    |false=>match Nat.ble (aR+(m+1)) z with
     |true=>E6 A v (m+1) λc=>U2 z aJ λr=>Qm r aR c λr=>s6 A s (.box ak z (.bS r)) k|false=>False
   |_=>False
  |.fU s r aR=>match look A s with
   |some (.bF ak z Q u)=>match v,Nat.beq aR 0&&Nat.beq (m+1) z with
    |.J a6,true=>bV (r<Q.length) (match z with
     |1=>match oN a6 with
      |true=>s6 A s (.bF ak 1 (Q.set r [a6]) u) k|false=>False
     |z=>match a6 with
      |.agg l=>match gC l z with
       |true=>s6 A s (.bF ak z (Q.set r l) u) k|false=>False
      |_=>False)
    |.J a6,false=>match Nat.ble (aR+(m+1)) z&& !Nat.beq (m+1) z with
     |true=>bV (r<Q.length) (dU Q r λaJ=>SH a6 (m+1) λc=>Xy aJ aR c λaJ=>s6 A s (.bF ak z (Q.set r aJ) u) k)|false=>False
    |_,_=>False
   |_=>False
  |_=>False
 |_=>False
def RR(t:TypeId)(A:bf)(p v:a2)(k:bf->Prop):Prop:=U3 P t A p (M4 p v) k
def OB(A:bf)(z:Nat)(v:a2)(k:g4->Prop):Prop:=match v with
 |.bx=>k []|.J (.aH _ Q)=>bV (Q.all (λr=>gC r z)=true/\Q.length<=2147483647) (k Q)
 |.bD s=>match look A s with
  |some (.bF _ cJ Q _)=>match Nat.beq z cJ with
   |true=>bV (Q.length<=2147483647) (k Q)|false=>False
  |_=>False
 |_=>False
abbrev rz:=a2->bK->bK->bf->Prop
inductive wo (X:aO) (g e z b n:Nat) (rows:g4) (x y:Prop):Prop where
 |ab7:g=2*e+1->gC (fT rows 0) z=true->cn e (fq X)=true->(rows.length+n)*b<=2147483647->x->wo X g e z b n rows x y
 |fresh:cn e (fq X)=false\/gC (fT rows 0) z=false->g % 2=1->rows=[]->n*b<=2147483647->y->wo X g e z b n rows x y
def MH(X:aO)(L E:bK)(A:bf)(d e z b:Nat)(x:a2)(l:g4)(k:rz):Prop:=
 match x with
 |.J (.aH g Q)=>wo X g e z b l.length Q
  (qm [e] (Q++l) (ia [e] L E A λL E A=>nr d (.bF e z (Q++l) true) L E A (k (.bD d))))
  (nr d (.bF e z l true) L E A (k (.bD d)))
 |.bx=>bV (l.length*b<=2147483647) (nr d (.bF e z l true) L E A (k (.bD d)))
 |.bD s=>match look A s with
  |some (.bF b7 cJ Q true)=>match Nat.beq e b7&&Nat.beq z cJ with
   |true=>bV ((Q.length+l.length)*b<=2147483647) (Ni s L E A λL E A=>nr d (.bF e z (Q++l) true) L E A (k (.bD d)))|false=>False
  |some (.bF b7 cJ Q false)=>match Nat.beq (ln e) b7&&Nat.beq z cJ&& !Nat.beq s d with
   |true=>bV ((Q.length+l.length)*b<=2147483647/\0<l.length) (nr d (.bF e z (Q++l) true) L E A (k (.bD d)))|false=>False
  |_=>False
 |_=>False
def IK(A:bf)(v:a2)(k:b9->Prop):Prop:=match v with
 |.J t=>k t|.agg l=>qQ (g7 (h9 A 3) l) λl=>k (.agg l)|v=>qQ (oA A v) k
def H9(b:Bool)(d:Nat)(k:rz)(v:a2)(L E:bK)(A:bf):Prop:=match b with
 |false=>k v L E A|true=>v6 A [d] λq=>qQ (oA q v) λt=>tU [d] L E A (k (.J t))
def TX(b:Bool)(v:a2)(L E:bK)(A:bf)(k:rz):Prop:=match b with
 |false=>k v L E A
 |true=>match v with
  |.bD s=>H9 true s k v L E A|_=>k v L E A
def Aq(r:Nat->Bool)(a9:aO)(A:bf):Nat->bK->(bK->Prop)->Prop
 |_,[],k=>k []
 |i,v::l,k=>match r i,v with
  |true,.bN s 0=>EF (qT a9 1000 (.bN s 0)) λe=>Aq r a9 A (i+1) l λl=>k (e::l)|true,.bD s=>EF (qT a9 1000 (.bD s)) λe=>Aq r a9 A (i+1) l λl=>k (e::l)|_,v=>IK A v λt=>Aq r a9 A (i+1) l λl=>k (.J t::l)
def x7(a9:aO)(A:bf):Nat->aO->(bf->Prop)->Prop
 |_,[],k=>k []
 |i,s::l,k=>match look A s with
  |some (.box ak z (.bS r))=>xd (qT a9 1000) r λr=>x7 a9 A (i+1) l λq=>k ((i,.box ak z (.bS r))::q)|some (.box ak z (.cb r))=>x7 a9 A (i+1) l λq=>k ((i,.box ak z (.cb r))::q)|some (.bF ak z Q false)=>x7 a9 A (i+1) l λq=>k ((i,.bF ak z Q false)::q)|_=>False
def xW(a9:aO):Nat->aO->bf->bf->(bf->Prop)->Prop
 |_,[],[],A,k=>k A
 |i,s::l,(j,B)::r,A,k=>match Nat.beq i j,look A s,B with
  |true,some (.box ak z _),.box e8 cJ aJ=>match Nat.beq ak e8&&Nat.beq z cJ with
   |true=>match aJ with
    |.bS c=>xd (yU a9) c λc=>s6 A s (.box ak z (.bS c)) λA=>xW a9 (i+1) l r A k|.cb c=>s6 A s (.box ak z (.cb c)) λA=>xW a9 (i+1) l r A k
   |false=>False
  |true,some (.bF ak z Q false),.bF e8 cJ gw false=>match Nat.beq ak e8&&Nat.beq z cJ with
   |true=>bV (Q.length=gw.length) (s6 A s (.bF ak z gw false) λA=>xW a9 (i+1) l r A k)|false=>False
  |_,_,_=>False
 |_,_,_,_,_=>False
structure E1(P:dK)(t:TypeId)(p v:b9)(bX:di)(ej:bf)(b8:di->bf->Prop):Prop where
 h:Gg P t p v bX ej b8
inductive Jy (dL:aO) (g:Nat) (k:Nat->Prop):Prop where
 |mk (ak:Nat) (bI:g / 4=ak/\g % 2=1) (hm:cn ak (fq dL)=true) (x:k ak)
def Tj(t:TypeId)(p v:a2)(L E:bK)(A:bf)(k:rz):Prop:=match p,v with
 |.J (.hy g aJ aR),.J iq=>match lw (outs A)&&gC ((outs A).flatMap (t4 A)) 0 with
  |true=>tH (outs A) λa9=>Jy h.dL g λak=>x7 a9 A 1000 a9 λej=>E1 P t (.hy g aJ aR) iq [] ej λ_ ej=>ia [ak] L E A λL E A=>xW a9 1000 a9 ej A λA=>k (.J .undef) L E A|false=>False
 |p,v=>match yd h.dL p with
  |true=>False|false=>RR P t A p v λA=>k (.J .undef) L E A
def Fo(E:bK):aO->(di->Prop)->Prop
 |[],k=>k []
 |s::l,k=>zo E s λe=>match e with
  |.J t=>Fo E l λr=>k (t::r)|_=>Fo E l λr=>k (.undef::r)
def Kz:bK->aO->di->(bK->Prop)->Prop
 |E,s::l,t::r,k=>yN E s (.J t) λE=>Kz E l r k|E,_,_,k=>k E
def Ls(t:TypeId)(p v:a2)(L E:bK)(A:bf)(k:rz):Prop:=match p,v with
 |.J (.hy g aJ aR),.J iq=>match lw (outs A)&&gC ((outs A).flatMap (t4 A)) 0 with
  |true=>tH (outs A) λa9=>Jy h.dL g λak=>x7 a9 A 1000 a9 λej=>Fo E h.xu λbX=>E1 P t (.hy g aJ aR) iq bX ej λbX ej=>ia [ak] L E A λL E A=>Kz E h.xu bX λE=>xW a9 1000 a9 ej A λA=>k (.J .undef) L E A|false=>False
 |p,v=>match yd h.dL p with
  |true=>False|false=>RR P t A p v λA=>k (.J .undef) L E A
def I5(X:aO)(g:b9)(dw:bK)(A:bf)(k:b9->bf->Prop):Prop:=match g with
 |.fn f b5 cV=>xZ b5 λb5=>xZ cV λcV=>oJ dw cV λl=>oJ b5 l λl=>IF C X f l A k|_=>False
structure ajy(C:Nat->cE)(f:Nat)(bX:di)(b8:Nat->Nat->di->Prop):Prop where
 h:As C f bX b8
def SC(d:Nat)(g:b9)(args:bK)(L E:bK)(A:bf)(k:rz):Prop:=match g with
 |.fn f b5 cV=>qQ (g7 LG args) λbX=>oJ bX cV λl=>oJ b5 l λl=>ajy C f l λak z aJ=>nr d (.box ak z (.cb aJ)) L E A (k (.bN d 0))|_=>False
def NX(r:Nat->Bool)(hr:Bool)(X:aO)(f:b9)(args:bK)(L E:bK)(A:bf)(k:rz):Prop:=
 match reach A 9 [] (o5 r 0 args)with
  |[]=>tH (mn ((tB r 0 args).flatMap (f6 A 3))) λaU=>match hr with
   |true=>v6 A aU λq=>Aq r [] q 0 args λdw=>I5 C [] f dw [] λv _=>
    match yu v with
     |true=>k (.J v) L E A|false=>bV (cf (s7 A (uF A aU)) v=false) (tU (z0 A aU) L E A (k (.J v)))
   |false=>v6 A aU λq=>Aq r [] q 0 args λdw=>I5 C [] f dw [] λv _=>tU aU L E A (k (.J v))
  |a9=>tH a9 λa9=>tH (mn (mn ((tB r 0 args).flatMap (f6 A 3))++a9.flatMap (t4 A))) λaU=>match kS aU a9&&lw a9&&xD (fq X) (fq h.dL)&&xc a9 X h.dL with
   |true=>v6 A aU λq=>Aq r a9 q 0 args λdw=>tU aU L E A λL E A=>x7 a9 A 1000 a9 λej=>I5 C X f dw ej λv ej=>ia (fq X) L E A λL E A=>xW a9 1000 a9 ej A λA=>k (.J v) L E A|false=>False
def Rj(f:b9)(qF:jX)(args:bK)(L E:bK)(A:bf)(k:rz):Prop:=match qF with
 |some g=>NX C h (h.sA g) (h.flat g) (h.mt g) f args L E A k|none=>NX C h (λ_=>false) false [] f args L E A k
def Ms(ah:dM)(d:Nat)(op:Op)(L E:bK)(A:bf)(k:rz):Prop:=
 match op with
 |.load t x=>hH es ah L E x λp=>Ib P t A p λv=>TX (h.grow d) v L E A k|.store t x y=>hH es ah L E x λp=>hH es ah L E y λv=>Tj h P t p v L E A k
 |.convert s t x=>match P.eV s,P.eV t with
  |some (.slice e),some .string=>match P.eV e,fy P e with
   |some (.int .u8),some 1=>hH es ah L E x λv=>OB A 1 v λQ=>qQ (r8 Q) λs=>k (.J (.str s)) L E A|_,_=>False
  |_,_=>False
 |.call c=>match h.own d with
  |true=>match c.callee with
   |.value f=>hH es ah L E f λg=>wX es ah L E c.args.toList λdw=>match g with
    |.J g=>SC C d g dw L E A k|_=>False
   |_=>False
  |false=>match c.callee with
   |.value f=>hH es ah L E f λg=>wX es ah L E c.args.toList λdw=>match g with
    |.J g=>Rj C h g (Db f) dw L E A k|.fn g b5 cV=>oJ dw cV λl=>oJ b5 l λl=>Rj C h (.fn g [] []) (some g) l L E A k|_=>False
   |.builtin .append=>match c.argTypes.toList,c.args.toList with
    |[t,a6],[x,y]=>match P.eV t with
     |some (.slice e)=>match fy P e,vO P e,(tt P e).map (·.length)with
      |some (s+1),some (b+1),some q=>match Nat.beq q (s+1),P.eV a6 with
       |true,some (.slice _)=>match Nat.beq t a6 with
        |true=>hH es ah L E y λy=>OB A (s+1) y λl=>hH es ah L E x λx=>MH h.dL L E A d (zz es e) (s+1) (b+1) x l (H9 (h.grow d) d k)|false=>False
       |true,some .string=>match P.eV e,s with
        |some (.int .u8),0=>hH es ah L E y λy=>match y with
         |.J (.str y)=>hH es ah L E x λx=>MH h.dL L E A d (zz es e) 1 (b+1) x (Al y) (H9 (h.grow d) d k)|_=>False
        |_,_=>False
       |_,_=>False
      |_,_,_=>False
     |_=>False
    |_,_=>False
   |_=>False
 |_=>False
def IN(A:bf)(s:Nat):List (Nat×a2)->(g4->Prop)->Prop
 |[],k=>k []
 |(_,v)::l,k=>IK A v λt=>match t with
  |.agg r=>match gC r s,Nat.beq s 1 with
   |true,false=>IN A s l λq=>k (r::q)|_,_=>False
  |t=>match oN t,s with
   |true,1=>IN A s l λq=>k ([t]::q)|_,_=>False
def NU(ah:dM)(d:Nat)(op:Op)(L E:bK)(A:bf)(k:a2->Option fB->Prop):Prop:=
 match op with
 |.alloc ak=>match tt P ak,fy P ak with
  |some z,some (n+1)=>match Nat.beq z.length (n+1)with
   |true=>Gu (z.map pA) λz=>k (.bN d 0) (some (.box ak (n+1) (.bS z)))|false=>False
  |_,_=>False
 |.box ak x=>match fy P ak with
  |some (n+1)=>hH es ah L E x λv=>match v with
   |.J a6=>match n with
    |0=>match oN a6 with
     |true=>k (.bN d 0) (some (.box ak 1 (.cb [a6])))|false=>False
    |n+1=>match a6 with
     |.agg l=>match gC l (n+2)with
      |true=>match h.own d with
       |true=>xZ l λz=>k (.bN d 0) (some (.box ak (n+2) (.bS z)))|false=>k (.bN d 0) (some (.box ak (n+2) (.cb l)))
      |false=>False
     |_=>False
   |v=>E6 A v (n+1) λc=>k (.bN d 0) (some (.box ak (n+1) (.bS c)))
  |_=>False
 |.buildSlice t n c7=>match P.eV t with
  |some (.slice e)=>match fy P e with
   |some (s+1)=>D2 es ah L E c7.toList λlg=>match Nat.beq c7.toList.length n&&(lg.map Prod.fst==List.range n)&&Nat.blt 0 n&&Nat.ble (n*(s+1)) 100000&&(p6 P e).isSome with
    |true=>tH (mn (lg.flatMap λp=>f6 A 3 p.2)) λaU=>v6 A aU λq=>IN q (s+1) lg λQ=>match h.grow d with
     |true=>match aU with
      |[]=>k (.bD d) (some (.bF e (s+1) Q false))|_=>False
     |false=>k (.J (.aH (2*e) Q)) none
    |false=>False
   |_=>False
  |_=>False
 |.makeSlice t l c=>match P.eV t with
  |some (.slice e)=>match fy P e,tt P e with
   |some (s+1),some z=>match Nat.beq z.length (s+1)&&Nat.ble ((vO P e).getD 1001) 1000 with
    |true=>hH es ah L E l λl=>hH es ah L E c λc=>vm 3 l λn=>vm 3 c λm=>bV (n=m/\n<513) (qQ (g7 (λv=>h9 A 0 (pA v)) z) λaJ=>k (.bD d) (some (.bF e (s+1) (List.replicate n aJ) false)))|false=>False
   |_,_=>False
  |_=>False
 |_=>False
def Yh(ah:dM)(d:Nat)(op:Op)(L E:bK)(A:bf)(k:rz):Prop:=
 NU h P es ah d op L E A λv B=>match B with
  |some B=>LP d B λB=>nr d B L E A (k v)
  |none=>match op with
   |.buildSlice _ _ c7=>D2 es ah L E c7.toList λlg=>tH (mn (lg.flatMap λp=>f6 A 3 p.2)) λaU=>tU aU L E A (k v)|_=>False
def Vz(ah:dM)(d:Nat)(op:Op)(L E:bK)(A:bf)(k:rz):Prop:=
 match me P op with
 |.pure=>Oi P es ah L E A op λv=>k v L E A|.sO=>Yh h P es ah d op L E A k|.wr=>Ms C h P es ah d op L E A k
def Hy(ah:dM)(d:Nat)(lB:Bool)(L:bK)(y n:bK->Prop):Prop:=
 match j2 d ah with
 |some i=>zo L i λv=>match v with
  |.i4=>n L
  |.J (.bool b)=>lY b
   (match lB with|true=>BH L i true y|false=>BH L i true n)
   (match lB with|true=>BH L i false n|false=>BH L i false y)
  |_=>False
 |none=>False
def w3(ah:dM)(d:Nat)(op:Op)(L E:bK)(A:bf)(k:rz):Prop:=
 match me P op,op with
 |.wr,.store t x y=>hH es ah L E x λp=>hH es ah L E y λv=>Ls h P t p v L E A k|_,op=>Vz C h P es ah d op L E A k
def tJ(aT:Nat)(pY:jX)(v:a2)(L E:bK)(k:bK->bK->Prop):Prop:=
 match pY with
 |none=>k (.J .undef::L) E
 |some d=>match Nat.blt d aT with
  |true=>match jB d es with
   |none=>k (v::L) E|some i=>yN E i v λE=>k (v::L) E
  |false=>False
def KU:jX->(Nat->Prop)->Prop
 |none,k=>k 0|some d,k=>k d
def k4(aT:Nat)(av:Array Oper):dM->gT->bK->bK->bf->AA->Prop
 |_,[],L,E,A,k=>k L E A
 |ah,B::l,L,E,A,k=>match z7 B.op|| !Nat.blt (B.dst.getD 0) 1000 with
  |true=>False
  |false=>KU B.dst λd=>match B.guard with
   |none=>w3 C h P es ah d B.op L E A λv L E A=>tJ es aT B.dst v L E λL E=>k4 aT av (B.dst::ah) l L E A k
   |some (j,w)=>match(av[j]?).bind (·.dst)with
    |some g=>Hy ah g w L
     (λL=>w3 C h P es ah d B.op L E A λv L E A=>tJ es aT B.dst v L E λL E=>k4 aT av (B.dst::ah) l L E A k)
     (λL=>tJ es aT B.dst .i4 L E λL E=>k4 aT av (B.dst::ah) l L E A k)
    |none=>False
structure atR where
 L:bK
 E:bK
 A:bf
 dt:List (Nat×Nat)
 dZ:List (Nat×Nat)
 d8:aO
abbrev pg:=bK->bK->bf->List (Nat×Nat)->List (Nat×Nat)->aO->Prop
def I7(ah:dM)(i:Nat)(v:Bool)(d:Nat)(op:Op)(L E:bK)(A:bf)(dt dZ:List (Nat×Nat))(d8:aO)(k:a2->pg):Prop:=
 match op with
 |.load t x=>hH es ah L E x λp=>Ib P t A p λw=>match v with
  |false=>k w L E A dt dZ d8
  |true=>match KH h.dL p&&KT A w with
   |true=>oJ ((ug p).map (λs=>(i,s))) dt λdt=>k w L E A dt dZ d8|false=>False
 |op=>match me P op with
  |.pure=>Oi P es ah L E A op λw=>k w L E A dt dZ d8
  |.sO=>Uf ah op L E A λaU=>match Nat.blt d 1000&&kS [d] (sites dZ++sites dt)&&kS aU (sites dt)with
   |true=>tU aU L E A λL E A=>NU ⟨h.sA,h.flat,λ_=>true,h.mt,h.dL,h.own,h.xu⟩ P es ah d op L E A λv B=>match B with
    |some B=>LP d B λB=>nr d B L E A λL E A=>lA (dZ.filter (λp=> !cn p.2 aU)) λao2=>lA ((dZ.filter (λp=>cn p.2 aU)).map Prod.fst++d8) λd8=>k v L E A dt ((i,d)::ao2) d8|none=>False
   |false=>False
  |.wr=>False
where Uf (ah:dM) (op:Op) (L E:bK) (A:bf) (k:aO->Prop):Prop:=match op with
 |.buildSlice _ _ c7=>D2 es ah L E c7.toList λlg=>tH (mn (lg.flatMap λp=>f6 A 3 p.2)) k|_=>k []
def Ew(A:bf):aO->(bf->Prop)->Prop
 |[],k=>k []
 |s::l,k=>match look A s with
  |some B=>Ew A l λr=>k ((s,B)::r)|none=>Ew A l k
def Ai:bf->(bK->Prop)->Prop
 |[],k=>k []|(_,.box _ _ (.bS l))::r,k=>Ai r λq=>k (.agg l::q)|_::r,k=>Ai r k
def aaj(X:aO)(B:fB)(k:fB->Prop):Prop:=match X with
 |[]=>k B|X=>S5 X B k
def sF(X:aO):bf->bK->(bf->Prop)->Prop
 |[],_,k=>k []|(s,.box ak z (.bS _))::r,.agg l::es,k=>sF X r es λq=>k ((s,.box ak z (.bS l))::q)|(s,B)::r,es,k=>aaj X B λB=>sF X r es λq=>k ((s,B)::q)
def JD(ah:dM)(op:Op)(L E:bK)(k:Bool->Prop):Prop:=match op with
 |.call c=>match c.callee with
  |.value f=>hH es ah L E f λg=>wX es ah L E c.args.toList λdw=>match g with
   |.J _=>Er (Iz h (Db f) dw) k|.fn g b5 cV=>Er (Iz h (some g) (b5++(dw++cV))) k|_=>k false
  |_=>k false
 |_=>k false
where Er (b:Bool) (k:Bool->Prop):Prop:=match b with
 |true=>k true|false=>k false
def Pb(ah:dM)(d:Nat)(op:Op)(L E:bK)(A:bf)(dt:aO)(k:Bool->Prop):Prop:=match h.own d with
 |true=>k false
 |false=>match op with
  |.call c=>match c.callee with
   |.value f=>hH es ah L E f λg=>wX es ah L E c.args.toList λdw=>match g with
    |.J _=>JD.Er (Nw h ⟨[],[],A⟩ (Db f) dw dt) k|_=>k false
   |_=>k false
  |_=>k false
def lM(q:Bool)(y:(Bool->Prop)->Prop)(k:Bool->Prop):Prop:=match q with
 |true=>k true|false=>y k
def UD(ah:dM)(m:Nat)(d:Nat)(op:Op)(L E:bK)(A:bf)(aqf afS:List (Nat×Nat))(d8:aO)(k:a2->pg):Prop:=
 lA (g2 m afS) λdZ=>lA (g2 m aqf) λdt=>
  Ew A (sites dZ) λiw=>Ai iw λAe=>oJ L Ae λy6=>CG A (sites dZ) λiu=>JD h es ah op y6 E λiw=>lM iw (Pb h es ah d op y6 E iu (sites dt)) λq=>
   tH (hidden q (sites dZ) (sites dt)) λaY=>match me P op,Nat.blt d 1000&&kS [d] (sites dZ++sites dt)&&d8.all (λi=>dG m i)&&Nat.ble ah.length L.length with
    |.wr,true=>Ew A aY λbC=>Ai bC λaQ=>oJ L aQ λja=>CG A aY λoM=>Ms C h P es ah d op ja E oM λv gK mM m3=>
     match EH aY v&&vi aY m3&&(!q||yO m3 ((sites dt).filter λs=> !cn s aY))with
      |true=>vP L.length gK λvd=>uM L.length gK λahW=>sF (fq h.dL) bC ahW λu=>oJ u m3 λak8=>k v vd mM ak8 dt dZ []|false=>False
    |_,_=>False
def M5(aT:Nat)(av:gT)(ah:dM)(B:Oper)(L E:bK)(A:bf)(dt dZ:List (Nat×Nat))(d8:aO)(y:bK->(a2->pg)->Prop)(k:pg):Prop:=
 match(match B.dst with|some d=>Nat.blt d aT|none=>true)with
 |true=>match B.guard with
  |none=>y L λv L E A dt dZ d8=>k (v::L) E A dt dZ d8
  |some (j,w)=>match(av[j]?).bind (·.dst)with
   |some d=>Hy ah d w L
    (λL=>y L λv L E A dt dZ d8=>k (v::L) E A dt dZ d8)
    (λL=>k (.i4::L) E A dt dZ d8)
   |none=>False
 |false=>False
def J7(aT:Nat)(av:gT)(jx:jX):dM->aO->bK->bK->bf->List (Nat×Nat)->List (Nat×Nat)->aO->pg->Prop
 |_,[],L,E,A,dt,dZ,d8,k=>k L E A dt dZ d8
 |ah,i::l,L,E,A,dt,dZ,d8,k=>match av[i]? with
  |some B=>KU B.dst λd=>M5 aT av ah B L E A dt dZ d8 (λL k=>I7 h P es ah i (match jx with|some m=> !dG m i|none=>false) d B.op L E A dt dZ d8 k) λL E A dt dZ d8=>J7 aT av jx (B.dst::ah) l L E A dt dZ d8 k
  |none=>False
def OS(aT:Nat)(av:gT)(bb:aO):dM->List (aO×Nat)->bK->bK->bf->List (Nat×Nat)->List (Nat×Nat)->aO->pg->Prop
 |_,[],L,E,A,dt,dZ,d8,k=>k L E A dt dZ d8
 |ah,(aH,w)::l,L,E,A,dt,dZ,d8,k=>match av[w]? with
  |some B=>J7 h P es aT av (some (mk bb w)) ah aH L E A dt dZ d8 λL E A dt dZ d8=>KU B.dst λd=>M5 aT av (ml av ah aH) B L E A dt dZ d8 (λL k=>UD C h P es (ml av ah aH) (mk bb w) d B.op L E A dt dZ d8 k) λL E A dt dZ d8=>OS aT av bb (B.dst::ml av ah aH) l L E A dt dZ d8 k|none=>False
def xk:dM->bK->bK->(bK->Prop)->Prop
 |[],_,E,k=>k E
 |d::ah,L,E,k=>match L with
  |[]=>match d with
   |none=>xk ah [] E k
   |some d=>match jB d es with
    |none=>xk ah [] E k|some i=>yN E i (.J .undef) λE=>xk ah [] E k
  |v::L=>match d with
   |none=>xk ah L E k
   |some d=>match jB d es with
    |none=>xk ah L E k|some i=>yN E i v λE=>xk ah L E k
def Vk(aT:Nat)(av:gT)(bb:aO)(pl:ES)(E:bK)(A:bf)(k:bK->bf->Prop):Prop:=
 match pl.kU with
 |[]=>OS C h P es aT av bb [] pl.pE [] E A [] [] [] λL E A dt dZ d8=>J7 h P es aT av none (ol av [] pl.pE) pl.last L E A dt dZ d8 λL E A dt dZ d8=>xk es (ml av (ol av [] pl.pE) pl.last) L E λE=>k E A|_=>False
end
def v5:bK->aO->(bK->Prop)->Prop
 |E,[],k=>k E|E,i::l,k=>yN E i (.J .undef) λE=>v5 E l k
def V9(l:bK×bf)(k:bK->bf->Prop):Prop:=match l with
 |(E,A)=>k2 id E λE=>lA A λA=>k E A
def oO(H:Option qq)(E:bK)(A:bf)(k:bK->bf->Prop):Prop:=match H with
 |none=>k E A
 |some H=>v5 E H.dQ λE=>k2 id E λE=>tU H.ci [] E A λ_ E A=>match H.acc with
  |[]=>qQ (pS A H.a8) λA=>k E A|acc=>qQ (we acc E A) λr=>qQ (pS r.2 H.a8) λA=>V9 (r.1,A) k
def Ha:Code->Bool
 |.cond _ _ _=>true|.seq a b=>Ha a||Ha b|.block _ c=>Ha c|_=>false
section
variable(C:Nat->cE)(h:kH)(jc:Nat->Option qq)(P:dK)(es:aO)(aT:Nat)
def lG:Code->Nat->bK->bf->(bK->bf->Prop)->(yy->bK->bf->Prop)->Prop
 |.skip,_,E,A,ce,_=>ce E A|.region _ av false,_,E,A,ce,_=>k4 C h P es aT av [] av.toList [] E A λ_ E A=>ce E A
 |.region _ av true,_,E,A,ce,_=>bV (xS P (jG [] av.toList) av.toList (EA P (jG [] av.toList) av.toList)=true)
  (Vk C h P es aT av.toList (jG [] av.toList) (EA P (jG [] av.toList) av.toList) E A ce)
 |.seq a b,_,E,A,ce,bJ=>match Ha a with
  |false=>lG a 0 E A (λE A=>lG b 0 E A ce bJ) bJ|true=>GS (lG a 0 E A (λE A=>lG b 0 E A ce bJ) bJ) (λbv=>lG a 0 E A bv bJ) (λE A=>lG b 0 E A ce bJ)
 |.cond c a b,_,E,A,ce,bJ=>hH es [] [] E c λv=>match v with
  |.J (.bool q)=>lY q (lG a 0 E A ce bJ) (lG b 0 E A ce bJ)|_=>False
 |.block id c,_,E,A,ce,bJ=>lG c id E A ce λx E A=>match x with
  |.exit i=>match Nat.beq i id with
   |true=>ce E A|false=>bJ (.exit i) E A
  |.ret=>bJ .ret E A
 |.loop c,id,E,A,ce,bJ=>sk (λba E A=>oO (jc id) E A λE A=>lG c 0 E A ba bJ) E A|.exit id,_,E,A,_,bJ=>bJ (.exit id) E A|.ret,_,E,A,_,bJ=>bJ .ret E A|_,_,_,_,_,_=>False
end
def Nh(P:dK)(es:aO)(E:bK)(A:bf):List ResultVar->(bK->Prop)->Prop
 |[],k=>k []|.tmp t::l,k=>hH es [] [] E (.tmp t) λv=>Nh P es E A l λr=>k (v::r)|.cell a t::l,k=>hH es [] [] E (.tmp a) λp=>Ib P t A p λv=>Nh P es E A l λr=>k (v::r)
def UL(A:bf):bK->(di->Prop)->Prop
 |[],k=>k []|v::l,k=>IK A v λt=>UL A l λr=>k (t::r)
def acZ:di->(b9->Prop)->Prop
 |[t],k=>k t|bX,k=>k (.gy bX)
def Q3(P:dK)(es:aO)(ax:List ResultVar)(iu:aO)(E:bK)(A:bf)(k:b9->bf->Prop):Prop:=
 Nh P es E A ax λfx=>v6 A (Ey A) λq=>UL q fx λbX=>tU (Ey A) [] [] A λ_ _ A=>qQ (pS A iu) λA=>acZ bX λt=>k t A
def Hb(C:Nat->cE)(ap:Nat->kH)(jc:Nat->Nat->Option qq)(P:dK)(je:Nat->aO)(f:Nat)(args:bK)(A:bf)(k:b9->bf->Prop):Prop:=
 match P.fn f with
 |some fn=>match fn.body with
  |some c=>match gC args (fn.params.size+fn.nfree)&&Nat.ble (fn.params.size+fn.nfree) 16&&Nat.ble (fn.params.size+fn.nfree) (je f).length&&Nat.ble (je f).length 64&&Nat.ble (fn.params.size+fn.nfree) fn.ntmps&&tS (fn.params.size+fn.nfree) 0 (je f)&& !sb c&&A.all (λp=>Nat.ble 1000 p.1)with
   |true=>oJ args (List.replicate ((je f).length - (fn.params.size+fn.nfree)) (.J .undef)) λE=>k2 id E λE=>lG C (ap f) (jc f) P (je f) fn.ntmps c 0 E A
    (λE bE=>Q3 P (je f) fn.results.toList (A.map Prod.fst) E bE k)
    (λx E bE=>match x with
     |.ret=>Q3 P (je f) fn.results.toList (A.map Prod.fst) E bE k
     |.exit _=>False)
   |false=>False
  |none=>False
 |none=>False
end Go.Tx
