/- A part. -/
import Derived.Test.YtkjmpcfikenlbaaGreatDoorE1
set_option linter.all false
namespace Go.Tx
noncomputable section
open Go Go.Ev
inductive b9 where
 |undef
 |bool (b:Bool)
 |int (c n:Nat)
 |str (s:lS)
 |nil (c:oK)
 |aH (g:Nat) (rows:List (List b9))
 |hy (g:Nat) (row:List b9) (aR:Nat)
 |fn (f:Nat) (xs cV:List b9)
 |agg (l:List b9)
 |gy (l:List b9)
 |op (g:Nat) (W:Value)
 deriving Inhabited
inductive a2 where
 |J (t:b9)
 |i4
 |bx
 |bN (s aR:Nat)
 |bD (s:Nat)
 |fU (s r aR:Nat)
 |agg (l:List a2)
 |fn (f:Nat) (xs cV:List a2)
 deriving Inhabited
inductive uq where
 |cb (l:List b9)
 |bS (l:List a2)
 deriving Inhabited
inductive fB where
 |box (ak z:Nat) (row:uq)
 |bF (ak z:Nat) (rows:List (List b9)) (u:Bool)
 deriving Inhabited
abbrev bf:=List (Nat×fB)
def look:bf->Nat->Option fB
 |[],_=>none
 |(s,B)::l,t=>match Nat.beq s t with
  |true=>some B|false=>look l t
def rem:bf->Nat->bf
 |[],_=>[]
 |(s,B)::l,t=>match Nat.beq s t with
  |true=>rem l t|false=>(s,B)::rem l t
def kO:bf->Nat->fB->bf
 |[],t,B=>[]
 |(s,bH)::l,t,B=>match Nat.beq s t with
  |true=>(s,B)::l|false=>(s,bH)::kO l t B
def kS:aO->aO->Bool
 |[],_=>true|a::l,m=> !GW a m&&kS l m
where GW (t:Nat):aO->Bool
 |[]=>false
 |a::l=>match Nat.beq a t with
  |true=>true|false=>GW t l
def cn(t:Nat):aO->Bool
 |[]=>false
 |a::l=>match Nat.beq a t with
  |true=>true|false=>cn t l
def q1:List b9->Nat->b9
 |[],_=>.undef|a::_,0=>a|_::l,n+1=>q1 l n
def fT:List (List b9)->Nat->List b9
 |[],_=>[]|a::_,0=>a|_::l,n+1=>fT l n
def jv:List a2->Nat->a2
 |[],_=>.J .undef|a::_,0=>a|_::l,n+1=>jv l n
def j9:List a2->Nat->a2->List a2
 |[],_,_=>[]|_::l,0,v=>v::l|a::l,n+1,v=>a::j9 l n v
def isInt(c:Nat):b9->Bool
 |.int fF _=>Nat.beq fF c|_=>false
def aa5:b9->Bool
 |.int c _=>Nat.ble 3 c|_=>false
def Ae{R:Type}(x:R):R:=x
def qd{R:Type}(x:R):R:=Ae x
def g1{R:Type}(x:R):R:=qd x
def DU{R:Type}(x:R):R:=g1 x
def L1{R:Type}(x:R):R:=DU x
def MG{R:Type}(x:R):R:=L1 x
def VV{R:Type}(x:R):R:=MG x
def Qj{R:Type}(x:R):R:=VV x
def V0{R:Type}(x:R):R:=Qj x
def R6{R:Type}(x:R):R:=V0 x
def Uh{R:Type}(x:R):R:=R6 x
def V4{R:Type}(x:R):R:=Uh x
def U7{R:Type}(x:R):R:=V4 x
def Kr{R:Type}(x:R):R:=U7 x
def CA(t:b9):Nat:=Kr (match t with
 |.int _ n=>n
 |_=>0)
def Um:b9->Bool
 |.str _=>true|_=>false
def Rt(t:b9):lS:=Kr (match t with
 |.str s=>s
 |_=>[])
def PE:b9->Bool
 |.bool _=>true|_=>false
def SL(t:b9):Bool:=Kr (match t with
 |.bool b=>b
 |_=>false)
def rL:b9->Bool
 |.aH _ _=>true|_=>false
def wv:b9->Nat
 |.aH g _=>g|_=>0
def jJ:b9->List (List b9)
 |.aH _ r=>r|_=>[]
def xi(n:Nat):b9->Bool
 |.agg l=>Nat.beq l.length n|_=>false
def pQ:b9->List b9
 |.agg l=>l|_=>[]
def abh(i:Nat):b9->Bool
 |.gy l=>Nat.blt i l.length|_=>false
def Ug:b9->List b9
 |.gy l=>l|_=>[]
def nz:b9->Nat
 |.hy g _ _=>g|_=>0
def vs:b9->Bool
 |.hy _ _ _=>true|_=>false
def ux:b9->List b9
 |.hy _ r _=>r|_=>[]
def wd:b9->Nat
 |.hy _ _ B=>B|_=>0
def aqG:b9->Bool
 |.fn _ _ _=>true|_=>false
def oN:b9->Bool
 |.undef=>false|.agg _=>false|.gy _=>false|_=>true
def gC{α:Type}(l:List α)(n:Nat):Bool:=Nat.beq l.length n
def l2(l:List b9):Nat->Nat->List b9
 |_,0=>[]|i,n+1=>q1 l i::l2 l (i+1) n
def g7{α fH:Type}(f:α->Option fH):List α->Option (List fH)
 |[]=>some []
 |a::l=>match f a with
  |some b=>match g7 f l with
   |some r=>some (b::r)|none=>none
  |none=>none
def tQ:bp->Option b9
 |.bool b=>some (.bool b)|.int c n=>some (.int c n)|.str l n=>some (.str (BM l n))|.nil .s=>none|.nil c=>some (.nil c)|_=>none
where BM:Nat->Nat->lS
 |0,_=>[]|l+1,n=>UInt8.ofNat (n % 256)::BM l (n / 256)
def pA:bp->a2
 |.nil .s=>.bx
 |v=>match tQ v with
  |some t=>.J t|none=>.J .undef
def Cx:bp->a2
 |.agg _ l=>.agg (l.map pA)|v=>pA v
structure c8 where
 L:List a2
 E:List a2
 A:bf
def ey(es:aO)(ah:dM)(S:c8):Operand->a2
 |.tmp t=>match j2 t ah with
  |some i=>jv S.L i
  |none=>match jB t es with
   |some s=>jv S.E s|none=>.J .undef
 |.const v=>match mP v with
  |some v=>Cx v|none=>.J .undef
 |.func f=>.J (.fn f [] [])|.global _=>.J .undef
def h9(A:bf):Nat->a2->Option b9
 |_,.J t=>some t|_,.bx=>some (.aH 1 [])
 |_,.bD s=>match look A s with
  |some (.bF ak _ Q u)=>some (.aH (2*ak+u.toNat) Q)|_=>none
 |_,.fU s r aR=>match look A s with
  |some (.bF ak _ Q _)=>match Q[r]? with
   |some aJ=>some (.hy (4*ak+1) aJ aR)|none=>none
  |_=>none
 |0,_=>none
 |n+1,.bN s aR=>match look A s with
  |some (.box ak _ (.cb l))=>some (.hy (4*ak+3) l aR)
  |some (.box ak _ (.bS l))=>match g7 (h9 A n) l with
   |some l=>some (.hy (4*ak+3) l aR)|none=>none
  |_=>none
 |_+1,_=>none
def oA(A:bf):a2->Option b9
 |.fn f b5 cV=>match g7 (h9 A 3) b5,g7 (h9 A 3) cV with
  |some b5,some cV=>some (.fn f b5 cV)|_,_=>none
 |.agg l=>match g7 (h9 A 3) l with
  |some l=>some (.agg l)|none=>none
 |v=>h9 A 3 v
def dF(f:a2->a2):a2->a2
 |.agg l=>.agg (l.map f)|.fn g b5 cV=>.fn g (b5.map f) (cV.map f)|v=>f v
def g8(f:a2->a2):fB->fB
 |.box ak z (.bS l)=>.box ak z (.bS (l.map f))|B=>B
def gh(f:a2->a2):bf->bf
 |[]=>[]|(s,B)::l=>(s,g8 f B)::gh f l
def c8.map(f:a2->a2)(S:c8):c8:=⟨S.L.map (dF f),S.E.map (dF f),gh f S.A⟩
def F4(B:Option b9):a2:=match B with
 |some t=>.J t|none=>.J .undef
def lZ(A:bf)(aU:aO):a2->a2
 |.bD t=>match look A t with
  |some _=>F4 (h9 A 3 (.bD t))|none=>.bD t
 |.bN t aR=>match look A t with
  |some _=>F4 (h9 A 3 (.bN t aR))|none=>.bN t aR
 |.fU t r aR=>match look A t with
  |some _=>F4 (h9 A 3 (.fU t r aR))|none=>.fU t r aR
 |v=>v
def keeps:bf->aO->bf
 |[],_=>[]
 |(s,B)::l,aU=>match cn s aU with
  |true=>(s,B)::keeps l aU|false=>keeps l aU
def kh:bf->aO->bf
 |[],_=>[]
 |(s,B)::l,aU=>match cn s aU with
  |true=>kh l aU|false=>(s,B)::kh l aU
def e1(s:Nat):a2->a2
 |.bD t=>match Nat.beq t s with
  |true=>.J .undef|false=>.bD t
 |.bN t aR=>match Nat.beq t s with
  |true=>.J .undef|false=>.bN t aR
 |.fU t r aR=>match Nat.beq t s with
  |true=>.J .undef|false=>.fU t r aR
 |v=>v
def c8.fZ(S:c8)(aU:aO):c8:=match aU with
 |[]=>S|aU=>(c8.mk S.L S.E (kh S.A aU)).map (lZ (keeps S.A aU) aU)
def c8.kill(S:c8)(s:Nat):c8:=(c8.mk S.L S.E (rem S.A s)).map (e1 s)
def eJ(bb a b:Nat):Nat:=Nat.mod (Nat.sub (Nat.add bb a) b) bb
def eA(h bb a b:Nat):Bool:=Nat.blt (Nat.mod (Nat.add h a) bb) (Nat.mod (Nat.add h b) bb)
def eo(h bb a b:Nat):Bool:=Nat.ble (Nat.mod (Nat.add h a) bb) (Nat.mod (Nat.add h b) bb)
theorem ai5:eJ=M8:=by funext bb a b;show Nat.mod (Nat.sub (bb+a) b) bb=Nat.mod (Nat.sub (a+bb) b) bb;grind
theorem ahf:eA=HB:=by funext h bb a b;show Nat.blt (Nat.mod (h+a) bb) (Nat.mod (h+b) bb)=Nat.blt (Nat.mod (a+h) bb) (Nat.mod (b+h) bb);grind
theorem ai8:eo=HI:=by funext h bb a b;show Nat.ble (Nat.mod (h+a) bb) (Nat.mod (h+b) bb)=Nat.ble (Nat.mod (a+h) bb) (Nat.mod (b+h) bb);grind
def yJ:a2->aO
 |.bD s=>[s]|.bN s _=>[s]|.fU s _ _=>[s]|_=>[]
def S4:uq->List a2
 |.cb _=>[]|.bS l=>l
def f6(A:bf):Nat->a2->aO
 |0,v=>yJ v
 |n+1,.bN s _=>(match look A s with
  |some (.box _ _ aJ)=>(S4 aJ).flatMap (f6 A n)
  |_=>[])++[s]
 |n+1,.agg l=>l.flatMap (f6 A n)|n+1,.fn _ b5 cV=>b5.flatMap (f6 A n)++cV.flatMap (f6 A n)|_+1,v=>yJ v
def mn:aO->aO
 |[]=>[]
 |a::l=>match cn a l with
  |true=>a::(mn l).filter (λb=> !Nat.beq b a)|false=>a::mn l
def yn(op:BinOp)(c a b:Nat):Option b9:=
 match op with
 |.add=>some (.int c (eN (cF c) a b))|.sub=>some (.int c (eJ (cF c) a b))|.mul=>some (.int c (I1 (cF c) a b))
 |.quo=>match Nat.blt a (eK c)&&Nat.blt b (eK c)&& !Nat.beq b 0 with
  |true=>some (.int c (a / b))|false=>none
 |.rem=>match Nat.blt a (eK c)&&Nat.blt b (eK c)&& !Nat.beq b 0 with
  |true=>some (.int c (a % b))|false=>none
 |.and=>some (.int c (Nat.land a b))|.or=>some (.int c (Nat.lor a b))|.xor=>some (.int c (Nat.xor a b))|.eql=>some (.bool (Nat.beq a b))|.neq=>some (.bool (!Nat.beq a b))
 |.lss=>match Nat.beq (eK c) (cF c)with
  |true=>some (.bool (Nat.blt a b))|false=>some (.bool (eA (eK c) (cF c) a b))
 |.leq=>match Nat.beq (eK c) (cF c)with
  |true=>some (.bool (Nat.ble a b))|false=>some (.bool (eo (eK c) (cF c) a b))
 |.gtr=>match Nat.beq (eK c) (cF c)with
  |true=>some (.bool (Nat.blt b a))|false=>some (.bool (eA (eK c) (cF c) b a))
 |.geq=>match Nat.beq (eK c) (cF c)with
  |true=>some (.bool (Nat.ble b a))|false=>some (.bool (eo (eK c) (cF c) b a))
 |_=>none
def ra(a b:lS):Bool:=Op.bytesLess a b
def iA(a b:lS):Bool:=a==b
def Oa:Nat:=1152921504606846976
def Mj(op:BinOp)(a b:lS):Option b9:=
 match op with
 |.add=>match Nat.ble (a.length+b.length) Oa with
  |true=>some (.str (a++b))|false=>none
 |.eql=>some (.bool (iA a b))|.neq=>some (.bool (!iA a b))|.lss=>some (.bool (ra a b))|.gtr=>some (.bool (!ra a b&& !iA a b))|.leq=>some (.bool (ra a b||iA a b))|.geq=>some (.bool (!ra a b))|_=>none
def Pw(op:BinOp)(a b:Bool):Option b9:=
 match op with
 |.eql=>some (.bool (a==b))|.neq=>some (.bool (a !=b))|_=>none
def rs(c:Nat):a2->jX
 |.J t=>match isInt c t with
  |true=>some (CA t)|false=>none
 |_=>none
def vX:a2->Option lS
 |.J t=>match Um t with
  |true=>some (Rt t)|false=>none
 |_=>none
def pj:a2->Option Bool
 |.J t=>match PE t with
  |true=>some (SL t)|false=>none
 |_=>none
def ae0:b9->Bool
 |.int _ _=>true|_=>false
def LW:a2->jX
 |.J t=>match ae0 t with
  |true=>some (CA t)|false=>none
 |_=>none
def t5(A:bf)(s:Nat):Bool:=match look A s with
 |some (.box _ _ _)=>true|_=>false
def nW(A:bf)(s:Nat):Bool:=match look A s with
 |some (.bF _ _ _ _)=>true|_=>false
def isNil(A:bf)(c:oK):a2->Option Bool
 |.J (.nil fF)=>match decide (c=fF)with
  |true=>some true|false=>none
 |.J (.hy _ _ _)=>match decide (c=.p)with
  |true=>some false|false=>none
 |.J (.fn _ _ _)=>match decide (c=.f)with
  |true=>some false|false=>none
 |.fn _ _ _=>match decide (c=.f)with
  |true=>some false|false=>none
 |.bN s _=>match decide (c=.p)&&t5 A s with
  |true=>some false|false=>none
 |.fU s _ _=>match decide (c=.p)&&nW A s with
  |true=>some false|false=>none
 |_=>none
def dp{α fH nh:Type}(a:Option α)(b:Option fH)(f:α->fH->Option nh):Option nh:=match a with
 |some a=>match b with
  |some b=>f a b|none=>none
 |none=>none
def cD{α nh:Type}(a:Option α)(f:α->Option nh):Option nh:=match a with
 |some a=>f a|none=>none
def xo(B:Option b9):Option a2:=cD B λt=>some (.J t)
def J9(A:bf)(op:BinOp)(c:oK)(x y:Operand)(kB kq:a2):Option a2:=
 match op,Aw c x,Aw c y with
 |.eql,_,true=>cD (isNil A c kB) λb=>some (.J (.bool b))|.eql,true,false=>cD (isNil A c kq) λb=>some (.J (.bool b))|.neq,_,true=>cD (isNil A c kB) λb=>some (.J (.bool (!b)))|.neq,true,false=>cD (isNil A c kq) λb=>some (.J (.bool (!b)))|_,_,_=>none
def NR(b:Bool)(x y:b9):Option Bool:=match b,x,y with
 |true,.str a,.str bz=>some (iA a bz)|false,.int 3 a,.int 3 bz=>some (Nat.beq a bz)|_,_,_=>none
def Mq(b:Bool)(x y:a2):Option Bool:=match x,y with
 |.J (.agg [dS,bk]),.J (.agg [mL,cD])=>dp (NR true dS mL) (NR b bk cD) λq r=>some (q&&r)|_,_=>none
def Lr(B:Option Bool)(op:BinOp)(x y:a2):Option a2:=cD B λb=>match op with
 |.eql=>xo (cD (Mq b x y) λq=>some (.bool q))|.neq=>xo (cD (Mq b x y) λq=>some (.bool (!q)))|_=>none
def rp(P:dK)(A:bf)(op:BinOp)(t:TypeId)(x y:Operand)(kB kq:a2):Option a2:=
 match P.eV t with
 |some (.int k)=>match op with
  |.shl=>xo (dp (rs (cv k) kB) (LW kq) λa b=>match Nat.ble b 64 with
   |true=>some (.int (cv k) ((a*2 ^ b) % cF (cv k)))
   |false=>none)
  |.shr=>xo (dp (rs (cv k) kB) (LW kq) λa b=>match Nat.ble b 64&&Nat.blt a (eK (cv k))with
   |true=>some (.int (cv k) (a / 2 ^ b))
   |false=>none)
  |_=>xo (dp (rs (cv k) kB) (rs (cv k) kq) (yn op (cv k)))
 |some .string=>xo (dp (vX kB) (vX kq) (Mj op))|some .bool=>xo (dp (pj kB) (pj kq) (Pw op))|some (.pointer _)=>J9 A op .p x y kB kq|some (.func ..)=>J9 A op .f x y kB kq|some (.interface _)=>J9 A op .i x y kB kq|some (.struct _)=>Lr (P.seq t) op kB kq|_=>none
def JR(op:UnOp)(x:a2):Option a2:=
 match op with
 |.not=>cD (pj x) λb=>some (.J (.bool (!b)))
 |.neg=>match x with
  |.J (.int c n)=>some (.J (.int c ((cF c - n) % cF c)))|_=>none
 |_=>none
def EY(P:dK)(s d:TypeId)(x:a2):Option a2:=
 match P.eV s,P.eV d with
 |some (.int k),some (.int df)=>cD (rs (cv k) x) λn=>match Nat.ble (cF (cv df)) (cF (cv k))with
  |true=>some (.J (.int (cv df) (n % cF (cv df))))
  |false=>match Nat.blt n (eK (cv k))with
   |true=>some (.J (.int (cv df) n))|false=>none
 |some .string,some .string=>cD (vX x) λs=>some (.J (.str s))|_,_=>none
def idx(v:a2)(b:Nat):jX:=
 match v with
 |.J t=>match aa5 t&&Nat.blt (CA t) b with
  |true=>some (CA t)|false=>none
 |_=>none
def nS(A:bf)(v:a2)(n:Nat):Option (List a2):=
 match v,n with
 |.agg l,n=>match gC l n with
  |true=>some l|false=>none
 |.J t,1=>match oN t with
  |true=>some [.J t]|false=>none
 |.J t,n=>match xi n t with
  |true=>some ((l2 (pQ t) 0 n).map .J)|false=>none
 |.bx,1=>some [.bx]
 |.bN s aR,1=>match t5 A s with
  |true=>some [.bN s aR]|false=>none
 |.bD s,1=>match nW A s with
  |true=>some [.bD s]|false=>none
 |_,_=>none
def At(P:dK)(t:TypeId)(aR:Nat)(l:List a2):Option a2:=
 match p8 P t,fy P t with
 |some true,some n=>match Nat.ble (aR+n) l.length with
  |true=>some (.agg ((l.drop aR).take n))|false=>none
 |some false,some _=>match Nat.blt aR l.length with
  |true=>some (jv l aR)|false=>none
 |_,_=>none
def IH(P:dK)(t:TypeId)(f:Nat)(x:a2):Option a2:=
 match P.eV t with
 |some (.struct cK)=>match cK[f]? with
  |some fd=>match x with
   |.agg l=>At P fd.type fd.offset l
   |.J a6=>match fy P t with
    |some n=>match xi n a6 with
     |true=>At P fd.type fd.offset ((l2 (pQ a6) 0 n).map .J)|false=>none
    |none=>none
   |_=>none
  |none=>none
 |_=>none
def Ii(P:dK)(A:bf)(t:TypeId)(f:Nat)(x:a2):Option a2:=
 match P.eV t with
 |some (.struct cK)=>match cK[f]? with
  |some fd=>match fy P fd.type,x with
   |some (_+1),.bN s aR=>match t5 A s with
    |true=>some (.bN s (aR+fd.offset))|false=>none
   |some (_+1),.fU s r aR=>match nW A s with
    |true=>some (.fU s r (aR+fd.offset))|false=>none
   |some (_+1),.J a6=>match vs a6 with
    |true=>some (.J (.hy (nz a6) (ux a6) (wd a6+fd.offset)))|false=>none
   |_,_=>none
  |none=>none
 |_=>none
def Ij(P:dK)(t:TypeId)(x i:a2):Option a2:=
 match P.eV t with
 |some .string=>cD (vX x) λs=>cD (idx i s.length) λj=>match s[j]? with
  |some b=>some (.J (.int 4 b.toNat))|none=>none
 |_=>none
def HA(P:dK)(t:TypeId)(A:bf)(x i:a2):Option a2:=
 match P.eV t with
 |some (.slice e)=>match fy P e,x with
  |some (m+1),.J a6=>match rL a6 with
   |true=>cD (idx i (jJ a6).length) λj=>match gC (fT (jJ a6) j) (m+1)with
    |true=>some (.J (.hy (4*(wv a6 / 2)+1) (fT (jJ a6) j) 0))|false=>none
   |false=>none
  |some (m+1),.bD s=>match look A s with
   |some (.bF _ z Q _)=>match Nat.beq z (m+1)with
    |true=>cD (idx i Q.length) λj=>some (.fU s j 0)|false=>none
   |_=>none
  |_,_=>none
 |_=>none
def uE(es:aO)(ah:dM)(S:c8)(d:Nat):Option Operand->jX
 |none=>some d|some x=>idx (ey es ah S x) 2147483648
def KW(P:dK)(t:TypeId)(x:a2)(hU:jX)(aN:Nat->jX):Option a2:=
 match P.eV t with
 |some .string=>cD (vX x) λs=>dp hU (aN s.length) λi j=>match Nat.ble j s.length&&Nat.ble i j with
  |true=>some (.J (.str ((s.drop i).take (j - i))))|false=>none
 |some (.slice e)=>match x with
  |.J a6=>match rL a6 with
   |true=>match fy P e with
    |some (m+1)=>match gC (fT (jJ a6) 0) (m+1)with
     |true=>dp hU (aN (jJ a6).length) λi j=>match Nat.ble j (jJ a6).length&&Nat.ble i j with
      |true=>match Nat.blt i j with
       |true=>some (.J (.aH (2*(wv a6 / 2)) (((jJ a6).drop i).take (j - i))))|false=>some (.J (.aH 0 []))
      |false=>none
     |false=>none
    |_=>none
   |false=>none
  |_=>none
 |_=>none
def I3(x:a2)(i:Nat):Option a2:=
 match x with
 |.J t=>match abh i t with
  |true=>some (.J (q1 (Ug t) i))|false=>none
 |_=>none
def zD(i:Nat):List (Nat×a2)->Option a2
 |[]=>none
 |(j,g)::l=>match zD i l with
  |some g=>some g
  |none=>match Nat.beq i j with
   |true=>some g|false=>none
def ui(P:dK)(A:bf)(parts:List (Nat×a2)):Nat->List Field->List a2->Option (List a2)
 |_,[],[]=>some []|_,[],_::_=>none
 |i,fd::l,z=>match fy P fd.type with
  |some s=>match Nat.ble s z.length,zD i parts with
   |true,some g=>dp (nS A g s) (ui P A parts (i+1) l (z.drop s)) λc q=>some (c++q)|true,none=>cD (ui P A parts (i+1) l (z.drop s)) λq=>some (z.take s++q)|false,_=>none
  |none=>none
def rg(es:aO)(ah:dM)(S:c8):List (Nat×Operand)->List (Nat×a2)
 |[]=>[]|(i,x)::l=>(i,ey es ah S x)::rg es ah S l
def Km(P:dK)(A:bf)(t:TypeId)(parts:List (Nat×a2)):Option a2:=
 match P.eV t with
 |some (.struct cK)=>match CE P 0 cK.toList&&lw (parts.map Prod.fst)&&parts.all (λp=>Nat.blt p.1 cK.toList.length),p6 P t with
  |true,some (.agg n l)=>cD (ui P A parts 0 cK.toList (l.map pA)) λl=>some (.agg l)|_,_=>none
 |_=>none
def Iq(P:dK)(t:TypeId)(A:bf)(x:a2):Option a2:=
 match P.eV t with
 |some .string=>cD (vX x) λs=>some (.J (.int 3 s.length))
 |some (.slice _)=>match x with
  |.bx=>some (.J (.int 3 0))
  |.J a6=>match rL a6 with
   |true=>some (.J (.int 3 (jJ a6).length))|false=>none
  |.bD s=>match look A s with
   |some (.bF _ _ Q _)=>some (.J (.int 3 Q.length))|_=>none
  |_=>none
 |_=>none
def IV(q:Bool)(x y:Nat):Nat:=match q with
 |true=>x|false=>y
def LR(bS:Bool)(a b:Nat):Nat:=match bS with
 |true=>IV (py a b) b a|false=>IV (py b a) b a
def EL(bS:Bool):List a2->jX
 |[]=>none|[x]=>rs 3 x|x::l=>dp (rs 3 x) (EL bS l) λa b=>some (LR bS a b)
def NB(A:bf):a2->Bool
 |.bN s _=>t5 A s|.fU s _ _=>nW A s|.J t=>vs t||aqG t|.fn _ _ _=>true|_=>false
def Od(c a b:a2):Option a2:=
 cD (pj c) λc=>match pj a,pj b with
  |some x,some y=>some (.J (.bool (match c with|true=>x|false=>y)))
  |_,_=>match c with
   |true=>some a|false=>some b
def atom:a2->Bool
 |.agg _=>false|.fn _ _ _=>false|_=>true
def vx(P:dK)(es:aO)(ah:dM)(S:c8)(op:Op):Option a2:=
 match op with
 |.move x=>some (ey es ah S x)|.assign x=>some (ey es ah S x)|.pick c a b=>Od (ey es ah S c) (ey es ah S a) (ey es ah S b)|.build t c7=>Km P S.A t (rg es ah S c7.toList)
 |.nilCheck x=>match NB S.A (ey es ah S x)with
  |true=>some (ey es ah S x)|false=>none
 |.binOp op t x y _=>rp P S.A op t x y (ey es ah S x) (ey es ah S y)|.unOp op _ x=>JR op (ey es ah S x)|.convert s d x=>EY P s d (ey es ah S x)
 |.makeFunc (.func f) b5 cV=>match b5.toList.all (λx=>atom (ey es ah S x))&&cV.toList.all (λx=>atom (ey es ah S x))with
  |true=>some (.fn f (b5.toList.map (ey es ah S)) (cV.toList.map (ey es ah S)))|false=>none
 |.slice t x hU aN none=>KW P t (ey es ah S x) (uE es ah S 0 hU) (λd=>uE es ah S d aN)|.fieldAddr t x f=>Ii P S.A t f (ey es ah S x)|.field t x f=>IH P t f (ey es ah S x)|.indexAddr t x i=>HA P t S.A (ey es ah S x) (ey es ah S i)|.index t x i=>Ij P t (ey es ah S x) (ey es ah S i)|.extract x i=>I3 (ey es ah S x) i
 |.call c=>match c.callee,c.argTypes.toList,c.args.toList with
  |.builtin .len,[t],[x]=>Iq P t S.A (ey es ah S x)|.builtin .max,_,l=>cD (EL true (l.map (ey es ah S))) λn=>some (.J (.int 3 n))|.builtin .min,_,l=>cD (EL false (l.map (ey es ah S))) λn=>some (.J (.int 3 n))|_,_,_=>none
 |_=>none
def wI(P:dK)(t:TypeId)(A:bf)(p:a2):Option a2:=
 match p8 P t,fy P t with
 |some true,some n=>match p with
  |.bN s aR=>match look A s with
   |some (.box _ z (.cb l))=>match Nat.beq aR 0&&Nat.beq n z with
    |true=>some (.J (.agg l))
    |false=>match Nat.ble (aR+n) z with
     |true=>some (.J (.agg (l2 l aR n)))|false=>none
   |some (.box _ z (.bS l))=>match Nat.ble (aR+n) l.length with
    |true=>some (.agg ((l.drop aR).take n))|false=>none
   |_=>none
  |.J a6=>match vs a6 with
   |true=>match Nat.beq (wd a6) 0&&gC (ux a6) n with
    |true=>some (.J (.agg (ux a6)))
    |false=>match Nat.ble (wd a6+n) (ux a6).length with
     |true=>some (.J (.agg (l2 (ux a6) (wd a6) n)))|false=>none
   |false=>none
  |.fU s r aR=>match look A s with
   |some (.bF _ z Q _)=>match Q[r]? with
    |some aJ=>match Nat.beq aR 0&&Nat.beq n z with
     |true=>some (.J (.agg aJ))
     |false=>match Nat.ble (aR+n) z with
      |true=>some (.J (.agg (l2 aJ aR n)))|false=>none
    |none=>none
   |_=>none
  |_=>none
 |some false,some 1=>match p with
  |.bN s aR=>match look A s with
   |some (.box _ z (.cb l))=>match Nat.blt aR z with
    |true=>some (.J (q1 l aR))|false=>none
   |some (.box _ _ (.bS l))=>match Nat.blt aR l.length with
    |true=>some (jv l aR)|false=>none
   |_=>none
  |.J a6=>match vs a6&&Nat.blt (wd a6) (ux a6).length with
   |true=>some (.J (q1 (ux a6) (wd a6)))|false=>none
  |.fU s r aR=>match look A s with
   |some (.bF _ z Q _)=>match Q[r]? with
    |some aJ=>match Nat.blt aR z with
     |true=>some (.J (q1 aJ aR))|false=>none
    |none=>none
   |_=>none
  |_=>none
 |_,_=>none
def LK(l:List a2)(aR:Nat)(c:List a2):List a2:=l.take aR++(c++l.drop (aR+c.length))
def F6(z:Nat):uq->List a2
 |.cb l=>(l2 l 0 z).map .J|.bS l=>l
def HN(t:b9)(n:Nat):Option (List b9):=match n with
 |1=>match oN t with
  |true=>some [t]|false=>none
 |n=>match xi n t with
  |true=>some (pQ t)|false=>none
def Pp(aJ:List b9)(aR:Nat)(c:List b9):List b9:=aJ.take aR++(c++aJ.drop (aR+c.length))
def zR:List a2->Option (List b9)
 |[]=>some []
 |.J t::l=>match zR l with
  |some r=>some (t::r)|none=>none
 |.bx::l=>match zR l with
  |some r=>some (.aH 1 []::r)|none=>none
 |_::_=>none
def TI(v:a2):a2:=match v with
 |.agg l=>match zR l with
  |some r=>.J (.agg r)|none=>.agg l
 |v=>v
def M4(p v:a2):a2:=match p with
 |.fU _ _ _=>TI v|_=>v
def BY(P:dK)(t:TypeId)(S:c8)(p v:a2):Option bf:=
 match fy P t with
 |some (m+1)=>match p with
  |.bN s aR=>match look S.A s with
   |some (.box ak z aJ)=>match Nat.beq aR 0&&Nat.beq (m+1) z with
    |true=>match v with
     |.J a6=>match z with
      |1=>match oN a6 with
       |true=>some (kO S.A s (.box ak 1 (.cb [a6])))|false=>none
      |z=>match xi z a6 with
       |true=>some (kO S.A s (.box ak z (.cb (pQ a6))))|false=>none
     |v=>cD (nS S.A v z) λc=>some (kO S.A s (.box ak z (.bS c)))
    |false=>match Nat.ble (aR+(m+1)) z with
     |true=>cD (nS S.A v (m+1)) λc=>some (kO S.A s (.box ak z (.bS (LK (F6 z aJ) aR c))))|false=>none
   |_=>none
  |.fU s r aR=>match look S.A s with
   |some (.bF ak z Q u)=>match v,Nat.beq aR 0&&Nat.beq (m+1) z&&Nat.blt r Q.length with
    |.J a6,true=>match z with
     |1=>match oN a6 with
      |true=>some (kO S.A s (.bF ak 1 (Q.set r [a6]) u))|false=>none
     |z=>match xi z a6 with
      |true=>some (kO S.A s (.bF ak z (Q.set r (pQ a6)) u))|false=>none
    |.J a6,false=>match Nat.blt r Q.length&&Nat.ble (aR+(m+1)) z&& !Nat.beq (m+1) z with
     |true=>cD (HN a6 (m+1)) λc=>some (kO S.A s (.bF ak z (Q.set r (Pp (fT Q r) aR c)) u))|false=>none
    |_,_=>none
   |_=>none
  |_=>none
 |_=>none
def EB(A:bf)(z:Nat):a2->Option (List (List b9))
 |.bx=>some []
 |.J a6=>match rL a6&&(jJ a6).all (λr=>gC r z)&&Nat.ble (jJ a6).length 2147483647 with
  |true=>some (jJ a6)|false=>none
 |.bD s=>match look A s with
  |some (.bF _ cJ Q _)=>match Nat.beq z cJ&&Nat.ble Q.length 2147483647 with
   |true=>some Q|false=>none
  |_=>none
 |_=>none
def sn:Nat:=2147483647
mutual
def cf(X:aO):b9->Bool
 |.aH g Q=>match Q with
  |[]=>false|_=>cn (g / 2) X||h7 X Q
 |.hy g aJ _=>cn (g / 4) X||eD X aJ|.fn _ b5 cV=>eD X b5||eD X cV|.agg l=>eD X l|.gy l=>eD X l|_=>false
def eD(X:aO):List b9->Bool
 |[]=>false|t::l=>cf X t||eD X l
def h7(X:aO):List (List b9)->Bool
 |[]=>false|r::l=>eD X r||h7 X l
end
def jo(X:aO)(t:b9):b9:=match cf X t with
 |true=>.undef|false=>t
def i5(X:aO):a2->a2
 |.J t=>.J (jo X t)|v=>v
def p4(X:aO):fB->fB
 |.box ak z (.cb l)=>.box ak z (.cb (l.map (jo X)))|.box ak z (.bS l)=>.box ak z (.bS (l.map (i5 X)))|.bF ak z Q u=>.bF ak z (Q.map λr=>r.map (jo X)) u
def qB(X:aO):bf->bf
 |[]=>[]|(s,B)::l=>(s,p4 X B)::qB X l
def fq:aO->aO
 |0::_=>[]|X=>X
def yd(X:aO):a2->Bool
 |.bN s _=>match X with
  |0::l=>cn s l|_=>false
 |_=>false
def c8.bJ(S:c8)(X:aO):c8:=match X with
 |[]=>S|X=>⟨S.L.map (dF (i5 X)),S.E.map (dF (i5 X)),qB X S.A⟩
def c8.put(S:c8)(s:Nat)(B:fB):c8:=
 match S.kill s with
 |⟨L,E,A⟩=>⟨L,E,(s,B)::A⟩
def Vh:List Nat->Bool
 |[]=>false
 |a::l=>match Nat.beq a 999 with
  |true=>true|false=>Vh l
def Ca:Nat:=1000
def zz(es:List Nat)(e:Nat):Nat:=match Vh es||Nat.ble Ca e with
 |true=>e+Ca|false=>e
def ln(g:Nat):Nat:=match Nat.ble Ca g with
 |true=>g - Ca|false=>g
def yo(X:aO)(S:c8)(d e z b:Nat)(x:a2)(l:List (List b9)):Option (a2×c8):=
 match x with
 |.J a6=>match rL a6&&Nat.beq (wv a6) (2*e+1)&&gC (fT (jJ a6) 0) z&&cn e (fq X)&&Nat.ble (((jJ a6).length+l.length)*b) sn with
  |true=>some (.bD d,(S.bJ [e]).put d (.bF e z ((jJ a6++l).map λr=>r.map (jo [e])) true))
  |false=>match rL a6&&Nat.beq (wv a6 % 2) 1&&Nat.beq (jJ a6).length 0&&Nat.ble (l.length*b) sn with
   |true=>some (.bD d,S.put d (.bF e z l true))|false=>none
 |.bx=>match Nat.ble (l.length*b) sn with
  |true=>some (.bD d,S.put d (.bF e z l true))|false=>none
 |.bD s=>match look S.A s with
  |some (.bF b7 cJ Q true)=>match Nat.beq e b7&&Nat.beq z cJ&&Nat.ble ((Q.length+l.length)*b) sn with
   |true=>some (.bD d,(S.kill s).put d (.bF e z (Q++l) true))|false=>none
  |some (.bF b7 cJ Q false)=>match Nat.beq (ln e) b7&&Nat.beq z cJ&&Nat.ble ((Q.length+l.length)*b) sn&&Nat.blt 0 l.length&& !Nat.beq s d with
   |true=>some (.bD d,S.put d (.bF e z (Q++l) true))|false=>none
  |_=>none
 |_=>none
def Ad(b:Bool)(d:Nat)(r:a2×c8):Option (a2×c8):=match b with
 |false=>some r
 |true=>match oA (keeps r.2.A [d]) r.1 with
  |some t=>some (.J t,r.2.fZ [d])|none=>none
def GV(b:Bool)(v:a2)(S:c8):Option (a2×c8):=match b with
 |false=>some (v,S)
 |true=>match v with
  |.bD s=>Ad true s (v,S)|_=>some (v,S)
def r8:List (List b9)->Option lS
 |[]=>some []
 |[.int 4 n]::l=>match Nat.blt n 256 with
  |true=>cD (r8 l) λr=>some (UInt8.ofNat n::r)|false=>none
 |_=>none
def Al:lS->List (List b9)
 |[]=>[]|b::l=>[.int 4 b.toNat]::Al l
structure kH where
 sA:Nat->Nat->Bool
 flat:Nat->Bool
 grow:Nat->Bool
 mt:Nat->aO
 dL:aO
 own:Nat->Bool
 xu:aO
structure Bw(R:Type) where
 fail:R
 test:Bool->R->R->R
 call:aO->b9->List a2->bf->(b9->bf->R)->R
 loop:((List a2->bf->R)->List a2->bf->R)->List a2->bf->R
 iK:dK->TypeId->b9->b9->List b9->bf->(List b9->bf->R)->R
 adW:b9->List b9->(Nat->Nat->List b9->R)->R
def ahA{R:Type}(x:R):R:=x
def anO{R:Type}(x:R):R:=ahA x
def adL{R:Type}(x:R):R:=anO x
def hG{R α:Type}(bB:Bw R)(B:Option α)(k:α->R):R:=adL (match B with
 |some a=>k a
 |none=>bB.fail)
def t3{R:Type}(b:Bool)(x y:R):R:=adL (match b with
 |true=>x
 |false=>y)
inductive lY (b:Bool) (x y:Prop):Prop where
 |yes:b=true->x->lY b x y
 |no:b=false->y->lY b x y
def place:aO->Nat->Nat->jX
 |[],_,_=>none
 |a::l,i,s=>match Nat.beq a s with
  |true=>some i|false=>place l (i+1) s
def qT(a9:aO)(i:Nat):a2->a2
 |.bN s aR=>match place a9 i s with
  |some j=>.bN j aR|none=>.J .undef
 |.bD s=>match place a9 i s with
  |some j=>.bD j|none=>.J .undef
 |.J t=>.J t|.bx=>.bx|_=>.J .undef
def yU(a9:aO):a2->a2
 |.bN s aR=>match Nat.ble 1000 s with
  |true=>match a9[s - 1000]? with
   |some t=>.bN t aR|none=>.J .undef
  |false=>.J .undef
 |.bD s=>match Nat.ble 1000 s with
  |true=>match a9[s - 1000]? with
   |some t=>.bD t|none=>.J .undef
  |false=>.J .undef
 |.J t=>.J t|.bx=>.bx|_=>.J .undef
def o5(h:Nat->Bool):Nat->List a2->aO
 |_,[]=>[]
 |i,v::l=>match h i,v with
  |true,.bN s 0=>s::o5 h (i+1) l|true,.bD s=>s::o5 h (i+1) l|_,_=>o5 h (i+1) l
def tB(h:Nat->Bool):Nat->List a2->List a2
 |_,[]=>[]
 |i,v::l=>match h i,v with
  |true,.bN _ 0=>tB h (i+1) l|true,.bD _=>tB h (i+1) l|_,_=>v::tB h (i+1) l
def agG(A:bf)(s:Nat):aO:=match look A s with
 |some (.box _ _ aJ)=>(S4 aJ).flatMap λv=>match v with
  |.bN t _=>[t]|_=>[]
 |_=>[]
def t4(A:bf)(s:Nat):aO:=match look A s with
 |some (.box _ _ aJ)=>(S4 aJ).flatMap λv=>match v with
  |.bD t=>[t]|_=>[]
 |_=>[]
def reach(A:bf):Nat->aO->aO->aO
 |0,done,_=>done|_+1,done,[]=>done
 |n+1,done,s::l=>match cn s done with
  |true=>reach A n done l|false=>reach A n (done++[s]) (l++agG A s)
def k8(h:Nat->Bool)(a9:aO)(A:bf):Nat->List a2->Option (List a2)
 |_,[]=>some []
 |i,v::l=>match h i,v with
  |true,.bN s 0=>cD (k8 h a9 A (i+1) l) λr=>some (qT a9 1000 (.bN s 0)::r)|true,.bD s=>cD (k8 h a9 A (i+1) l) λr=>some (qT a9 1000 (.bD s)::r)|_,_=>dp (oA A v) (k8 h a9 A (i+1) l) λt r=>some (.J t::r)
def RX:fB->Bool
 |.box _ _ _=>true|.bF _ _ _ u=> !u
def xm:fB->fB->Bool
 |.box ak z _,.box e8 cJ _=>Nat.beq ak e8&&Nat.beq z cJ|.bF ak z Q u,.bF e8 cJ gw fY=>Nat.beq ak e8&&Nat.beq z cJ&& !u&& !fY&&Nat.beq Q.length gw.length|_,_=>false
def rE(a9:aO)(A:bf):Nat->aO->Option bf
 |_,[]=>some []
 |i,s::l=>match look A s with
  |some B=>match RX B with
   |true=>cD (rE a9 A (i+1) l) λr=>some ((i,g8 (qT a9 1000) B)::r)|false=>none
  |none=>none
def sB(a9:aO):Nat->aO->bf->bf->Option bf
 |_,[],[],A=>some A
 |i,s::l,(j,B)::r,A=>match Nat.beq i j,look A s with
  |true,some bH=>match xm bH B with
   |true=>sB a9 (i+1) l r (kO A s (g8 (yU a9) B))|false=>none
  |_,_=>none
 |_,_,_,_=>none
def yu:b9->Bool
 |.bool _=>true|.int _ _=>true|.str _=>true|.nil _=>true
 |.gy l=>l.all λv=>match v with
  |.bool _=>true|.int _ _=>true|.str _=>true|.nil _=>true|_=>false
 |_=>false
def s7(A:bf):aO->aO
 |[]=>[]
 |s::l=>match look A s with
  |some (.box ak _ _)=>ak::s7 A l|some (.bF ak _ _ _)=>ak::s7 A l|none=>s7 A l
def z0(A:bf)(l:aO):aO:=l.filter (nW A)
def uF(A:bf)(l:aO):aO:=l.filter λs=> !nW A s
def Iz(h:kH)(qF:jX)(args:List a2):Bool:=match qF with
 |some g=>gC (o5 (h.sA g) 0 args) 0|none=>true
def xD:aO->aO->Bool
 |[],_=>true|a::l,m=>cn a m&&xD l m
def O1(l aK:aO):Nat->aO->Bool
 |_,[]=>true|n,b::a9=>(!cn b l||cn n aK)&&O1 l aK (n+1) a9
def xc(a9 X:aO):aO->Bool
 |0::l=>match X with
  |0::aK=>O1 l aK 1000 a9|_=>kS a9 l
 |_=>true
def uJ{R:Type}(bB:Bw R)(h:kH)(f:b9)(qF:jX)(args:List a2)(S:c8)(k:a2->c8->R):R:=
 match(match qF with|some g=>h.sA g|none=>λ_=>false),(match qF with|some g=>h.flat g|none=>false),(match qF with|some g=>h.mt g|none=>[])with
 |r,hr,X=>match reach S.A 9 [] (o5 r 0 args),mn ((tB r 0 args).flatMap (f6 S.A 3))with
  |[],aU=>match hr with
   |true=>hG bB (k8 r [] (keeps S.A aU) 0 args) λdw=>bB.call [] f dw [] λv _=>t3 (yu v) (k (.J v) S) (t3 (!cf (s7 S.A (uF S.A aU)) v) (k (.J v) (S.fZ (z0 S.A aU))) bB.fail)|false=>hG bB (k8 r [] (keeps S.A aU) 0 args) λdw=>bB.call [] f dw [] λv _=>k (.J v) (S.fZ aU)
  |a9,aU=>match mn (aU++a9.flatMap (t4 S.A))with
   |aU=>match kS aU a9&&lw a9&&xD (fq X) (fq h.dL)&&xc a9 X h.dL with
    |true=>hG bB (k8 r a9 (keeps S.A aU) 0 args) λdw=>match S.fZ aU with
     |ow=>hG bB (rE a9 ow.A 1000 a9) λej=>bB.call X f dw ej λv ej=>hG bB (sB a9 1000 a9 ej (ow.bJ (fq X)).A) λA=>k (.J v) ⟨(ow.bJ (fq X)).L,(ow.bJ (fq X)).E,A⟩
    |false=>bB.fail
section
variable{R:Type}(bB:Bw R)(h:kH)(P:dK)(es:aO)
def ug:a2->aO
 |.bN s _=>[s]|.bD s=>[s]|.fU s _ _=>[s]|_=>[]
def Db:Operand->jX
 |.func f=>some f|_=>none
def outs(A:bf):aO:=(A.map Prod.fst).filter λs=>Nat.ble 1000 s
def yS(P:dK)(t:TypeId)(S:c8)(p v:a2):Option bf:=BY P t S p (M4 p v)
def Ce(t:TypeId)(S:c8)(p v:a2)(k:a2->c8->R):R:=match p,v with
 |.J lO,.J iq=>match vs lO&&Nat.beq (nz lO % 2) 1&&cn (nz lO / 4) (fq h.dL)&&lw (outs S.A)&&gC ((outs S.A).flatMap (t4 S.A)) 0 with
  |true=>hG bB (rE (outs S.A) S.A 1000 (outs S.A)) λej=>bB.iK P t lO iq [] ej λ_ ej=>hG bB (sB (outs S.A) 1000 (outs S.A) ej (S.bJ [nz lO / 4]).A) λA=>k (.J .undef) ⟨(S.bJ [nz lO / 4]).L,(S.bJ [nz lO / 4]).E,A⟩|false=>bB.fail
 |p,v=>match yd h.dL p with
  |true=>bB.fail|false=>hG bB (yS P t S p v) λA=>k (.J .undef) ⟨S.L,S.E,A⟩
def H7(E:List a2):aO->List b9
 |[]=>[]
 |s::l=>(match jv E s with
  |.J t=>t
  |_=>.undef)::H7 E l
def IR(E:List a2):aO->List b9->List a2
 |s::l,t::r=>IR (j9 E s (.J t)) l r|_,_=>E
def Cb(t:TypeId)(S:c8)(p v:a2)(k:a2->c8->R):R:=match p,v with
 |.J lO,.J iq=>match vs lO&&Nat.beq (nz lO % 2) 1&&cn (nz lO / 4) (fq h.dL)&&lw (outs S.A)&&gC ((outs S.A).flatMap (t4 S.A)) 0 with
  |true=>hG bB (rE (outs S.A) S.A 1000 (outs S.A)) λej=>bB.iK P t lO iq (H7 S.E h.xu) ej λbX ej=>hG bB (sB (outs S.A) 1000 (outs S.A) ej (S.bJ [nz lO / 4]).A) λA=>k (.J .undef) ⟨(S.bJ [nz lO / 4]).L,IR (S.bJ [nz lO / 4]).E h.xu bX,A⟩|false=>bB.fail
 |p,v=>match yd h.dL p with
  |true=>bB.fail|false=>hG bB (yS P t S p v) λA=>k (.J .undef) ⟨S.L,S.E,A⟩
def LG:a2->Option b9
 |.J t=>some t|_=>none
def TA(d:Nat)(f:b9)(args:List a2)(S:c8)(k:a2->c8->R):R:=
 hG bB (g7 LG args) λbX=>bB.adW f bX λak z aJ=>k (.bN d 0) (S.put d (.box ak z (.cb aJ)))
def q7(ah:dM)(d:Nat)(op:Op)(S:c8)(k:a2->c8->R):R:=
 match op with
 |.load t x=>hG bB (wI P t S.A (ey es ah S x)) λv=>hG bB (GV (h.grow d) v S) λr=>k r.1 r.2|.store t x y=>Ce bB h P t S (ey es ah S x) (ey es ah S y) k
 |.convert s t x=>match P.eV s,P.eV t with
  |some (.slice e),some .string=>match P.eV e,fy P e with
   |some (.int .u8),some 1=>hG bB (cD (EB S.A 1 (ey es ah S x)) r8) λs=>k (.J (.str s)) S|_,_=>bB.fail
  |_,_=>bB.fail
 |.call c=>match h.own d with
  |true=>match c.callee with
   |.value f=>match ey es ah S f with
    |.J g=>TA bB d g (c.args.toList.map (ey es ah S)) S k|_=>bB.fail
   |_=>bB.fail
  |false=>match c.callee with
   |.value f=>match ey es ah S f with
    |.J g=>uJ bB h g (Db f) (c.args.toList.map (ey es ah S)) S k|.fn g b5 cV=>uJ bB h (.fn g [] []) (some g) (b5++(c.args.toList.map (ey es ah S)++cV)) S k|_=>bB.fail
   |.builtin .append=>match c.argTypes.toList,c.args.toList with
    |[t,a6],[x,y]=>match P.eV t with
     |some (.slice e)=>match fy P e,vO P e,(tt P e).map (·.length)with
      |some (s+1),some (b+1),some q=>match Nat.beq q (s+1),P.eV a6 with
       |true,some (.slice _)=>match Nat.beq t a6 with
        |true=>hG bB (cD (EB S.A (s+1) (ey es ah S y)) λl=>cD (yo h.dL S d (zz es e) (s+1) (b+1) (ey es ah S x) l) (Ad (h.grow d) d)) λr=>k r.1 r.2|false=>bB.fail
       |true,some .string=>match P.eV e,s with
        |some (.int .u8),0=>hG bB (cD (vX (ey es ah S y)) λl=>cD (yo h.dL S d (zz es e) 1 (b+1) (ey es ah S x) (Al l)) (Ad (h.grow d) d)) λr=>k r.1 r.2|_,_=>bB.fail
       |_,_=>bB.fail
      |_,_,_=>bB.fail
     |_=>bB.fail
    |_,_=>bB.fail
   |_=>bB.fail
 |_=>bB.fail
def nx(ah:dM)(op:Op)(S:c8):aO:=match op with
 |.buildSlice _ _ c7=>mn ((rg es ah S c7.toList).flatMap λp=>f6 S.A 3 p.2)|_=>[]
def A6(ah:dM)(d:Nat)(op:Op)(S:c8):Option (a2×Option fB):=
 match op with
 |.alloc ak=>match tt P ak,fy P ak with
  |some z,some (n+1)=>match Nat.beq z.length (n+1)with
   |true=>some (.bN d 0,some (.box ak (n+1) (.bS (z.map pA))))|false=>none
  |_,_=>none
 |.box ak x=>match fy P ak with
  |some (n+1)=>match ey es ah S x with
   |.J a6=>match n with
    |0=>match oN a6 with
     |true=>some (.bN d 0,some (.box ak 1 (.cb [a6])))|false=>none
    |n+1=>match xi (n+2) a6 with
     |true=>some (.bN d 0,some (.box ak (n+2) (match h.own d with|true=>.bS ((pQ a6).map .J)|false=>.cb (pQ a6))))
     |false=>none
   |v=>cD (nS S.A v (n+1)) λc=>some (.bN d 0,some (.box ak (n+1) (.bS c)))
  |_=>none
 |.buildSlice t n c7=>match P.eV t with
  |some (.slice e)=>match fy P e with
   |some (s+1)=>match Nat.beq c7.toList.length n&&((rg es ah S c7.toList).map Prod.fst==List.range n)&&Nat.blt 0 n&&Nat.ble (n*(s+1)) 100000&&(p6 P e).isSome with
    |true=>cD (g7 (λp=>cD (oA (keeps S.A (nx es ah op S)) p.2) λt=>cD (nS S.A (.J t) (s+1)) (g7 (h9 S.A 0))) (rg es ah S c7.toList)) λQ=>match h.grow d with
     |true=>match nx es ah op S with
      |[]=>some (.bD d,some (.bF e (s+1) Q false))|_=>none
     |false=>some (.J (.aH (2*e) Q),none)
    |false=>none
   |_=>none
  |_=>none
 |.makeSlice t l c=>match P.eV t with
  |some (.slice e)=>match fy P e,tt P e with
   |some (s+1),some z=>match Nat.beq z.length (s+1)&&Nat.ble ((vO P e).getD 1001) 1000 with
    |true=>dp (rs 3 (ey es ah S l)) (rs 3 (ey es ah S c)) λn m=>match Nat.beq n m&&Nat.blt n 513 with
     |true=>cD (g7 (λv=>h9 S.A 0 (pA v)) z) λaJ=>some (.bD d,some (.bF e (s+1) (List.replicate n aJ) false))|false=>none
    |false=>none
   |_,_=>none
  |_=>none
 |_=>none
def NJ(ah:dM)(d:Nat)(op:Op)(S:c8)(k:a2->c8->R):R:=
 hG bB (A6 h P es ah d op S) λr=>match r.2 with
  |some B=>k r.1 (S.put d (g8 (e1 d) B))|none=>k r.1 (S.fZ (nx es ah op S))
def JK(ah:dM)(d:Nat)(op:Op)(S:c8)(k:a2->c8->R):R:=
 match me P op with
 |.pure=>hG bB (vx P es ah S op) λv=>k v S|.sO=>NJ bB h P es ah d op S k|.wr=>q7 bB h P es ah d op S k
def CV(ah:dM)(d:Nat)(op:Op)(S:c8)(k:a2->c8->R):R:=
 match me P op,op with
 |.wr,.store t x y=>Cb bB h P t S (ey es ah S x) (ey es ah S y) k|_,op=>JK bB h P es ah d op S k
def su:List a2->Nat->Bool->List a2
 |[],_,_=>[]|_::l,0,b=>.J (.bool b)::l|a::l,n+1,b=>a::su l n b
def Bs(ah:dM)(d:Nat)(lB:Bool)(S:c8)(y n:c8->R):R:=
 match j2 d ah with
 |some i=>match jv S.L i with
  |.i4=>n S
  |.J t=>hG bB (pj (.J t)) λb=>bB.test b
   (match lB with|true=>y ⟨su S.L i true,S.E,S.A⟩|false=>n ⟨su S.L i true,S.E,S.A⟩)
   (match lB with|true=>n ⟨su S.L i false,S.E,S.A⟩|false=>y ⟨su S.L i false,S.E,S.A⟩)
  |_=>bB.fail
 |none=>bB.fail
def A0(aT:Nat)(pY:jX)(v:a2)(S:c8)(k:c8->R):R:=
 match pY with
 |none=>k ⟨.J .undef::S.L,S.E,S.A⟩
 |some d=>match Nat.blt d aT with
  |true=>match jB d es with
   |none=>k ⟨v::S.L,S.E,S.A⟩|some i=>k ⟨v::S.L,j9 S.E i v,S.A⟩
  |false=>bB.fail
def zx(aT:Nat)(av:Array Oper):dM->gT->c8->(c8->R)->R
 |_,[],S,k=>k S
 |ah,B::l,S,k=>match z7 B.op|| !Nat.blt (B.dst.getD 0) 1000 with
  |true=>bB.fail
  |false=>match B.guard with
   |none=>CV bB h P es ah (B.dst.getD 0) B.op S λv S=>A0 bB es aT B.dst v S λS=>zx aT av (B.dst::ah) l S k
   |some (j,w)=>match(av[j]?).bind (·.dst)with
    |some d=>Bs bB ah d w S
     (λS=>CV bB h P es ah (B.dst.getD 0) B.op S λv S=>A0 bB es aT B.dst v S λS=>zx aT av (B.dst::ah) l S k)
     (λS=>A0 bB es aT B.dst .i4 S λS=>zx aT av (B.dst::ah) l S k)
    |none=>bB.fail
structure nf where
 S:c8
 iX:List (Nat×Nat)
 jE:List (Nat×Nat)
 d8:aO
def sites(l:List (Nat×Nat)):aO:=l.map Prod.snd
def DW:b9->Bool
 |.bool _=>true|.int _ _=>true|.str _=>true|.nil _=>true|.aH _ _=>true|.hy _ _ _=>true|_=>false
def aol:b9->Bool
 |.agg l=>l.all DW|t=>DW t
def HO(A:bf):a2->Bool
 |.J t=>DW t|.bx=>true|.bN s _=>t5 A s|.bD s=>nW A s|.fU s _ _=>nW A s|_=>false
def KT(A:bf):a2->Bool
 |.J t=>aol t|.agg l=>l.all (HO A)|v=>HO A v
def g2(m:Nat)(l:List (Nat×Nat)):List (Nat×Nat):=l.filter λp=> !dG m p.1
def KH(X:aO):a2->Bool
 |.J t=> !cn (nz t / 4) X|_=>true
def xB(ah:dM)(i:Nat)(v:Bool)(d:Nat)(op:Op)(a5:nf)(k:a2->nf->R):R:=
 match op with
 |.load t x=>hG bB (wI P t a5.S.A (ey es ah a5.S x)) λw=>match v with
  |false=>k w a5|true=>t3 (KH h.dL (ey es ah a5.S x)&&KT a5.S.A w) (k w ⟨a5.S,(ug (ey es ah a5.S x)).map (λs=>(i,s))++a5.iX,a5.jE,a5.d8⟩) bB.fail
 |op=>match me P op with
  |.pure=>hG bB (vx P es ah a5.S op) λw=>k w a5
  |.sO=>match Nat.blt d 1000&&kS [d] (sites a5.jE++sites a5.iX)&&kS (nx es ah op a5.S) (sites a5.iX)with
   |true=>match a5.S.fZ (nx es ah op a5.S)with
    |S=>hG bB (A6 ⟨h.sA,h.flat,λ_=>true,h.mt,h.dL,h.own,h.xu⟩ P es ah d op S) λr=>match r.2 with
     |some B=>k r.1 ⟨S.put d (g8 (e1 d) B),a5.iX,(i,d)::a5.jE.filter (λp=> !cn p.2 (nx es ah op a5.S)),(a5.jE.filter (λp=>cn p.2 (nx es ah op a5.S))).map Prod.fst++a5.d8⟩|none=>bB.fail
   |false=>bB.fail
  |.wr=>bB.fail
def yg(ah:dM)(op:Op)(S:c8):Bool:=match op with
 |.call c=>match c.callee with
  |.value f=>match ey es ah S f with
   |.J _=>Iz h (Db f) (c.args.toList.map (ey es ah S))|.fn g b5 cV=>Iz h (some g) (b5++(c.args.toList.map (ey es ah S)++cV))|_=>false
  |_=>false
 |_=>false
def Nw(h:kH)(S:c8)(qF:jX)(args:List a2)(dt:aO):Bool:=match qF with
 |none=>false
 |some f=>match h.mt f with
  |0::l=>match reach S.A 9 [] (o5 (h.sA f) 0 args)with
   |[]=>false
   |a9=>dt.all λs=>t5 S.A s&&(match place a9 0 s with
    |some n=>cn (1000+n) l
    |none=>true)
  |_=>false
def xt(ah:dM)(d:Nat)(op:Op)(S:c8)(dt:aO):Bool:=match h.own d with
 |true=>false
 |false=>match op with
  |.call c=>match c.callee with
   |.value f=>match ey es ah S f with
    |.J _=>Nw h S (Db f) (c.args.toList.map (ey es ah S)) dt|_=>false
   |_=>false
  |_=>false
def kI(A:bf):aO->bf
 |[]=>[]
 |s::l=>match look A s with
  |some B=>(s,B)::kI A l|none=>kI A l
def pT:bf->List a2
 |[]=>[]|(_,.box _ _ (.bS l))::r=>.agg l::pT r|_::r=>pT r
def rX(X:aO)(B:fB):fB:=match X with
 |[]=>B|X=>p4 X B
def xO(X:aO):bf->List a2->bf
 |[],_=>[]|(s,.box ak z (.bS _))::r,.agg l::es=>(s,.box ak z (.bS l))::xO X r es|(s,B)::r,es=>(s,rX X B)::xO X r es
def EH(aY:aO):a2->Bool
 |.J _=>true|.bD s=> !cn s aY|_=>false
def vi(aY:aO):bf->Bool
 |[]=>true|(_,.box _ _ (.bS l))::r=>l.all (λe=>kS (yJ e) aY)&&vi aY r|_::r=>vi aY r
def yO(A:bf):aO->Bool
 |[]=>true
 |s::l=>match look A s with
  |some (.box _ _ _)=>yO A l|some (.bF _ _ Q u)=>(!u|| !gC Q 0)&&yO A l|none=>false
def zN(a5:nf)(aY:aO):c8:=⟨a5.S.L++pT (kI a5.S.A aY),a5.S.E,kh a5.S.A aY⟩
def hidden(q:Bool)(dZ dt:aO):aO:=match q with
 |true=>dZ|false=>dZ++dt
def Kn(ah:dM)(m:Nat)(d:Nat)(op:Op)(a5:nf)(k:a2->nf->R):R:=
 match g2 m a5.jE,g2 m a5.iX with
 |dZ,dt=>match yg h es ah op (zN a5 (sites dZ))||xt h es ah d op (zN a5 (sites dZ)) (sites dt)with
  |q=>match hidden q (sites dZ) (sites dt),me P op with
   |aY,.wr=>match Nat.blt d 1000&&kS [d] (sites dZ++sites dt)&&a5.d8.all (λi=>dG m i)&&Nat.ble ah.length a5.S.L.length with
    |true=>q7 bB h P es ah d op (zN a5 aY) λv S=>t3 (EH aY v&&vi aY S.A&&(!q||yO S.A ((sites dt).filter λs=> !cn s aY))) (k v ⟨⟨S.L.take a5.S.L.length,S.E,xO (fq h.dL) (kI a5.S.A aY) (S.L.drop a5.S.L.length)++S.A⟩,dt,dZ,[]⟩) bB.fail|false=>bB.fail
   |_,_=>bB.fail
def CL(aT:Nat)(av:gT)(ah:dM)(B:Oper)(a5:nf)(y:nf->(a2->nf->R)->R)(k:nf->R):R:=
 match(match B.dst with|some d=>Nat.blt d aT|none=>true)with
 |true=>match B.guard with
  |none=>y a5 λv a5=>k ⟨⟨v::a5.S.L,a5.S.E,a5.S.A⟩,a5.iX,a5.jE,a5.d8⟩
  |some (j,w)=>match(av[j]?).bind (·.dst)with
   |some d=>Bs bB ah d w a5.S
    (λS=>y ⟨S,a5.iX,a5.jE,a5.d8⟩ λv a5=>k ⟨⟨v::a5.S.L,a5.S.E,a5.S.A⟩,a5.iX,a5.jE,a5.d8⟩)
    (λS=>k ⟨⟨.i4::S.L,S.E,S.A⟩,a5.iX,a5.jE,a5.d8⟩)
   |none=>bB.fail
 |false=>bB.fail
def BK(aT:Nat)(av:gT)(jx:jX):dM->aO->nf->(nf->R)->R
 |_,[],a5,k=>k a5
 |ah,i::l,a5,k=>match av[i]? with
  |some B=>CL bB aT av ah B a5 (λa5 k=>xB bB h P es ah i (match jx with|some m=> !dG m i|none=>false) (B.dst.getD 0) B.op a5 k) λa5=>BK aT av jx (B.dst::ah) l a5 k
  |none=>bB.fail
def Gn(aT:Nat)(av:gT)(bb:aO):dM->List (aO×Nat)->nf->(nf->R)->R
 |_,[],a5,k=>k a5
 |ah,(aH,w)::l,a5,k=>match av[w]? with
  |some B=>BK bB h P es aT av (some (mk bb w)) ah aH a5 λa5=>CL bB aT av (ml av ah aH) B a5 (λa5 k=>Kn bB h P es (ml av ah aH) (mk bb w) (B.dst.getD 0) B.op a5 k) λa5=>Gn aT av bb (B.dst::ml av ah aH) l a5 k|none=>bB.fail
def By:dM->List a2->List a2->List a2
 |[],_,E=>E
 |d::ah,L,E=>By ah L.tail (match d with
  |none=>E
  |some d=>match jB d es with
   |none=>E
   |some i=>j9 E i (jv L 0))
def MP(aT:Nat)(av:gT)(bb:aO)(pl:ES)(E:List a2)(A:bf)(k:List a2->bf->R):R:=
 match pl.kU with
 |[]=>Gn bB h P es aT av bb [] pl.pE ⟨⟨[],E,A⟩,[],[],[]⟩ λa5=>BK bB h P es aT av none (ol av [] pl.pE) pl.last a5 λa5=>k (By es (ml av (ol av [] pl.pE) pl.last) a5.S.L a5.S.E) a5.S.A|_=>bB.fail
end
inductive yy where
 |exit (id:Nat)
 |ret
structure Acc where
 box:Bool
 i:Nat
 j:Nat
 fE:Nat
 ak:Nat
 z:Nat
structure qq where
 dQ:aO
 ci:aO
 acc:List Acc
 a8:aO
def q0(s t:Nat):a2->a2
 |.bD a=>match Nat.beq a t with
  |true=>.J .undef
  |false=>match Nat.beq a s with
   |true=>.bD t|false=>.bD a
 |.fU a r B=>match Nat.beq a t with
  |true=>.J .undef
  |false=>match Nat.beq a s with
   |true=>.fU t r B|false=>.fU a r B
 |.bN a B=>match Nat.beq a t with
  |true=>.J .undef|false=>.bN a B
 |v=>v
def wc(s t:Nat):bf->bf
 |[]=>[]
 |(a,B)::l=>match Nat.beq a s with
  |true=>(t,B)::rem l s|false=>(a,B)::wc s t l
def forget:List a2->aO->List a2
 |E,[]=>E|E,i::l=>forget (j9 E i (.J .undef)) l
def adI(E:List a2)(A:bf)(a:Acc):a2:=match a.box with
 |false=>jv E a.i
 |true=>match look A a.i with
  |some (.box _ _ (.bS l))=>jv l a.j|_=>.J .undef
def Wl(E:List a2)(A:bf)(a:Acc)(v:a2):List a2×bf:=match a.box with
 |false=>(j9 E a.i v,A)
 |true=>match look A a.i with
  |some (.box ak z (.bS l))=>(E,kO A a.i (.box ak z (.bS (j9 l a.j v))))|_=>(E,A)
def we:List Acc->List a2->bf->Option (List a2×bf)
 |[],E,A=>some (E,A)
 |a::l,E,A=>match Nat.blt a.fE 1000,adI E A a with
  |true,.bx=>match look A a.fE,Wl (E.map (dF (e1 a.fE))) ((a.fE,.bF a.ak a.z [] true)::gh (e1 a.fE) (rem A a.fE)) a (.bD a.fE)with
   |none,(E,A)=>we l E A|some _,_=>none
  |true,.bD s=>match Nat.beq s a.fE with
   |true=>we l E A
   |false=>match nW A s,look A a.fE with
    |true,none=>we l (E.map (dF (q0 s a.fE))) (gh (q0 s a.fE) (wc s a.fE A))|false,_=>none|true,some _=>we l ((E.map (dF (e1 a.fE))).map (dF (q0 s a.fE))) (gh (q0 s a.fE) (wc s a.fE (gh (e1 a.fE) (rem A a.fE))))
  |_,_=>none
def pS(A:bf):aO->Option bf
 |[]=>some []
 |s::l=>match look A s with
  |some B=>cD (pS A l) λr=>some ((s,B)::r)|none=>none
def norm{R:Type}(bB:Bw R)(H:Option qq)(E:List a2)(A:bf)(k:List a2->bf->R):R:=match H with
 |none=>k E A
 |some H=>match(c8.mk [] (forget E H.dQ) A).fZ H.ci with
  |S=>hG bB (we H.acc S.E S.A) λr=>hG bB (pS r.2 H.a8) λA=>k r.1 A
section
variable{R:Type}(bB:Bw R)(h:kH)(jc:Nat->Option qq)(P:dK)(es:aO)(aT:Nat)
def rl:Code->Nat->List a2->bf->(List a2->bf->R)->(yy->List a2->bf->R)->R
 |.skip,_,E,A,ce,_=>ce E A|.region _ av false,_,E,A,ce,_=>zx bB h P es aT av [] av.toList ⟨[],E,A⟩ λS=>ce S.E S.A
 |.region _ av true,_,E,A,ce,_=>match xS P (jG [] av.toList) av.toList (EA P (jG [] av.toList) av.toList)with
  |true=>MP bB h P es aT av.toList (jG [] av.toList) (EA P (jG [] av.toList) av.toList) E A ce|false=>bB.fail
 |.seq a b,_,E,A,ce,bJ=>rl a 0 E A (λE A=>rl b 0 E A ce bJ) bJ|.cond c a b,_,E,A,ce,bJ=>hG bB (pj (ey es [] ⟨[],E,A⟩ c)) λv=>bB.test v (rl a 0 E A ce bJ) (rl b 0 E A ce bJ)
 |.block id c,_,E,A,ce,bJ=>rl c id E A ce λx E A=>match x with
  |.exit i=>match Nat.beq i id with
   |true=>ce E A|false=>bJ (.exit i) E A
  |.ret=>bJ .ret E A
 |.loop c,id,E,A,ce,bJ=>bB.loop (λba E A=>norm bB (jc id) E A λE A=>rl c 0 E A ba bJ) E A|.exit id,_,E,A,_,bJ=>bJ (.exit id) E A|.ret,_,E,A,_,bJ=>bJ .ret E A|_,_,_,_,_,_=>bB.fail
end
def F5(P:dK)(es:aO)(S:c8):List ResultVar->Option (List a2)
 |[]=>some []|.tmp t::l=>cD (F5 P es S l) λr=>some (ey es [] S (.tmp t)::r)|.cell a t::l=>dp (wI P t S.A (ey es [] S (.tmp a))) (F5 P es S l) λv r=>some (v::r)
def Pe:List b9->b9
 |[t]=>t|bX=>.gy bX
def Ey(A:bf):aO:=(A.map Prod.fst).filter λs=>Nat.blt s 1000
def finish{R:Type}(bB:Bw R)(P:dK)(es:aO)(ax:List ResultVar)(iu:aO)(E:List a2)(A:bf)(k:b9->bf->R):R:=
 hG bB (F5 P es ⟨[],E,A⟩ ax) λfx=>hG bB (g7 (oA (keeps A (Ey A))) fx) λbX=>hG bB (pS ((c8.mk [] [] A).fZ (Ey A)).A iu) λA=>k (Pe bX) A
def Kv{R:Type}(bB:Bw R)(ap:Nat->kH)(jc:Nat->Nat->Option qq)(P:dK)(je:Nat->aO)(f:Nat)(args:List a2)(A:bf)(k:b9->bf->R):R:=
 match P.fn f with
 |some fn=>match fn.body with
  |some c=>match gC args (fn.params.size+fn.nfree)&&Nat.ble (fn.params.size+fn.nfree) 16&&Nat.ble (fn.params.size+fn.nfree) (je f).length&&Nat.ble (je f).length 64&&Nat.ble (fn.params.size+fn.nfree) fn.ntmps&&tS (fn.params.size+fn.nfree) 0 (je f)&& !sb c&&A.all (λp=>Nat.ble 1000 p.1)with
   |true=>rl bB (ap f) (jc f) P (je f) fn.ntmps c 0 (args++List.replicate ((je f).length - (fn.params.size+fn.nfree)) (.J .undef)) A
    (λE bE=>finish bB P (je f) fn.results.toList (A.map Prod.fst) E bE k)
    (λx E bE=>match x with
     |.ret=>finish bB P (je f) fn.results.toList (A.map Prod.fst) E bE k
     |.exit _=>bB.fail)
   |false=>bB.fail
  |none=>bB.fail
 |none=>bB.fail
end
end Go.Tx
namespace Go
abbrev bK := List Tx.a2
abbrev di := List Tx.b9
abbrev g4 := List (List Tx.b9)
end Go
