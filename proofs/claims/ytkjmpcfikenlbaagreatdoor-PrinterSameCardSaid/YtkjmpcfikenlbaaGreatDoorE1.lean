/- A part. -/
import GoSem.Dispatch
import Derived.Test.YtkjmpcfikenlbaaGreatDoorE0
set_option linter.all false
namespace Go.Ev
noncomputable section
open Go
structure dK where
 eV:TypeId->Option TypeDesc
 inf:TypeId->Option TypeInfo
 fn:Nat->Option Func
 seq:TypeId->Option Bool
def sr(P:Program)(t:TypeId):Option Bool:=match P.underlying t with
 |some (.struct cK)=>match cK.toList with
  |[f,g]=>match !P.stoodInHeld t&& !P.eqGuardType P.depth t&&f.name != "_"&&g.name != "_"&&f.offset==0&&g.offset==1,P.underlying f.type,P.underlying g.type with
   |true,some .string,some .string=>some true|true,some .string,some (.int .i64)=>some false|_,_,_=>none
  |_=>none
 |_=>none
def ID(P:Program):dK:=⟨P.underlying,P.info?,λf=>P.funcs[f]?,sr P⟩
instance:Coe Program dK:=⟨ID⟩
def cv:IntKind->Nat
 |.i8=>0|.i16=>1|.i32=>2|.i64=>3|.u8=>4|.u16=>5|.u32=>6|.u64=>7
def jS:Nat->IntKind
 |0=>.i8|1=>.i16|2=>.i32|3=>.i64|4=>.u8|5=>.u16|6=>.u32|_=>.u64
def cF:Nat->Nat
 |0=>256|4=>256|1=>65536|5=>65536|2=>4294967296|6=>4294967296|_=>18446744073709551616
def eK:Nat->Nat
 |0=>128|1=>32768|2=>2147483648|3=>9223372036854775808|4=>256|5=>65536|6=>4294967296|_=>18446744073709551616
def q9(c:Nat)(n:Int):Nat:=(n % (cF c:Int)).toNat
def eM(c n:Nat):Int:=if n<eK c then(n:Int)else(n:Int) - cF c
def kt(l:Nat):Nat:=Nat.pow 2 (Nat.mul 8 l)
def yt:lS->Nat
 |[]=>0|b::l=>b.toNat+256*yt l
def Ks:Value->Option bp
 |.bool b=>some (.bool b)|.int k n=>if eM (cv k) (q9 (cv k) n)=n then some (.int (cv k) (q9 (cv k) n))else none
 |.string s=>match Nat.ble s.data.toList.length 1152921504606846976 with
  |true=>some (.str s.data.toList.length (yt s.data.toList))|false=>none
 |.pointer none=>some (.nil .p)|.slice none 0 0=>some (.nil .s)|.map none=>some (.nil .m)|.nilFunc=>some (.nil .f)|.nilIface=>some (.nil .i)|_=>none
def K9:lE->Option cx
 |[]=>some []
 |v::l=>match Ks v with
  |some x=>match K9 l with
   |some y=>some (x::y)|none=>none
  |none=>none
def mP:Value->Option bp
 |.agg eU=>match K9 eU.toList with
  |some l=>some (.agg l.length l)|none=>none
 |.tuple eU=>match eU.toList with
  |[]=>some .undef|_=>none
 |v=>Ks v
def bp.cells:bp->cx
 |.agg _ l=>l|v=>[v]
section types
variable(P:dK)
def p8(t:TypeId):Option Bool:=
 match P.eV t with
 |some (.struct _)=>some true|some (.array _ _)=>some true|some _=>some false|none=>none
def fy(t:TypeId):jX:=(P.inf t).map (·.size)
def p6(t:TypeId):Option bp:=match(P.inf t).bind (·.zero)with
 |some z=>mP z|none=>none
def tt(t:TypeId):Option cx:=match p6 P t with
 |some .undef=>none|some (.agg _ l)=>some l|some v=>some [v]|none=>none
def vO(t:TypeId):jX:=(P.inf t).map (·.bytes)
end types
structure gb where
 g:cx->ca->bp
structure afB where
 g:cx->ca->cx
structure ZC where
 p:ca->bp->(ca->Bool)->Bool
abbrev cE:=Nat->cx->bg->(r6->bg->Bool)->Bool
def FH:Nat->gb
 |0=>⟨λL _=>aY L⟩|1=>⟨λL _=>aY (o2 L)⟩|2=>⟨λL _=>aY (o2 (o2 L))⟩
 |n+3=>match FH n with
  |⟨g⟩=>⟨λL T=>g (o2 (o2 (o2 L))) T⟩
def anL(a:wa bp)(b:TN):gb:=match a,b with
 |⟨dw,_⟩,⟨cQ,_⟩=>⟨λ_ T=>dw (cQ T)⟩
def Zq(s:Nat):gb:=anL (bD (ea (s % 8))) (slt (ea (s / 8 % 8)))
def ard(a:wa bp)(b:TN):ZC:=match a,b with
 |⟨_,Dp⟩,⟨_,rG⟩=>⟨λT v k=>rG T (λt k=>Dp t (λ_ k=>k v) k) k⟩
def Cu(s:Nat):ZC:=ard (bD (ea (s % 8))) (slt (ea (s / 8 % 8)))
def jB(t:Nat)(l:aO):jX:=yF t l 0
def j2(t:Nat):dM->jX
 |[]=>none
 |some a::l=>match Nat.beq a t with
  |true=>some 0|false=>(j2 t l).map (· +1)
 |none::l=>(j2 t l).map (· +1)
def JG:gb:=⟨λ_ _=>.any⟩
def ls(es:aO)(ah:dM)(t:Nat):gb:=
 match j2 t ah with
 |some i=>FH i
 |none=>match jB t es with
  |some s=>match Nat.blt s 64 with
   |true=>Zq s|false=>JG
  |none=>JG
def Rc(v:bp):gb:=⟨λ_ _=>v⟩
def eF(es:aO)(ah:dM):Operand->gb
 |.tmp t=>ls es ah t
 |.const v=>match mP v with
  |some v=>Rc v|none=>JG
 |.func f=>Rc (.fn f [] [])|.global _=>JG
def qh(es:aO)(ah:dM):List Operand->afB
 |[]=>⟨λ_ _=>[]⟩
 |x::l=>match eF es ah x,qh es ah l with
  |⟨g⟩,⟨jg⟩=>⟨λL T=>g L T::jg L T⟩
structure mE where
 f:cx->ca->(bp->Bool)->Bool
def kj:mE:=⟨λ_ _ _=>false⟩
structure S8 where
 f:Nat->Nat->(bp->Bool)->Bool
def LH:S8:=⟨λ_ _ _=>false⟩
def JF:BinOp->Bool
 |.rem=>true|_=>false
def eN(bb a b:Nat):Nat:=Nat.mod (Nat.add a b) bb
def M8(bb a b:Nat):Nat:=Nat.mod (Nat.sub (Nat.add a bb) b) bb
def I1(bb a b:Nat):Nat:=Nat.mod (Nat.mul a b) bb
def HB(h bb a b:Nat):Bool:=Nat.blt (Nat.mod (Nat.add a h) bb) (Nat.mod (Nat.add b h) bb)
def HI(h bb a b:Nat):Bool:=Nat.ble (Nat.mod (Nat.add a h) bb) (Nat.mod (Nat.add b h) bb)
def nn(op:BinOp)(c bb h:Nat):S8:=
 match op with
 |.add=>⟨λa b k=>gr (eN bb a b) λr=>k (.int c r)⟩|.sub=>⟨λa b k=>gr (M8 bb a b) λr=>k (.int c r)⟩|.mul=>⟨λa b k=>gr (I1 bb a b) λr=>k (.int c r)⟩|.quo=>⟨λa b k=>bd (Nat.blt a h) (bd (Nat.blt b h) (bd (Nat.beq b 0) false (gr (Nat.div a b) λr=>k (.int c r))) false) false⟩|.rem=>⟨λa b k=>bd (Nat.blt a h) (bd (Nat.blt b h) (bd (Nat.beq b 0) false (gr (Nat.mod a b) λr=>k (.int c r))) false) false⟩|.and=>⟨λa b k=>gr (Nat.land a b) λr=>k (.int c r)⟩|.or=>⟨λa b k=>gr (Nat.lor a b) λr=>k (.int c r)⟩|.xor=>⟨λa b k=>gr (Nat.xor a b) λr=>k (.int c r)⟩|.eql=>⟨λa b k=>mJ (Nat.beq a b) λr=>k (.bool r)⟩|.neq=>⟨λa b k=>bd (Nat.beq a b) (k (.bool false)) (k (.bool true))⟩
 |.lss=>match Nat.beq h bb with
  |true=>⟨λa b k=>mJ (Nat.blt a b) λr=>k (.bool r)⟩|false=>⟨λa b k=>mJ (HB h bb a b) λr=>k (.bool r)⟩
 |.leq=>match Nat.beq h bb with
  |true=>⟨λa b k=>mJ (Nat.ble a b) λr=>k (.bool r)⟩|false=>⟨λa b k=>mJ (HI h bb a b) λr=>k (.bool r)⟩
 |.gtr=>match Nat.beq h bb with
  |true=>⟨λa b k=>mJ (Nat.blt b a) λr=>k (.bool r)⟩|false=>⟨λa b k=>mJ (HB h bb b a) λr=>k (.bool r)⟩
 |.geq=>match Nat.beq h bb with
  |true=>⟨λa b k=>mJ (Nat.ble b a) λr=>k (.bool r)⟩|false=>⟨λa b k=>mJ (HI h bb b a) λr=>k (.bool r)⟩
 |_=>LH
def vZ(op:BinOp)(c:Nat)(x y:gb):mE:=
 match op with
 |.shl=>match x,y with
  |⟨x⟩,⟨y⟩=>⟨λL T k=>gN (x L T) λen a=>gN (y L T) λgI b=>bd (Nat.beq en c) (bd (Nat.ble b 64) (gr (Nat.mod (Nat.mul a (Nat.pow 2 b)) (cF c)) λr=>k (.int c r)) false) false⟩
 |.shr=>match x,y with
  |⟨x⟩,⟨y⟩=>⟨λL T k=>gN (x L T) λen a=>gN (y L T) λgI b=>bd (Nat.beq en c) (bd (Nat.ble b 64) (bd (Nat.blt a (eK c)) (gr (Nat.div a (Nat.pow 2 b)) λr=>k (.int c r)) false) false) false⟩
 |_=>match JF op,x,y,nn op c (cF c) (eK c)with
  |false,⟨x⟩,⟨y⟩,⟨f⟩=>⟨λL T k=>gN (x L T) λen a=>gN (y L T) λgI b=>bd (Nat.beq en c) (bd (Nat.beq gI c) (f a b k) false) false⟩
  |true,⟨x⟩,⟨y⟩,⟨f⟩=>⟨λL T k=>zZ (x L T) (λen a=>gN (y L T) λgI b=>bd (Nat.beq en c) (bd (Nat.beq gI c) (f a b k) false) false)
   λen m r=>gN (y L T) λgI b=>bd (Nat.beq (Nat.mod en 8) c) (bd (Nat.beq gI c) (bd (Nat.ble 4 en) (bd (Nat.beq b m) (bd (Nat.blt 0 m) (bd (Nat.blt b (eK c)) (k (.int c r)) false) false) false) false) false) false⟩
def uD(l n aK cI:Nat):Bool:=bd (Nat.beq l aK) (Nat.beq (Nat.mod n (kt l)) (Nat.mod cI (kt l))) false
def An:Nat->Nat->Nat->Nat->Bool
 |_,_,0,_=>false|0,_,_+1,_=>true|l+1,n,aK+1,cI=>bd (Nat.blt (Nat.mod n 256) (Nat.mod cI 256)) true (bd (Nat.beq (Nat.mod n 256) (Nat.mod cI 256)) (An l (Nat.div n 256) aK (Nat.div cI 256)) false)
def zn(op:BinOp)(x y:gb):mE:=
 match x,y with
 |⟨x⟩,⟨y⟩=>match op with
  |.add=>⟨λL T k=>hE (x L T) λl n=>hE (y L T) λaK cI=>bd (Nat.ble (Nat.add l aK) 1152921504606846976)
   (gr (Nat.add l aK) λs=>gr (Nat.add (Nat.mod n (kt l)) (Nat.mul cI (kt l))) λm=>k (.str s m)) false⟩
  |.eql=>⟨λL T k=>hE (x L T) λl n=>hE (y L T) λaK cI=>mJ (uD l n aK cI) λr=>k (.bool r)⟩|.neq=>⟨λL T k=>hE (x L T) λl n=>hE (y L T) λaK cI=>bd (uD l n aK cI) (k (.bool false)) (k (.bool true))⟩|.lss=>⟨λL T k=>hE (x L T) λl n=>hE (y L T) λaK cI=>mJ (An l n aK cI) λr=>k (.bool r)⟩|.gtr=>⟨λL T k=>hE (x L T) λl n=>hE (y L T) λaK cI=>bd (An l n aK cI) (k (.bool false)) (bd (uD l n aK cI) (k (.bool false)) (k (.bool true)))⟩|.leq=>⟨λL T k=>hE (x L T) λl n=>hE (y L T) λaK cI=>bd (An l n aK cI) (k (.bool true)) (mJ (uD l n aK cI) λr=>k (.bool r))⟩|.geq=>⟨λL T k=>hE (x L T) λl n=>hE (y L T) λaK cI=>bd (An l n aK cI) (k (.bool false)) (k (.bool true))⟩|_=>kj
def yW(op:BinOp)(x y:gb):mE:=
 match x,y with
 |⟨x⟩,⟨y⟩=>match op with
  |.eql=>⟨λL T k=>ni (x L T) λa=>ni (y L T) λb=>bd a (mJ b λr=>k (.bool r)) (bd b (k (.bool false)) (k (.bool true)))⟩|.neq=>⟨λL T k=>ni (x L T) λa=>ni (y L T) λb=>bd a (bd b (k (.bool false)) (k (.bool true))) (mJ b λr=>k (.bool r))⟩|_=>kj
def zU(b:Bool)(v iq:bp)(k:Bool->Bool):Bool:=match b with
 |true=>hE v λl n=>hE iq λaK cI=>k (uD l n aK cI)|false=>gN v λc a=>gN iq λfF bz=>bd (Nat.beq c 3) (bd (Nat.beq fF 3) (k (Nat.beq a bz)) false) false
def Dj(b:Bool)(l aK:cx)(k:Bool->Bool):Bool:=match l,aK with
 |[Ja,v1],[bT,ef]=>zU true Ja bT λq=>zU b v1 ef λr=>k (bd q r false)|_,_=>false
def vp(b:Bool)(x y:bp)(k:Bool->Bool):Bool:=rt x λ_ l=>rt y λ_ aK=>Dj b l aK k
def YY(op:BinOp)(b:Bool)(x y:gb):mE:=
 match x,y with
 |⟨x⟩,⟨y⟩=>match op with
  |.eql=>⟨λL T k=>vp b (x L T) (y L T) λr=>mJ r λz=>k (.bool z)⟩|.neq=>⟨λL T k=>vp b (x L T) (y L T) λr=>bd r (k (.bool false)) (k (.bool true))⟩|_=>kj
def DL(B:Option Bool)(op:BinOp)(x y:gb):mE:=match B with
 |some b=>YY op b x y|none=>kj
def Aw(c:oK):Operand->Bool
 |.const v=>match mP v with
  |some (.nil fF)=>decide (c=fF)|_=>false
 |_=>false
def uG(eq:Bool)(c:oK)(x:gb):mE:=
 match x,eq,c with
 |⟨x⟩,true,.p=>⟨λL T k=>Fs (x L T) (k (.bool true)) (k (.bool false))⟩|⟨x⟩,false,.p=>⟨λL T k=>Fs (x L T) (k (.bool false)) (k (.bool true))⟩|⟨x⟩,true,.s=>⟨λL T k=>Ei (x L T) (k (.bool true)) (k (.bool false))⟩|⟨x⟩,false,.s=>⟨λL T k=>Ei (x L T) (k (.bool false)) (k (.bool true))⟩|⟨x⟩,true,.m=>⟨λL T k=>E4 (x L T) (k (.bool true)) (k (.bool false))⟩|⟨x⟩,false,.m=>⟨λL T k=>E4 (x L T) (k (.bool false)) (k (.bool true))⟩|⟨x⟩,true,.f=>⟨λL T k=>DS (x L T) (k (.bool true)) (k (.bool false))⟩|⟨x⟩,false,.f=>⟨λL T k=>DS (x L T) (k (.bool false)) (k (.bool true))⟩|⟨x⟩,true,.i=>⟨λL T k=>Eb (x L T) (k (.bool true)) (k (.bool false))⟩|⟨x⟩,false,.i=>⟨λL T k=>Eb (x L T) (k (.bool false)) (k (.bool true))⟩
def vA(op:BinOp)(c:oK)(x y:Operand)(cs fh:gb):mE:=
 match op,Aw c x,Aw c y with
 |.eql,_,true=>uG true c cs|.eql,true,false=>uG true c fh|.neq,_,true=>uG false c cs|.neq,true,false=>uG false c fh|_,_,_=>kj
def CR(P:dK)(op:BinOp)(t:TypeId)(x y:Operand)(cs fh:gb):mE:=
 match P.eV t with
 |some (.int k)=>vZ op (cv k) cs fh|some .string=>zn op cs fh|some .bool=>yW op cs fh|some (.pointer _)=>vA op .p x y cs fh|some (.slice _)=>vA op .s x y cs fh|some (.map _ _)=>vA op .m x y cs fh|some (.func ..)=>vA op .f x y cs fh|some (.interface _)=>vA op .i x y cs fh|some (.struct _)=>DL (P.seq t) op cs fh|_=>kj
def Fr(op:UnOp)(x:gb):mE:=
 match x with
 |⟨x⟩=>match op with
  |.not=>⟨λL T k=>ni (x L T) λb=>bd b (k (.bool false)) (k (.bool true))⟩|.neg=>⟨λL T k=>gN (x L T) λc a=>gr (Nat.mod (Nat.sub (cF c) a) (cF c)) λr=>k (.int c r)⟩|_=>kj
def Cf(P:dK)(s d:TypeId)(x:gb):mE:=
 match x with
 |⟨x⟩=>match P.eV s,P.eV d with
  |some (.int k),some (.int df)=>match cv k,cv df with
   |c,fF=>match Nat.ble (cF fF) (cF c)with
    |true=>⟨λL T k=>gN (x L T) λen a=>bd (Nat.beq en c) (gr (Nat.mod a (cF fF)) λr=>k (.int fF r)) false⟩|false=>⟨λL T k=>zZ (x L T) (λen a=>bd (Nat.beq en c) (bd (Nat.blt a (eK c)) (k (.int fF a)) false) false) λen m r=>bd (Nat.beq en c) (bd (Nat.ble 4 c) (k (.q9 (8+fF) m r)) false) false⟩
  |some .string,some .string=>⟨λL T k=>hE (x L T) λl n=>k (.str l n)⟩|_,_=>kj
def pd(v:bp)(b:Nat)(k:Nat->Bool):Bool:=gN v λc n=>bd (Nat.ble 3 c) (bd (Nat.blt n b) (k n) false) false
def T8(v:bp)(b:Nat)(k:Nat->Bool):Bool:=gN v λc n=>bd (Nat.beq c 3) (bd (Nat.blt n b) (k n) false) false
def kD(v:bp)(n:Nat)(k:cx->Bool):Bool:=
 rc v (bd (Nat.beq n 1) (k [v]) false) (λm l=>bd (Nat.beq m n) (k l) false)
def vh(l:cx)(i:Nat)(k:bp->Bool):Bool:=o8 l i λr=>kM r false λv _=>k v
structure anu where
 f:cx->(bp->Bool)->Bool
def xK(P:dK)(t:TypeId)(aR:Nat):anu:=
 match p8 P t,fy P t with
 |some true,some n=>⟨λl k=>o8 l aR λr=>rn r n λr=>k (.agg n r)⟩|some false,some _=>⟨λl k=>vh l aR k⟩|_,_=>⟨λ_ _=>false⟩
def CY(P:dK)(t:TypeId)(f:Nat)(x:gb):mE:=
 match P.eV t with
 |some (.struct cK)=>match cK[f]? with
  |some fd=>match x,xK P fd.type fd.offset with
   |⟨x⟩,⟨p⟩=>⟨λL T k=>rt (x L T) λ_ l=>p l k⟩
  |none=>kj
 |_=>kj
def DK(P:dK)(t:TypeId)(f:Nat)(x:gb):mE:=
 match P.eV t with
 |some (.struct cK)=>match cK[f]? with
  |some fd=>match x,fy P fd.type,fd.offset with
   |⟨x⟩,some (_+1),aR=>⟨λL T k=>sx (x L T) λa r s z=>gr (Nat.add s aR) λs=>k (.ptr a r s z)⟩|_,_,_=>kj
  |none=>kj
 |_=>kj
def DH(P:dK)(t:TypeId)(x i:gb):mE:=
 match x,i with
 |⟨x⟩,⟨i⟩=>match P.eV t with
  |some .string=>⟨λL T k=>hE (x L T) λl n=>pd (i L T) l λj=>gr (Nat.land (Nat.shiftRight n (Nat.mul 8 j)) 255) λb=>k (.int 4 b)⟩
  |some (.array len e)=>match xK P e 0,fy P e,Nat.blt len 2147483648 with
   |⟨p⟩,some s,true=>⟨λL T k=>rt (x L T) λ_ l=>pd (i L T) len λj=>o8 l (Nat.mul j s) λr=>p r k⟩|_,_,_=>kj
  |_=>kj
def C0(P:dK)(t:TypeId)(x i:gb):mE:=
 match x,i with
 |⟨x⟩,⟨i⟩=>match P.eV t with
  |some (.slice e)=>match fy P e with
   |some (m+1)=>⟨λL T k=>zV (x L T) λa eB l c u z=>pd (i L T) l λj=>bd (Nat.beq z (m+1)) (gr (Nat.add eB j) λr=>k (.ptr a r 0 z)) false⟩|_=>kj
  |some (.array len e)=>match fy P e,Nat.blt len 2147483648 with
   |some (m+1),true=>⟨λL T k=>sx (x L T) λa r s z=>pd (i L T) len λj=>gr (Nat.add s (Nat.mul j (m+1))) λs=>k (.ptr a r s z)⟩|_,_=>kj
  |_=>kj
structure ZV where
 f:cx->ca->Nat->(Nat->Bool)->Bool
def wk(es:aO)(ah:dM):Option Operand->ZV
 |none=>⟨λ_ _ d k=>k d⟩
 |some x=>match eF es ah x with
  |⟨g⟩=>⟨λL T _ k=>pd (g L T) 2147483648 k⟩
def Ct(P:dK)(t:TypeId)(x:gb)(hU aN:ZV):mE:=
 match x,hU,aN with
 |⟨x⟩,⟨hU⟩,⟨aN⟩=>match P.eV t with
  |some .string=>⟨λL T k=>hE (x L T) λl n=>aN L T l λj=>hU L T 0 λi=>bd (Nat.ble j l) (bd (Nat.ble i j)
   (gr (Nat.sub j i) λm=>gr (Nat.shiftRight n (Nat.mul 8 i)) λn=>k (.str m n)) false) false⟩
  |some (.slice e)=>match fy P e with
   |some (m+1)=>⟨λL T k=>ts (x L T) (aN L T 0 λj=>hU L T 0 λi=>bd (Nat.beq j 0) (bd (Nat.beq i 0) (k (.nil .s)) false) false)
    λa eB l c u z=>bd (Nat.beq z (m+1)) (aN L T l λj=>hU L T 0 λi=>bd (Nat.ble i j)
     (bd u (bd (Nat.ble j l) (bd (Nat.blt i j) (gr (Nat.add eB i) λeB=>gr (Nat.sub j i) λl=>k (.slice a eB l (Nat.add c i) true z))
      (k (.slice a eB 0 (Nat.add c i) true z))) false)
      (bd (Nat.ble j c) (bd (Nat.blt i c) (gr (Nat.add eB i) λeB=>gr (Nat.sub j i) λl=>gr (Nat.sub c i) λc=>k (.slice a eB l c false z))
       (k (.slice a eB 0 0 false z))) false)) false) false⟩
   |_=>kj
  |_=>kj
def KS(x:gb)(i:Nat):mE:=
 match x with
 |⟨x⟩=>⟨λL T k=>Cz (x L T) λl=>vh l i k⟩
def Kt(P:dK)(t:TypeId)(ok:Bool)(x:gb):mE:=
 match x with
 |⟨x⟩=>match P.eV t with
  |some (.interface _)=>kj
  |some _=>match ok,p6 P t with
   |true,some z=>⟨λL T k=>KR (x L T) (k (.gy [z,.bool false])) λu v=>bd (Nat.beq u t) (k (.gy [v,.bool true])) (k (.gy [z,.bool false]))⟩|false,_=>⟨λL T k=>Ea (x L T) λu v=>bd (Nat.beq u t) (k v) false⟩|_,_=>kj
  |none=>kj
def Jx(P:dK)(t:TypeId)(x:gb):mE:=
 match x with
 |⟨x⟩=>match P.eV t with
  |some (.interface _)=>kj|some _=>⟨λL T k=>k (.iface t (x L T))⟩|none=>kj
structure Dw where
 f:cx->ca->(cx->Bool)->Bool
def partOf(i:Nat):List (Nat×gb)->Option gb
 |[]=>none
 |(j,g)::l=>match partOf i l with
  |some g=>some g
  |none=>match Nat.beq i j with
   |true=>some g|false=>none
def FJ:cx->Dw->Dw
 |[],r=>r
 |a::l,r=>match FJ l r with
  |⟨r⟩=>⟨λL T k=>r L T λq=>k (a::q)⟩
def uv(P:dK)(parts:List (Nat×gb)):Nat->List Field->cx->Option Dw
 |_,[],[]=>some ⟨λ_ _ k=>k []⟩|_,[],_::_=>none
 |i,fd::l,z=>match fy P fd.type with
  |some s=>match Nat.ble s z.length,uv P parts (i+1) l (z.drop s),partOf i parts with
   |true,some ⟨r⟩,some ⟨g⟩=>some ⟨λL T k=>kD (g L T) s λc=>r L T λq=>nL c q k⟩|true,some r,none=>some (FJ (z.take s) r)|_,_,_=>none
  |none=>none
def CE(P:dK):Nat->List Field->Bool
 |_,[]=>true
 |B,fd::l=>match fy P fd.type with
  |some s=>match Nat.beq fd.offset B with
   |true=>CE P (B+s) l|false=>false
  |none=>false
def lw:aO->Bool
 |[]=>true
 |a::l=>match l.contains a with
  |true=>false|false=>lw l
def qv(es:aO)(ah:dM):List (Nat×Operand)->List (Nat×gb)
 |[]=>[]|(i,x)::l=>(i,eF es ah x)::qv es ah l
def C7(P:dK)(t:TypeId)(parts:List (Nat×gb)):mE:=
 match P.eV t with
 |some (.struct cK)=>match CE P 0 cK.toList&&lw (parts.map Prod.fst)&&parts.all (λp=>Nat.blt p.1 cK.toList.length),p6 P t with
  |true,some (.agg n l)=>match uv P parts 0 cK.toList l with
   |some ⟨r⟩=>⟨λL T k=>r L T λl=>k (.agg n l)⟩|none=>kj
  |_,_=>kj
 |_=>kj
def Cy(P:dK)(t:TypeId)(x:gb):mE:=
 match x with
 |⟨x⟩=>match P.eV t with
  |some .string=>⟨λL T k=>hE (x L T) λl _=>k (.int 3 l)⟩|some (.slice _)=>⟨λL T k=>ts (x L T) (k (.int 3 0)) λ_ _ l _ _ _=>k (.int 3 l)⟩
  |some (.array n _)=>match Nat.blt n 2147483648 with
   |true=>⟨λL T k=>k (.int 3 n)⟩|false=>kj
  |_=>kj
def py(a b:Nat):Bool:=Nat.blt (Nat.mod (Nat.add a 9223372036854775808) 18446744073709551616) (Nat.mod (Nat.add b 9223372036854775808) 18446744073709551616)
def o7(bS:Bool):List gb->Option mE
 |[]=>none|[⟨x⟩]=>some ⟨λL T k=>gN (x L T) λc n=>bd (Nat.beq c 3) (k (.int 3 n)) false⟩
 |⟨x⟩::l=>match o7 bS l,bS with
  |some ⟨r⟩,true=>some ⟨λL T k=>gN (x L T) λc n=>bd (Nat.beq c 3) (r L T λv=>gN v λ_ m=>bd (py n m) (k (.int 3 m)) (k (.int 3 n))) false⟩|some ⟨r⟩,false=>some ⟨λL T k=>gN (x L T) λc n=>bd (Nat.beq c 3) (r L T λv=>gN v λ_ m=>bd (py m n) (k (.int 3 m)) (k (.int 3 n))) false⟩|none,_=>none
def v3(P:dK)(es:aO)(ah:dM)(op:Op):mE:=
 match op with
 |.move x=>match eF es ah x with
  |⟨g⟩=>⟨λL T k=>k (g L T)⟩
 |.assign x=>match eF es ah x with
  |⟨g⟩=>⟨λL T k=>k (g L T)⟩
 |.pick c a b=>match eF es ah c,eF es ah a,eF es ah b with
  |⟨c⟩,⟨a⟩,⟨b⟩=>⟨λL T k=>ni (c L T) λv=>bd v (k (a L T)) (k (b L T))⟩
 |.build t c7=>C7 P t (qv es ah c7.toList)
 |.nilCheck x=>match eF es ah x with
  |⟨g⟩=>⟨λL T k=>C4 (g L T) (k (g L T))⟩
 |.binOp op t x y _=>CR P op t x y (eF es ah x) (eF es ah y)|.unOp op _ x=>Fr op (eF es ah x)|.convert s d x=>Cf P s d (eF es ah x)|.makeInterface t x=>Jx P t (eF es ah x)
 |.makeFunc (.func f) b5 cV=>match qh es ah b5.toList,qh es ah cV.toList with
  |⟨b5⟩,⟨cV⟩=>⟨λL T k=>k (.fn f (b5 L T) (cV L T))⟩
 |.slice t x hU aN none=>Ct P t (eF es ah x) (wk es ah hU) (wk es ah aN)|.fieldAddr t x f=>DK P t f (eF es ah x)|.field t x f=>CY P t f (eF es ah x)|.indexAddr t x i=>C0 P t (eF es ah x) (eF es ah i)|.index t x i=>DH P t (eF es ah x) (eF es ah i)|.extract x i=>KS (eF es ah x) i|.typeAssert x _ t ok=>Kt P t ok (eF es ah x)
 |.call c=>match c.callee,c.argTypes.toList,c.args.toList with
  |.builtin .len,[t],[x]=>Cy P t (eF es ah x)
  |.builtin .max,_,l=>match o7 true (l.map (eF es ah))with
   |some r=>r|none=>kj
  |.builtin .min,_,l=>match o7 false (l.map (eF es ah))with
   |some r=>r|none=>kj
  |_,_,_=>kj
 |_=>kj
structure oU where
 f:cx->ca->(gW->(Nat->bp)->Bool)->Bool
def vz:oU:=⟨λ_ _ _=>false⟩
def Ee(ak z:Nat)(aJ:cx):gW:=.cells (.fC aJ) 1 z ak false false
def aP:db cx:=db.all []
def a3:db (db cx):=db.all aP
def cW:db (db (db cx)):=db.all a3
def zJ(n:Nat):Option Rows:=
 match Nat.ble n 1 with
 |true=>some (.fC [])
 |false=>match Nat.ble n 8 with
  |true=>some (.dC aP)
  |false=>match Nat.ble n 64 with
   |true=>some (.b3 a3)
   |false=>match Nat.ble n 512 with
    |true=>some (.iQ cW)|false=>some (.nM (λ_=>[]) n)
def yr(n:Nat)(k:Rows->Bool):Bool:=match zJ n with
 |some ax=>k ax|none=>false
structure ZJ where
 f:cx->ca->(p9->Bool)->Bool
def BF(s:Nat):Nat->List (Nat×gb)->Option ZJ
 |_,[]=>some ⟨λ_ _ k=>k []⟩
 |i,(j,⟨g⟩)::l=>match Nat.beq i j,BF s (i+1) l with
  |true,some ⟨r⟩=>some ⟨λL T k=>kD (g L T) s λc=>r L T λq=>k (c::q)⟩|_,_=>none
def Bd(P:dK)(es:aO)(ah:dM)(op:Op):oU:=
 match op with
 |.alloc ak=>match tt P ak,fy P ak with
  |some z,some (n+1)=>match Nat.beq z.length (n+1)with
   |true=>⟨λ_ _ k=>k (Ee ak (n+1) z) λa=>.ptr a 0 0 (n+1)⟩|false=>vz
  |_,_=>vz
 |.box ak x=>match eF es ah x,fy P ak with
  |⟨g⟩,some (n+1)=>⟨λL T k=>kD (g L T) (n+1) λc=>k (Ee ak (n+1) c) λa=>.ptr a 0 0 (n+1)⟩|_,_=>vz
 |.buildSlice t n c7=>match P.eV t with
  |some (.slice e)=>match fy P e,c7.toList.length,zJ n with
   |some (s+1),m,some ax=>match Nat.beq m n&&Nat.ble (n*(s+1)) 100000&&(p6 P e).isSome,BF (s+1) 0 (qv es ah c7.toList)with
    |true,some ⟨r⟩=>⟨λL T k=>r L T λl=>uI l ax 0 λax=>k (.cells ax n (s+1) e false false) λa=>.slice a 0 n n false (s+1)⟩|_,_=>vz
   |_,_,_=>vz
  |_=>vz
 |.makeSlice t l c=>match P.eV t with
  |some (.slice e)=>match fy P e,tt P e,vO P e,eF es ah l,eF es ah c with
   |some (s+1),some z,some b,⟨l⟩,⟨c⟩=>match Nat.beq z.length (s+1)&&Nat.ble b 1000 with
    |true=>⟨λL T k=>pd (l L T) 513 λn=>pd (c L T) 513 λm=>bd (Nat.ble n m)
     (yr m λax=>uI (List.replicate m z) ax 0 λax=>k (.cells ax m (s+1) e false false) λa=>.slice a 0 n m false (s+1)) false⟩
    |false=>vz
   |_,_,_,_,_=>vz
  |_=>vz
 |.makeMap t none=>match P.eV t with
  |some (.map _ _)=>⟨λ_ _ k=>k (.map [] 0) λa=>.map a⟩|_=>vz
 |_=>vz
structure Gs where
 f:cE->cx->ca->bg->(bp->bg->Bool)->(bp->bg->Bool)->Bool
def sv:Gs:=⟨λ_ _ _ _ _ _=>false⟩
def Au(H:bg)(a:Nat)(k:gW->Bool):Bool:=D0 H λ_ t=>k ((bq a).g t)
def qz(H:bg)(a:Nat)(B:gW)(k:bg->Bool):Bool:=D0 H λl7 t=>(bq a).u t B λt=>k ⟨l7,t⟩
def tq(H:bg)(B:gW)(k:Nat->bg->Bool):Bool:=
 D0 H λl7 t=>(bq l7).u t B λt=>k l7 ⟨Nat.succ l7,t⟩
structure Ru where
 f:bp->bg->(bp->Bool)->Bool
def amV:Ru:=⟨λ_ _ _=>false⟩
def rowOf(p:bp)(H:bg)(k:Nat->Nat->cx->Bool):Bool:=
 sx p λa r s z=>Au H a λB=>yG B λax n cJ _ _ _=>bd (Nat.blt r n) (bd (Nat.beq z cJ) (rowAt ax r λaJ=>k s z aJ) false) false
def js(P:dK)(t:TypeId):Ru:=
 match p8 P t,fy P t with
 |some true,some n=>⟨λp H k=>rowOf p H λs z aJ=>bd (Nat.beq n z) (bd (Nat.beq s 0) (k (.agg n aJ)) false) (o8 aJ s λq=>rn q n λq=>k (.agg n q))⟩|some false,some 1=>⟨λp H k=>rowOf p H λs z aJ=>vh aJ s k⟩|_,_=>amV
structure Wp where
 f:bp->bp->bg->(bg->Bool)->Bool
def akx:Wp:=⟨λ_ _ _ _=>false⟩
def px(P:dK)(t:TypeId):Wp:=
 match fy P t with
 |some (m+1)=>⟨λp v H k=>sx p λa r s z=>kD v (m+1) λc=>Au H a λB=>yG B λax n cJ ak u ee=>bd ee false (bd (Nat.blt r n) (bd (Nat.beq z cJ)
  (bd (Nat.beq (m+1) z) (bd (Nat.beq s 0) (setRow ax r c λax=>qz H a (.cells ax n z ak u ee) k) false)
   (rowAt ax r λaJ=>rn aJ s λq=>o8 aJ (Nat.add s (m+1)) λw=>nL c w λw=>nL q w λaJ=>setRow ax r aJ λax=>qz H a (.cells ax n z ak u ee) k)) false) false)⟩
 |_=>akx
def grow(ax:Rows)(n:Nat)(k:Rows->Bool):Bool:=
 SA ax
  (λr=>bd (Nat.ble n 1) (k ax) (bd (Nat.ble n 8) (k (.dC ⟨r,[],[],[],[],[],[],[]⟩)) (bd (Nat.ble n 64) (k (.b3 ⟨⟨r,[],[],[],[],[],[],[]⟩,aP,aP,aP,aP,aP,aP,aP⟩))
   (bd (Nat.ble n 512) (k (.iQ ⟨⟨⟨r,[],[],[],[],[],[],[]⟩,aP,aP,aP,aP,aP,aP,aP⟩,a3,a3,a3,a3,a3,a3,a3⟩)) (k (.nM (λ_=>r) n))))))
  (λt=>bd (Nat.ble n 8) (k ax) (bd (Nat.ble n 64) (k (.b3 ⟨t,aP,aP,aP,aP,aP,aP,aP⟩))
   (bd (Nat.ble n 512) (k (.iQ ⟨⟨t,aP,aP,aP,aP,aP,aP,aP⟩,a3,a3,a3,a3,a3,a3,a3⟩)) (k (.nM (λi=>(pP i).aj t) n)))))
  (λt=>bd (Nat.ble n 64) (k ax) (bd (Nat.ble n 512) (k (.iQ ⟨t,a3,a3,a3,a3,a3,a3,a3⟩)) (k (.nM (λi=>(pP i).an t) n))))
  (λt=>bd (Nat.ble n 512) (k ax) (k (.nM (λi=>(pP i).aM t) n)))
  (λg c=>bd (Nat.ble n c) (k ax) (k (.nM g n)))
def yQ:Nat->Nat->p9
 |0,_=>[]|l+1,n=>[.int 4 (Nat.mod n 256)]::yQ l (Nat.div n 256)
def ta(Bq:Nat)(v:bp)(H:bg)(k:Nat->p9->Bool):Bool:=
 ts v (k 0 []) λa i l _ _ z=>bd (Nat.beq l 0) (k 0 []) (bd (Nat.beq z Bq) (Au H a λB=>yG B λax n cJ _ _ _=>bd (Nat.ble (Nat.add i l) n) (bd (Nat.beq z cJ) (bd (Nat.ble l 2147483647) (y4 ax l i λr=>k l r) false) false) false) false)
def Du(e z:Nat)(n:Nat)(l:p9)(H:bg)(k:bp->bg->Bool):Bool:=
 yr n λax=>uI l ax 0 λax=>tq H (.cells ax n z e true false) λa H=>k (.slice a 0 n 0 true z) H
def sV(e z b:Nat)(x:bp)(m:Nat)(l:p9)(H:bg)(k:bp->bg->Bool):Bool:=
 ts x (bd (Nat.beq m 0) (k (.nil .s) H) (bd (Nat.ble (Nat.mul m b) 2147483647) (Du e z m l H k) false))
  λa i len c u cJ=>Au H a λB=>yG B λax n ZT ak fY ee=>bd ee false (bd (Nat.beq ak e) (bd (Nat.beq z cJ) (bd (Nat.beq z ZT) (gr (Nat.add len m) λbx=>bd (Nat.ble (Nat.mul bx b) 2147483647)
   (bd u
    (bd fY (bd (Nat.beq i 0) (bd (Nat.beq c 0) (bd (Nat.beq len n) (grow ax bx λax=>uI l ax len λax=>qz H a .dead λH=>tq H (.cells ax bx z e true false) λa H=>k (.slice a 0 bx 0 true z) H) false) false) false) false)
    (bd fY false (bd (Nat.ble bx c) (bd (Nat.ble (Nat.add i bx) n) (uI l ax (Nat.add i len) λax=>qz H a (.cells ax n z ak fY ee) λH=>k (.slice a i bx c false z) H) false)
     (bd (Nat.ble (Nat.add i len) n) (y4 ax len i λpk=>nL pk l λl=>Du e z bx l H k) false)))) false) false) false) false)
def wW(P:dK)(t a6:TypeId)(x y:gb):Gs:=
 match x,y with
 |⟨x⟩,⟨y⟩=>match P.eV t with
  |some (.slice e)=>match fy P e,vO P e,(tt P e).map (·.length)with
   |some (s+1),some (b+1),some q=>match Nat.beq q (s+1),P.eV a6 with
    |true,some (.slice _)=>match Nat.beq t a6 with
     |true=>⟨λ_ L T H k _=>ta (s+1) (y L T) H λm l=>sV e (s+1) (b+1) (x L T) m l H k⟩|false=>sv
    |true,some .string=>match P.eV e,s with
     |some (.int .u8),0=>⟨λ_ L T H k _=>hE (y L T) λl n=>bd (Nat.ble l 2147483647) (sV e 1 (b+1) (x L T) l (yQ l n) H k) false⟩|_,_=>sv
    |_,_=>sv
   |_,_,_=>sv
  |_=>sv
def QL(P:dK)(t a6:TypeId)(x y:gb):Gs:=
 match x,y with
 |⟨x⟩,⟨y⟩=>match P.eV t,P.eV a6 with
  |some (.slice e),some (.slice b7)=>match fy P e,Nat.beq e b7 with
   |some (s+1),true=>⟨λ_ L T H k _=>zV (x L T) λa i len c u z=>ta (s+1) (y L T) H λm l=>Au H a λB=>yG B λax n cJ ak fY ee=>bd ee false (bd (Nat.beq z cJ) (bd (Nat.beq z (s+1)) (bd (Nat.ble m len) (bd (Nat.ble (Nat.add i m) n) (uI l ax i λax=>qz H a (.cells ax n z ak fY ee) λH=>k (.int 3 m) H) false) false) false) false)⟩|_,_=>sv
  |_,_=>sv
def FY:p9->(Nat->Nat->Bool)->Bool
 |[],k=>k 0 0|r::l,k=>kM r false λv _=>gN v λc n=>bd (Nat.beq c 4) (FY l λlen num=>gr (Nat.add n (Nat.mul 256 num)) λnum=>k (Nat.succ len) num) false
def Iy(P:dK)(s d:TypeId)(x:gb):Gs:=
 match x with
 |⟨x⟩=>match P.eV s,P.eV d with
  |some (.slice e),some .string=>match P.eV e,fy P e with
   |some (.int .u8),some 1=>⟨λ_ L T H k _=>ta 1 (x L T) H λ_ l=>FY l λlen num=>k (.str len num) H⟩|_,_=>sv
  |some .string,some (.slice e)=>match P.eV e,fy P e with
   |some (.int .u8),some 1=>⟨λ_ L T H k _=>hE (x L T) λl n=>bd (Nat.ble l 512) (yr l λax=>uI (yQ l n) ax 0 λax=>tq H (.cells ax l 1 e true true) λa H=>k (.slice a 0 l 0 true 1) H) false⟩|_,_=>sv
  |_,_=>sv
def qZ(es:aO)(ah:dM)(f:Operand)(args:List Operand):Gs:=
 match f,eF es ah f,qh es ah args with
 |.func f,_,⟨dw⟩=>⟨λcall L T H k a8=>call f (dw L T) H λr H=>zM r (λv=>k v H) (λv=>a8 v H)⟩|_,⟨g⟩,⟨dw⟩=>⟨λcall L T H k a8=>C5 (g L T) λf b5 cV=>nL (dw L T) cV λr=>nL b5 r λargs=>call f args H λr H=>zM r (λv=>k v H) (λv=>a8 v H)⟩
def im(P:dK)(es:aO)(ah:dM)(op:Op):Gs:=
 match op with
 |.load t x=>match eF es ah x,js P t with
  |⟨x⟩,⟨f⟩=>⟨λ_ L T H k _=>f (x L T) H λv=>k v H⟩
 |.store t x y=>match eF es ah x,eF es ah y,px P t with
  |⟨x⟩,⟨y⟩,⟨f⟩=>⟨λ_ L T H k _=>f (x L T) (y L T) H λH=>k .undef H⟩
 |.convert s d x=>Iy P s d (eF es ah x)
 |.panic x=>match eF es ah x with
  |⟨x⟩=>⟨λ_ L T H _ a8=>Ea (x L T) λt v=>a8 (.iface t v) H⟩
 |.call c=>match c.callee with
  |.value f=>qZ es ah f c.args.toList
  |.builtin .append=>match c.argTypes.toList,c.args.toList with
   |[t,a6],[x,y]=>wW P t a6 (eF es ah x) (eF es ah y)|_,_=>sv
  |.builtin .copy=>match c.argTypes.toList,c.args.toList with
   |[t,a6],[x,y]=>QL P t a6 (eF es ah x) (eF es ah y)|_,_=>sv
  |_=>sv
 |_=>sv
inductive aih where
 |pure|sO|wr
def me(P:dK)(op:Op):aih:=
 match op with
 |.move _|.assign _|.pick .. |.build .. |.nilCheck _|.binOp .. |.unOp .. |.makeInterface .. |.makeFunc .. |.slice .. |.fieldAddr .. |.field ..
 |.indexAddr .. |.index .. |.extract .. |.typeAssert .. =>.pure
 |.convert s d _=>match P.eV s,P.eV d with
  |some (.slice _),_=>.wr|_,some (.slice _)=>.wr|_,_=>.pure
 |.alloc _|.box .. |.buildSlice .. |.makeSlice .. |.makeMap .. =>.sO
 |.call c=>match c.callee with
  |.builtin .min=>.pure|.builtin .max=>.pure
  |.builtin .len=>match c.argTypes.toList with
   |[t]=>match P.eV t with
    |some (.map _ _)=>.wr|_=>.pure
   |_=>.wr
  |_=>.wr
 |_=>.wr
structure c8 where
 f:cE->cx->ca->bg->(bp->bg->Bool)->(bp->bg->Bool)->Bool
def og(P:dK)(es:aO)(ah:dM)(op:Op):c8:=
 match me P op with
 |.pure=>match v3 P es ah op with
  |⟨f⟩=>⟨λ_ L T H k _=>f L T λv=>k v H⟩
 |.sO=>match Bd P es ah op with
  |⟨f⟩=>⟨λ_ L T H k _=>f L T λB v=>tq H B λa H=>k (v a) H⟩
 |.wr=>match im P es ah op with
  |⟨f⟩=>⟨f⟩
structure ri where
 f:cE->cx->ca->bg->(ca->bg->Bool)->(ca->bp->bg->Bool)->Bool
def Am:ri:=⟨λ_ _ _ _ _ _=>false⟩
def after(es:aO)(aT:Nat)(pY:jX)(s:c8)(r:ri):ri:=
 match s,r with
 |⟨s⟩,⟨r⟩=>match pY with
  |none=>⟨λcall L T H k a8=>s call L T H (λv H=>r call (.any::L) T H k a8) (a8 T)⟩
  |some d=>match Nat.blt d aT,jB d es with
   |true,none=>⟨λcall L T H k a8=>s call L T H (λv H=>r call (v::L) T H k a8) (a8 T)⟩
   |true,some i=>match Nat.blt i 64,Cu i with
    |true,⟨p⟩=>⟨λcall L T H k a8=>s call L T H (λv H=>p T v λT=>r call (v::L) T H k a8) (a8 T)⟩|false,_=>Am
   |false,_=>Am
def If:c8:=⟨λ_ _ _ H k _=>k .undef H⟩
def GZ(v:bp)(y n:Bool):Bool:=KP v (λb=>bd b y n) n
def FU(v:bp)(y n:Bool):Bool:=KP v (λb=>bd b n y) n
def guarded(g:gb)(lB:Bool)(yes no:ri):ri:=
 match g,yes,no,lB with
 |⟨g⟩,⟨y⟩,⟨n⟩,true=>⟨λcall L T H k a8=>GZ (g L T) (y call L T H k a8) (n call L T H k a8)⟩|⟨g⟩,⟨y⟩,⟨n⟩,false=>⟨λcall L T H k a8=>FU (g L T) (y call L T H k a8) (n call L T H k a8)⟩
def WZ(es:aO)(ah:dM)(c:Call)(r:ri):ri:=
 match c.callee with
 |.value f=>match eF es ah f,qh es ah c.args.toList,r with
  |⟨g⟩,⟨dw⟩,⟨r⟩=>⟨λcall L T H k a8=>C5 (g L T) λf b5 cV=>nL b5 (dw L T) λargs=>r call (.any::L) {T with ah:=⟨f,args,cV⟩::T.ah} H k a8⟩
 |_=>Am
def vJ(P:dK)(es:aO)(aT:Nat)(av:Array Oper):dM->gT->ri
 |_,[]=>⟨λ_ _ T H k _=>k T H⟩
 |ah,B::l=>match B.op with
  |.defer c=>match B.guard,B.dst with
   |none,none=>WZ es ah c (vJ P es aT av (none::ah) l)|_,_=>Am
  |op=>match B.guard,vJ P es aT av (B.dst::ah) l with
   |none,r=>after es aT B.dst (og P es ah op) r
   |some (j,w),r=>match(av[j]?).bind (·.dst)with
    |some d=>guarded (ls es ah d) w (after es aT B.dst (og P es ah op) r) (after es aT B.dst If r)|none=>Am
def us(acc:aO):List Edge->Nat
 |[]=>0
 |e::l=>match Region.binds .any e with
  |true=>Nat.lor (Nat.lor (Nat.pow 2 e.on) (acc.getD e.on 0)) (us acc l)|false=>us acc l
def jG:aO->gT->aO
 |acc,[]=>acc|acc,B::l=>jG (acc++[us acc B.after.toList]) l
def dG(m i:Nat):Bool:=Nat.beq (Nat.land (Nat.shiftRight m i) 1) 1
def mk(bb:aO)(i:Nat):Nat:=bb.getD i 0
structure ES where
 pE:List (aO×Nat)
 last:aO
 kU:aO
def XV:Op->Bool
 |.store .. =>true|_=>false
def ab4:Op->Bool
 |.load .. =>true|_=>false
def z7:Op->Bool
 |.defer _=>true|_=>false
def HQ(P:dK)(op:Op):Bool:=
 match ab4 op with
 |true=>true
 |false=>match me P op with
  |.wr=>false|_=>true
def Md{α:Type}(p:α->Bool):Nat->List α->aO
 |_,[]=>[]
 |i,x::l=>match p x with
  |true=>i::Md p (i+1) l|false=>Md p (i+1) l
def Mk(bb:aO)(uP:aO)(i:Nat):Nat:=match uP with
 |[]=>0
 |w::uP=>match dG (mk bb i) w with
  |true=>Mk bb uP i+1|false=>Mk bb uP i
def YJ(bb:aO)(av:gT):aO->aO×aO
 |[]=>([],[])|[a]=>([a],[])
 |[a,b]=>match dG (mk bb b) a with
  |true=>([a,b],[])
  |false=>match((av[a]?).map λB=>XV B.op),((av[b]?).map λB=>XV B.op)with
   |some true,some true=>([],[a,b])|_,_=>([a,b],[])
 |a::l=>match YJ bb av l with
  |(c,t)=>(a::c,t)
def acq(bb:aO)(uP JA:aO):Nat->aO->List (aO×Nat)
 |_,[]=>[]|p,w::l=>(JA.filter λi=>Nat.beq (Mk bb uP i) p,w)::acq bb uP JA (p+1) l
def EA(P:dK)(bb:aO)(av:gT):ES:=
 match YJ bb av (Md (λB=> !HQ P B.op) 0 av)with
 |(uP,kU)=>
  let JA:=Md (λB=>HQ P B.op) 0 av
  ⟨acq bb uP JA 0 uP,JA.filter λi=>Nat.beq (Mk bb uP i) uP.length,kU⟩
def adz(B:Oper):aO:=B.op.operands.toList.filterMap λ|.tmp t=>some t|_=>none
def uU(av:gT)(B:Oper):aO:=
 adz B++
 (match B.guard with
  |some (g,_)=>((av[g]?).bind (·.dst)).toList
  |none=>[])
def CW(av:gT)(x y:Oper)(ash:Bool):Bool:=
 (match x.dst,y.dst with
  |some d,some cC=> !Nat.beq d cC
  |_,_=>true)&&
 (ash||((match x.dst with
  |some d=> !(uU av y).contains d
  |none=>true)&&
 (match y.dst with
  |some d=> !(uU av x).contains d
  |none=>true)))
def O7(av:gT)(bb:aO)(i:Nat)(x:Oper):Nat->gT->Bool
 |_,[]=>true|j,y::l=>CW av x y (dG (mk bb i) j||dG (mk bb j) i)&&O7 av bb i x (j+1) l
def ty(av:gT)(bb:aO):Nat->gT->Bool
 |_,[]=>true|i,x::l=>O7 av bb i x (i+1) l&&ty av bb (i+1) l
def sub(a b:Nat):Bool:=Nat.beq (Nat.land a b) a
def u9(P:dK)(av:gT)(bb:aO)(jN:jX):Nat->aO->jX
 |done,[]=>some done
 |done,i::l=>match av[i]? with
  |some B=>match HQ P B.op&&sub (mk bb i) done&& !dG done i&&(match jN with|some w=>dG (mk bb i) w|none=>true)with
   |true=>u9 P av bb jN (Nat.lor done (Nat.pow 2 i)) l|false=>none
  |none=>none
def x1(P:dK)(av:gT)(bb:aO):jX->Nat->List (aO×Nat)->Option (jX×Nat)
 |jN,done,[]=>some (jN,done)
 |jN,done,(aH,w)::l=>match u9 P av bb jN done aH with
  |some done=>match av[w]? with
   |some B=>match !HQ P B.op&&sub (mk bb w) done&& !dG done w&&(match jN with|some v=>dG (mk bb w) v|none=>true)with
    |true=>x1 P av bb (some w) (Nat.lor done (Nat.pow 2 w)) l|false=>none
   |none=>none
  |none=>none
def xS(P:dK)(bb:aO)(av:gT)(pl:ES):Bool:=
 ty av bb 0 av&&av.all (λB=> !z7 B.op)&&
 match x1 P av bb none 0 pl.pE with
 |some (jN,done)=>match u9 P av bb jN done pl.last with
  |some done=>match pl.kU with
   |[]=>Nat.beq done (Nat.pow 2 av.length - 1)|_=>false
  |none=>false
 |none=>false
def pw:bp->bp->Bool
 |.bool a,.bool b=>a==b|.int c a,.int fF b=>Nat.beq c fF&&Nat.beq a b|.str l n,.str aK cI=>Nat.beq l aK&&Nat.beq n cI|.nil a,.nil b=>decide (a=b)|.ptr a r s z,.ptr bz eH dx cJ=>Nat.beq a bz&&Nat.beq r eH&&Nat.beq s dx&&Nat.beq z cJ|.slice a i l c u z,.slice bz t9 aK fF fY cJ=>Nat.beq a bz&&Nat.beq i t9&&Nat.beq l aK&&Nat.beq c fF&&u==fY&&Nat.beq z cJ|.map a,.map b=>Nat.beq a b|_,_=>false
def Bi:cx->cx->Bool
 |[],[]=>true
 |a::l,b::aK=>match pw a b with
  |true=>Bi l aK|false=>false
 |_,_=>false
def qX:bp->bp->Bool
 |.agg n l,.agg cI aK=>Nat.beq n cI&&Bi l aK|a,b=>pw a b
structure jF where
 i:Nat
 p:bp
 vc:Ru
 v:bp
structure jC where
 i:Nat
 id:Nat
 obj:gW
abbrev pg:=cx->bg->List jF->List jC->Bool
structure rA where
 f:cE->cx->ca->bg->List jF->List jC->pg->(bp->bg->Bool)->Bool
def zY:rA:=⟨λ_ _ _ _ _ _ _ _=>false⟩
def tw(m:Nat)(H:bg):List jF->Bool
 |[]=>true|r::l=>bd (dG m r.i) (tw m H l) (r.vc.f r.p H λv=>bd (qX v r.v) (tw m H l) false)
def xP(m:Nat):List jF->List jF
 |[]=>[]
 |r::l=>match dG m r.i with
  |true=>xP m l|false=>r::xP m l
def AX(m:Nat):List jC->bg->(bg->Bool)->Bool
 |[],H,k=>k H|q::l,H,k=>bd (dG m q.i) (qz H q.id q.obj λH=>AX m l H k) (AX m l H k)
def jH(m:Nat):List jC->List jC
 |[]=>[]
 |q::l=>match dG m q.i with
  |true=>jH m l|false=>q::jH m l
def agE(l:List jF)(a b:Bool):Bool:=kM l a λ_ _=>b
def ann(l:List jC)(a b:Bool):Bool:=kM l a λ_ _=>b
def xr:List jC->bg->(bg->Bool)->Bool
 |[],H,k=>k H|q::l,H,k=>qz H q.id q.obj λH=>xr l H k
def pI(P:dK)(es:aO)(ah:dM)(i:Nat)(v:Bool)(op:Op):rA:=
 match op with
 |.load t x=>match eF es ah x,js P t,v with
  |⟨x⟩,⟨f⟩,true=>⟨λ_ L T H cc bh k _=>xr bh H λCv=>f (x L T) Cv λw=>k (w::L) H (⟨i,x L T,⟨f⟩,w⟩::cc) bh⟩|⟨x⟩,⟨f⟩,false=>⟨λ_ L T H cc bh k _=>xr bh H λCv=>f (x L T) Cv λw=>k (w::L) H cc bh⟩
 |op=>match me P op with
  |.pure=>match v3 P es ah op with
   |⟨f⟩=>⟨λ_ L T H cc bh k _=>f L T λw=>k (w::L) H cc bh⟩
  |.sO=>match Bd P es ah op with
   |⟨f⟩=>⟨λ_ L T H cc bh k _=>f L T λB w=>D0 H λl7 t=>k (w l7::L) ⟨Nat.succ l7,t⟩ cc (⟨i,l7,B⟩::bh)⟩
  |.wr=>zY
def zP(P:dK)(es:aO)(ah:dM)(m:Nat)(op:Op):rA:=
 match im P es ah op with
 |⟨f⟩=>⟨λcall L T H cc bh k a8=>ann bh
  (f call L T H (λv H=>agE cc (k (v::L) H cc bh) (bd (tw m H cc) (k (v::L) H (xP m cc) bh) false)) a8)
  (AX m bh H λH=>f call L T H (λv H=>xr (jH m bh) H λCv=>bd (tw m Cv cc) (k (v::L) H (xP m cc) (jH m bh)) false) a8)⟩
def Vt:rA:=⟨λ_ L _ H cc bh k _=>k (.undef::L) H cc bh⟩
def D3(g:gb)(lB:Bool)(yes:rA):rA:=
 match g,yes,lB with
 |⟨g⟩,⟨y⟩,true=>⟨λcall L T H cc bh k a8=>GZ (g L T) (y call L T H cc bh k a8) (k (.undef::L) H cc bh)⟩|⟨g⟩,⟨y⟩,false=>⟨λcall L T H cc bh k a8=>FU (g L T) (y call L T H cc bh k a8) (k (.undef::L) H cc bh)⟩
def sQ(es:aO)(aT:Nat)(av:gT)(ah:dM)(B:Oper)(y:rA):rA:=
 match(match B.dst with|some d=>Nat.blt d aT|none=>true)with
 |true=>match B.guard with
  |none=>y
  |some (j,w)=>match(av[j]?).bind (·.dst)with
   |some d=>D3 (ls es ah d) w y|none=>zY
 |false=>zY
def Et(a b:rA):rA:=
 match a,b with
 |⟨a⟩,⟨b⟩=>⟨λcall L T H cc bh k a8=>a call L T H cc bh (λL H cc bh=>b call L T H cc bh k a8) a8⟩
def acI:rA:=⟨λ_ L _ H cc bh k _=>k L H cc bh⟩
def t2(P:dK)(es:aO)(aT:Nat)(av:gT)(jx:jX):dM->aO->rA
 |_,[]=>acI
 |ah,i::l=>match av[i]? with
  |some B=>Et (sQ es aT av ah B (pI P es ah i (match jx with|some m=> !dG m i|none=>false) B.op)) (t2 P es aT av jx (B.dst::ah) l)
  |none=>zY
def ml(av:gT):dM->aO->dM
 |ah,[]=>ah|ah,i::l=>ml av (((av[i]?).bind (·.dst))::ah) l
def yb(P:dK)(es:aO)(aT:Nat)(av:gT)(bb:aO):dM->List (aO×Nat)->rA
 |_,[]=>acI
 |ah,(aH,w)::l=>match av[w]? with
  |some B=>Et (t2 P es aT av (some (mk bb w)) ah aH)
   (Et (sQ es aT av (ml av ah aH) B (zP P es (ml av ah aH) (mk bb w) B.op))
    (yb P es aT av bb (B.dst::ml av ah aH) l))
  |none=>zY
def ol(av:gT):dM->List (aO×Nat)->dM
 |ah,[]=>ah|ah,(aH,w)::l=>ol av (((av[w]?).bind (·.dst))::ml av ah aH) l
structure aeZ where
 f:cx->ca->(ca->Bool)->Bool
def xM(es:aO):dM->aeZ
 |[]=>⟨λ_ T k=>k T⟩
 |d::ah=>match xM es ah with
  |⟨r⟩=>match d with
   |none=>⟨λL T k=>r (o2 L) T k⟩
   |some d=>match jB d es with
    |none=>⟨λL T k=>r (o2 L) T k⟩
    |some i=>match Nat.blt i 64,Cu i with
     |true,⟨p⟩=>⟨λL T k=>p T (aY L) λT=>r (o2 L) T k⟩|false,_=>⟨λ_ _ _=>false⟩
def wy(es:aO):gT->aeZ
 |[]=>⟨λ_ T k=>k T⟩
 |B::l=>match wy es l with
  |⟨r⟩=>match B.dst with
   |none=>⟨r⟩
   |some d=>match jB d es with
    |none=>⟨r⟩
    |some i=>match Nat.blt i 64,Cu i with
     |true,⟨p⟩=>⟨λL T k=>p T .any λT=>r L T k⟩|false,_=>⟨λ_ _ _=>false⟩
def Mg(P:dK)(es:aO)(aT:Nat)(av:gT)(bb:aO)(pl:ES):ri:=
 match xS P bb av pl with
 |true=>match yb P es aT av bb [] pl.pE,t2 P es aT av none (ol av [] pl.pE) pl.last,xM es (ml av (ol av [] pl.pE) pl.last),wy es av with
  |⟨a⟩,⟨b⟩,⟨hr⟩,⟨Wu⟩=>⟨λcall _ T H k a8=>a call [] T H [] [] (λL H cc bh=>b call L T H cc bh (λL H _ bh=>xr bh H λH=>hr L T λT=>k T H)
   (λv H=>Wu [] T λT=>a8 T v H)) (λv H=>Wu [] T λT=>a8 T v H)⟩
 |false=>Am
def Jf(P:dK)(es:aO)(aT:Nat)(av:gT):ri:=
 Mg P es aT av (jG [] av) (EA P (jG [] av) av)
structure Ok where
 f:Nat->cE->ca->bg->(ca->bg->Bool)->(X->ca->bg->Bool)->Bool
def aqF:Ok:=⟨λ_ _ _ _ _ _=>false⟩
def lo(P:dK)(es:aO)(aT:Nat):Code->Ok
 |.skip=>⟨λ_ _ T H ce _=>ce T H⟩
 |.region _ av false=>match vJ P es aT av [] av.toList with
  |⟨f⟩=>⟨λ_ call T H ce bJ=>f call [] T H ce λT v H=>bJ (.panic v) T H⟩
 |.region _ av true=>match Jf P es aT av.toList with
  |⟨f⟩=>⟨λ_ call T H ce bJ=>f call [] T H ce λT v H=>bJ (.panic v) T H⟩
 |.seq a b=>match lo P es aT a,lo P es aT b with
  |⟨a⟩,⟨b⟩=>⟨λn call T H ce bJ=>a n call T H (λT H=>b n call T H ce bJ) bJ⟩
 |.cond c a b=>match eF es [] c,lo P es aT a,lo P es aT b with
  |⟨c⟩,⟨a⟩,⟨b⟩=>⟨λn call T H ce bJ=>ni (c [] T) λv=>bd v (a n call T H ce bJ) (b n call T H ce bJ)⟩
 |.block id c=>match lo P es aT c with
  |⟨c⟩=>⟨λn call T H ce bJ=>c n call T H ce λx T H=>z3 x (λi=>bd (Nat.beq i id) (ce T H) (bJ (.exit i) T H)) (bJ .ret T H) (λv=>bJ (.panic v) T H)⟩
 |.loop c=>match lo P es aT c with
  |⟨c⟩=>⟨λn call T H ce bJ=>GD (λba T H=>c n call T H ba bJ) n T H⟩
 |.exit id=>⟨λ_ _ T H _ bJ=>bJ (.exit id) T H⟩|.ret=>⟨λ_ _ T H _ bJ=>bJ .ret T H⟩|_=>aqF
def tS(n:Nat):Nat->aO->Bool
 |_,[]=>true
 |i,t::l=>match Nat.blt i n with
  |true=>match Nat.beq t i with
   |true=>tS n (i+1) l|false=>false
  |false=>match Nat.ble n t with
   |true=>tS n (i+1) l|false=>false
structure alA where
 f:ca->bg->(cx->Bool)->Bool
def uh(P:dK)(es:aO):List ResultVar->alA
 |[]=>⟨λ_ _ k=>k []⟩
 |.tmp t::l=>match ls es [] t,uh P es l with
  |⟨g⟩,⟨r⟩=>⟨λT H k=>r T H λq=>k (g [] T::q)⟩
 |.cell a t::l=>match ls es [] a,js P t,uh P es l with
  |⟨g⟩,⟨f⟩,⟨r⟩=>⟨λT H k=>f (g [] T) H λv=>r T H λq=>k (v::q)⟩
structure aoP where
 f:ca->bg->(bp->Bool)->Bool
def xJ(P:dK)(es:aO)(l:List ResultVar):aoP:=
 match uh P es l,l with
 |⟨f⟩,[_]=>⟨λT H k=>f T H λq=>k (aY q)⟩|⟨f⟩,_=>⟨λT H k=>f T H λq=>k (.gy q)⟩
def j1:db bp:=db.all .undef
def O4(l:cx)(k:db bp->cx->Bool):Bool:=
 kM l (k j1 []) λdS l=>kM l (k ⟨dS,.undef,.undef,.undef,.undef,.undef,.undef,.undef⟩ []) λbk l=>
 kM l (k ⟨dS,bk,.undef,.undef,.undef,.undef,.undef,.undef⟩ []) λbu l=>kM l (k ⟨dS,bk,bu,.undef,.undef,.undef,.undef,.undef⟩ []) λb1 l=>
 kM l (k ⟨dS,bk,bu,b1,.undef,.undef,.undef,.undef⟩ []) λcP l=>kM l (k ⟨dS,bk,bu,b1,cP,.undef,.undef,.undef⟩ []) λdO l=>
 kM l (k ⟨dS,bk,bu,b1,cP,dO,.undef,.undef⟩ []) λeb l=>kM l (k ⟨dS,bk,bu,b1,cP,dO,eb,.undef⟩ []) λeY l=>k ⟨dS,bk,bu,b1,cP,dO,eb,eY⟩ l
def Dd(l:cx)(k:ca->Bool):Bool:=
 O4 l λnQ l=>kM l (k ⟨nQ,j1,j1,j1,j1,j1,j1,j1,[]⟩) λa l=>O4 (a::l) λc4 l=>kM l (k ⟨nQ,c4,j1,j1,j1,j1,j1,j1,[]⟩) λ_ _=>false
def e7.settle:e7->e7
 |.nu _ true=>.ret|u=>u
def BJ:Op->Bool
 |.call c=>match c.callee with
  |.builtin .recover=>true|_=>false
 |_=>false
def xG:Code->Bool
 |.region _ av _=>av.toList.all λB=> !BJ B.op|.seq a b=>xG a&&xG b|.cond _ a b=>xG a&&xG b|.block _ c=>xG c|.loop c=>xG c|.rangeFunc .. =>false|.scope c=>xG c|_=>true
def sb:Code->Bool
 |.region _ av _=>av.toList.any λB=>z7 B.op|.seq a b=>sb a||sb b|.cond _ a b=>sb a||sb b|.block _ c=>sb c|.loop c=>sb c|_=>false
def za:cE:=λ_ _ _ _=>false
def Vg(P:dK)(es:aO)(aT:Nat)(av:Array Oper):gT->ri->Option ri
 |B::l,_=>match BJ B.op,B.guard,B.dst,vJ P es aT av [B.dst] l with
  |true,none,some d,⟨r⟩=>match Nat.blt d aT,jB d es,l.all λB=> !BJ B.op with
   |true,none,true=>some ⟨r⟩|_,_,_=>none
  |_,_,_,_=>none
 |_,_=>none
structure OW where
 f:Nat->cE->ca->bg->e7->(ca->bg->e7->Bool)->(X->ca->bg->e7->Bool)->Bool
def U4:OW:=⟨λ_ _ _ _ _ _ _=>false⟩
def OG(c:Ok):OW:=match c with
 |⟨f⟩=>⟨λn call T H u ce bJ=>f n call T H (λT H=>ce T H u) (λx T H=>bJ x T H u)⟩
def Tf(u:e7)(p3:Bool)(a8:bp->Bool->Bool):Bool:=match u with
 |.ret=>p3|.nu v r=>a8 v r
def wu(P:dK)(es:aO)(aT:Nat):Code->OW
 |.seq a b=>match xG (.seq a b)with
  |true=>OG (lo P es aT (.seq a b))
  |false=>match wu P es aT a,wu P es aT b with
   |⟨a⟩,⟨b⟩=>⟨λn call T H u ce bJ=>a n call T H u (λT H u=>b n call T H u ce bJ) bJ⟩
 |.cond c a b=>match eF es [] c,wu P es aT a,wu P es aT b with
  |⟨c⟩,⟨a⟩,⟨b⟩=>⟨λn call T H u ce bJ=>ni (c [] T) λv=>bd v (a n call T H u ce bJ) (b n call T H u ce bJ)⟩
 |.region i av d=>match xG (.region i av d),d with
  |true,_=>OG (lo P es aT (.region i av d))|false,true=>U4
  |false,false=>match Vg P es aT av av.toList Am with
   |some ⟨r⟩=>⟨λ_ _ T H u ce _=>Tf u
    (r za [.nil .i] T H (λT H=>ce T H .ret) λ_ _ _=>false)
    (λv rec=>bd rec (r za [.nil .i] T H (λT H=>ce T H (.nu v true)) λ_ _ _=>false) (r za [v] T H (λT H=>ce T H (.nu v true)) λ_ _ _=>false))⟩
   |none=>U4
 |c=>match xG c with
  |true=>OG (lo P es aT c)|false=>U4
def tM(T:ca)(b:Bool):Bool:=kM T.ah b λ_ _=>false
def Rk(P:dK)(E:Nat->aO)(n:Nat)(call:cE)(f:Nat)(args:cx)(u:e7)(H:bg)(k:e7->bg->Bool):Bool:=
 match P.fn f with
 |some fn=>match fn.body with
  |some c=>match wu P (E f) fn.ntmps c,xJ P (E f) fn.results.toList,Nat.ble args.length (fn.params.size+fn.nfree),sb c,Nat.ble (fn.params.size+fn.nfree) fn.ntmps&&tS (fn.params.size+fn.nfree) 0 (E f)with
   |⟨c⟩,⟨r⟩,true,false,true=>Dd args λT=>c n call T H u (λT H u=>tM T (r T H λ_=>k u H)) (λx T H u=>z3 x (λ_=>false) (tM T (r T H λ_=>k u H)) λ_=>false)|_,_,_,_,_=>false
  |none=>false
 |none=>false
def GK(P:dK)(E:Nat->aO)(n:Nat)(call:cE)(r:ca->bg->(bp->Bool)->Bool)(T:ca):List Lg->e7->bg->(r6->bg->Bool)->Bool
 |[],u,H,k=>Tf u (r T H λv=>k (.val v) H) λv rec=>bd rec false (k (.nu v) H)|d::ah,u,H,k=>Rk P E n call d.f (d.args++d.cap) u H λu H=>GK P E n call r T ah u.settle H k
structure Fn where
 f:Nat->cE->cx->bg->(r6->bg->Bool)->Bool
structure eS where
 f:cx->(bp->Bool)->Bool
def TU:Fn:=⟨λ_ _ _ _ _=>false⟩
def yI(P:dK)(E:Nat->aO)(ext:Nat->Option eS)(f:Nat):Fn:=
 match ext f with
 |some ⟨e⟩=>⟨λ_ _ args H k=>e args λv=>k (.val v) H⟩
 |none=>match P.fn f with
  |some fn=>match fn.body with
   |some c=>match lo P (E f) fn.ntmps c,xJ P (E f) fn.results.toList,sb c,Nat.ble (fn.params.size+fn.nfree) fn.ntmps&&tS (fn.params.size+fn.nfree) 0 (E f)with
    |⟨c⟩,⟨r⟩,false,true=>⟨λn call args H k=>L9 args (fn.params.size+fn.nfree) (Dd args λT=>c n call T H (λT H=>tM T (r T H λv=>k (.val v) H)) (λx T H=>z3 x (λ_=>false) (tM T (r T H λv=>k (.val v) H)) λv=>tM T (k (.nu v) H)))⟩|⟨c⟩,⟨r⟩,true,true=>⟨λn call args H k=>L9 args (fn.params.size+fn.nfree) (Dd args λT=>c n call T H (λT H=>GK P E n call r T T.ah .ret H k) (λx T H=>z3 x (λ_=>false) (GK P E n call r T T.ah .ret H k) λv=>GK P E n call r T T.ah (.nu v false) H k))⟩|_,_,_,false=>TU
   |none=>TU
  |none=>TU
def P6(P:dK)(E:Nat->aO)(ext:Nat->Option eS):Nat->cE:=
 MK λn call f args H k=>(yI P E ext f).f n call args H k
def yD:bg:=⟨0,⟨db.all (db.all (db.all (db.all (db.all .none)))),λ_=>.none⟩⟩
end
end Go.Ev
