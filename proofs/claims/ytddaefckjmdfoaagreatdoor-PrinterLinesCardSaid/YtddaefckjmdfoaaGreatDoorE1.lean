/- Part of the proof of PrinterLines. -/
import GoSem.Dispatch
import Derived.Test.YtddaefckjmdfoaaGreatDoorE0
set_option linter.all false
namespace Go.Ev
noncomputable section
open Go
structure dy where
 ek:TypeId->Option TypeDesc
 inf:TypeId->Option TypeInfo
 fn:Nat->Option Func
def IY(P:Program):dy:=⟨P.underlying,P.info?,λf=>P.funcs[f]?⟩
instance:Coe Program dy:=⟨IY⟩
def cq:IntKind->Nat
 |.i8=>0|.i16=>1|.i32=>2|.i64=>3|.u8=>4|.u16=>5|.u32=>6|.u64=>7
def jh:Nat->IntKind
 |0=>.i8|1=>.i16|2=>.i32|3=>.i64|4=>.u8|5=>.u16|6=>.u32|_=>.u64
def cp:Nat->Nat
 |0=>256|4=>256|1=>65536|5=>65536|2=>4294967296|6=>4294967296|_=>18446744073709551616
def dL:Nat->Nat
 |0=>128|1=>32768|2=>2147483648|3=>9223372036854775808|4=>256|5=>65536|6=>4294967296|_=>18446744073709551616
def p1(c:Nat)(n:Int):Nat:=(n % (cp c:Int)).toNat
def dm(c n:Nat):Int:=if n<dL c then(n:Int) else(n:Int) - cp c
def jO(l:Nat):Nat:=Nat.pow 2 (Nat.mul 8 l)
def wI:k9->Nat
 |[]=>0
 |b::l=>b.toNat+256*wI l
def Hw:Value->Option bl
 |.bool b=>some (.bool b)
 |.int k n=>if dm (cq k) (p1 (cq k) n)=n then some (.int (cq k) (p1 (cq k) n)) else none
 |.string s=>match Nat.ble s.data.toList.length 1152921504606846976 with
  |true=>some (.str s.data.toList.length (wI s.data.toList))
  |false=>none
 |.pointer none=>some (.nil .N)
 |.slice none 0 0=>some (.nil .s)
 |.map none=>some (.nil .m)
 |.nilFunc=>some (.nil .f)
 |.nilIface=>some (.nil .i)
 |_=>none
def Mf:lh->Option cv
 |[]=>some []
 |v::l=>match Hw v with
  |some x=>match Mf l with
   |some y=>some (x::y)
   |none=>none
  |none=>none
def mr:Value->Option bl
 |.agg d8=>match Mf d8.toList with
  |some l=>some (.agg l.length l)
  |none=>none
 |.tuple d8=>match d8.toList with
  |[]=>some .undef
  |_=>none
 |v=>Hw v
def bl.cells:bl->cv
 |.agg _ l=>l
 |v=>[v]
section types
variable(P:dy)
def rp(t:TypeId):Option Bool:=
 match P.ek t with
 |some (.struct _)=>some true
 |some (.array _ _)=>some true
 |some _=>some false
 |none=>none
def eV(t:TypeId):jo:=(P.inf t).map (·.size)
def p4(t:TypeId):Option bl:=match(P.inf t).bind (·.zero) with
 |some z=>mr z
 |none=>none
def sV(t:TypeId):Option cv:=match p4 P t with
 |some .undef=>none
 |some (.agg _ l)=>some l
 |some v=>some [v]
 |none=>none
def va(t:TypeId):jo:=(P.inf t).map (·.bytes)
end types
structure fO where
 g:cv->b4->bl
structure ahB where
 g:cv->b4->cv
structure Wp where
 N:b4->bl->(b4->Bool)->Bool
abbrev cG:=Nat->cv->bd->(r9->bd->Bool)->Bool
def Fz:Nat->fO
 |0=>⟨λL _=>aJ L⟩
 |1=>⟨λL _=>aJ (oa L)⟩
 |2=>⟨λL _=>aJ (oa (oa L))⟩
 |n+3=>match Fz n with
  |⟨g⟩=>⟨λL T=>g (oa (oa (oa L))) T⟩
def afP(a:vj bl)(b:SD):fO:=match a,b with
 |⟨da,_⟩,⟨cC,_⟩=>⟨λ_ T=>da (cC T)⟩
def ZW(s:Nat):fO:=afP (bQ (dG (s % 8))) (slt (dG (s / 8 % 8)))
def ajX(a:vj bl)(b:SD):Wp:=match a,b with
 |⟨_,B8⟩,⟨_,rF⟩=>⟨λT v k=>rF T (λt k=>B8 t (λ_ k=>k v) k) k⟩
def xZ(s:Nat):Wp:=ajX (bQ (dG (s % 8))) (slt (dG (s / 8 % 8)))
def i2(t:Nat)(l:aO):jo:=yb t l 0
def jp(t:Nat):dv->jo
 |[]=>none
 |some a::l=>match Nat.beq a t with
  |true=>some 0
  |false=>(jp t l).map (· +1)
 |none::l=>(jp t l).map (· +1)
def Hi:fO:=⟨λ_ _=>.any⟩
def ki(es:aO)(ae:dv)(t:Nat):fO:=
 match jp t ae with
 |some i=>Fz i
 |none=>match i2 t es with
  |some s=>match Nat.blt s 64 with
   |true=>ZW s
   |false=>Hi
  |none=>Hi
def N4(v:bl):fO:=⟨λ_ _=>v⟩
def db(es:aO)(ae:dv):Operand->fO
 |.tmp t=>ki es ae t
 |.const v=>match mr v with
  |some v=>N4 v
  |none=>Hi
 |.func f=>N4 (.fn f [] [])
 |.global _=>Hi
def ol(es:aO)(ae:dv):List Operand->ahB
 |[]=>⟨λ_ _=>[]⟩
 |x::l=>match db es ae x,ol es ae l with
  |⟨g⟩,⟨hH⟩=>⟨λL T=>g L T::hH L T⟩
structure nn where
 f:cv->b4->(bl->Bool)->Bool
def kh:nn:=⟨λ_ _ _=>false⟩
structure TT where
 f:Nat->Nat->(bl->Bool)->Bool
def Ll:TT:=⟨λ_ _ _=>false⟩
def Is:BinOp->Bool
 |.rem=>true
 |_=>false
def nj(bg a b:Nat):Nat:=Nat.mod (Nat.add a b) bg
def Ov(bg a b:Nat):Nat:=Nat.mod (Nat.sub (Nat.add a bg) b) bg
def Ht(bg a b:Nat):Nat:=Nat.mod (Nat.mul a b) bg
def HG(h bg a b:Nat):Bool:=Nat.blt (Nat.mod (Nat.add a h) bg) (Nat.mod (Nat.add b h) bg)
def JY(h bg a b:Nat):Bool:=Nat.ble (Nat.mod (Nat.add a h) bg) (Nat.mod (Nat.add b h) bg)
def k4(op:BinOp)(c bg h:Nat):TT:=
 match op with
 |.add=>⟨λa b k=>e5 (nj bg a b) λr=>k (.int c r)⟩
 |.sub=>⟨λa b k=>e5 (Ov bg a b) λr=>k (.int c r)⟩
 |.mul=>⟨λa b k=>e5 (Ht bg a b) λr=>k (.int c r)⟩
 |.quo=>⟨λa b k=>a7 (Nat.blt a h) (a7 (Nat.blt b h) (a7 (Nat.beq b 0) false (e5 (Nat.div a b) λr=>k (.int c r))) false) false⟩
 |.rem=>⟨λa b k=>a7 (Nat.blt a h) (a7 (Nat.blt b h) (a7 (Nat.beq b 0) false (e5 (Nat.mod a b) λr=>k (.int c r))) false) false⟩
 |.and=>⟨λa b k=>e5 (Nat.land a b) λr=>k (.int c r)⟩
 |.or=>⟨λa b k=>e5 (Nat.lor a b) λr=>k (.int c r)⟩
 |.xor=>⟨λa b k=>e5 (Nat.xor a b) λr=>k (.int c r)⟩
 |.eql=>⟨λa b k=>lX (Nat.beq a b) λr=>k (.bool r)⟩
 |.neq=>⟨λa b k=>a7 (Nat.beq a b) (k (.bool false)) (k (.bool true))⟩
 |.lss=>match Nat.beq h bg with
  |true=>⟨λa b k=>lX (Nat.blt a b) λr=>k (.bool r)⟩
  |false=>⟨λa b k=>lX (HG h bg a b) λr=>k (.bool r)⟩
 |.leq=>match Nat.beq h bg with
  |true=>⟨λa b k=>lX (Nat.ble a b) λr=>k (.bool r)⟩
  |false=>⟨λa b k=>lX (JY h bg a b) λr=>k (.bool r)⟩
 |.gtr=>match Nat.beq h bg with
  |true=>⟨λa b k=>lX (Nat.blt b a) λr=>k (.bool r)⟩
  |false=>⟨λa b k=>lX (HG h bg b a) λr=>k (.bool r)⟩
 |.geq=>match Nat.beq h bg with
  |true=>⟨λa b k=>lX (Nat.ble b a) λr=>k (.bool r)⟩
  |false=>⟨λa b k=>lX (JY h bg b a) λr=>k (.bool r)⟩
 |_=>Ll
def vh(op:BinOp)(c:Nat)(x y:fO):nn:=
 match op with
 |.shl=>match x,y with
  |⟨x⟩,⟨y⟩=>⟨λL T k=>gy (x L T) λdz a=>gy (y L T) λgg b=>a7 (Nat.beq dz c) (a7 (Nat.ble b 64) (e5 (Nat.mod (Nat.mul a (Nat.pow 2 b)) (cp c)) λr=>k (.int c r)) false) false⟩
 |.shr=>match x,y with
  |⟨x⟩,⟨y⟩=>⟨λL T k=>gy (x L T) λdz a=>gy (y L T) λgg b=>a7 (Nat.beq dz c) (a7 (Nat.ble b 64) (a7 (Nat.blt a (dL c)) (e5 (Nat.div a (Nat.pow 2 b)) λr=>k (.int c r)) false) false) false⟩
 |_=>match Is op,x,y,k4 op c (cp c) (dL c) with
  |false,⟨x⟩,⟨y⟩,⟨f⟩=>⟨λL T k=>gy (x L T) λdz a=>gy (y L T) λgg b=>a7 (Nat.beq dz c) (a7 (Nat.beq gg c) (f a b k) false) false⟩
  |true,⟨x⟩,⟨y⟩,⟨f⟩=>⟨λL T k=>AS (x L T) (λdz a=>gy (y L T) λgg b=>a7 (Nat.beq dz c) (a7 (Nat.beq gg c) (f a b k) false) false)
   λdz m r=>gy (y L T) λgg b=>a7 (Nat.beq (Nat.mod dz 8) c) (a7 (Nat.beq gg c) (a7 (Nat.ble 4 dz) (a7 (Nat.beq b m) (a7 (Nat.blt 0 m) (a7 (Nat.blt b (dL c)) (k (.int c r)) false) false) false) false) false) false⟩
def zA(l n aM cx:Nat):Bool:=a7 (Nat.beq l aM) (Nat.beq (Nat.mod n (jO l)) (Nat.mod cx (jO l))) false
def A9:Nat->Nat->Nat->Nat->Bool
 |_,_,0,_=>false
 |0,_,_+1,_=>true
 |l+1,n,aM+1,cx=>a7 (Nat.blt (Nat.mod n 256) (Nat.mod cx 256)) true (a7 (Nat.beq (Nat.mod n 256) (Nat.mod cx 256)) (A9 l (Nat.div n 256) aM (Nat.div cx 256)) false)
def x6(op:BinOp)(x y:fO):nn:=
 match x,y with
 |⟨x⟩,⟨y⟩=>match op with
  |.add=>⟨λL T k=>hK (x L T) λl n=>hK (y L T) λaM cx=>a7 (Nat.ble (Nat.add l aM) 1152921504606846976)
   (e5 (Nat.add l aM) λs=>e5 (Nat.add (Nat.mod n (jO l)) (Nat.mul cx (jO l))) λm=>k (.str s m)) false⟩
  |.eql=>⟨λL T k=>hK (x L T) λl n=>hK (y L T) λaM cx=>lX (zA l n aM cx) λr=>k (.bool r)⟩
  |.neq=>⟨λL T k=>hK (x L T) λl n=>hK (y L T) λaM cx=>a7 (zA l n aM cx) (k (.bool false)) (k (.bool true))⟩
  |.lss=>⟨λL T k=>hK (x L T) λl n=>hK (y L T) λaM cx=>lX (A9 l n aM cx) λr=>k (.bool r)⟩
  |.gtr=>⟨λL T k=>hK (x L T) λl n=>hK (y L T) λaM cx=>a7 (A9 l n aM cx) (k (.bool false)) (a7 (zA l n aM cx) (k (.bool false)) (k (.bool true)))⟩
  |.leq=>⟨λL T k=>hK (x L T) λl n=>hK (y L T) λaM cx=>a7 (A9 l n aM cx) (k (.bool true)) (lX (zA l n aM cx) λr=>k (.bool r))⟩
  |.geq=>⟨λL T k=>hK (x L T) λl n=>hK (y L T) λaM cx=>a7 (A9 l n aM cx) (k (.bool false)) (k (.bool true))⟩
  |_=>kh
def y2(op:BinOp)(x y:fO):nn:=
 match x,y with
 |⟨x⟩,⟨y⟩=>match op with
  |.eql=>⟨λL T k=>mi (x L T) λa=>mi (y L T) λb=>a7 a (lX b λr=>k (.bool r)) (a7 b (k (.bool false)) (k (.bool true)))⟩
  |.neq=>⟨λL T k=>mi (x L T) λa=>mi (y L T) λb=>a7 a (a7 b (k (.bool false)) (k (.bool true))) (lX b λr=>k (.bool r))⟩
  |_=>kh
def Ao(c:oJ):Operand->Bool
 |.const v=>match mr v with
  |some (.nil fo)=>decide (c=fo)
  |_=>false
 |_=>false
def uA(eq:Bool)(c:oJ)(x:fO):nn:=
 match x,eq,c with
 |⟨x⟩,true,.N=>⟨λL T k=>Fu (x L T) (k (.bool true)) (k (.bool false))⟩
 |⟨x⟩,false,.N=>⟨λL T k=>Fu (x L T) (k (.bool false)) (k (.bool true))⟩
 |⟨x⟩,true,.s=>⟨λL T k=>FE (x L T) (k (.bool true)) (k (.bool false))⟩
 |⟨x⟩,false,.s=>⟨λL T k=>FE (x L T) (k (.bool false)) (k (.bool true))⟩
 |⟨x⟩,true,.m=>⟨λL T k=>FQ (x L T) (k (.bool true)) (k (.bool false))⟩
 |⟨x⟩,false,.m=>⟨λL T k=>FQ (x L T) (k (.bool false)) (k (.bool true))⟩
 |⟨x⟩,true,.f=>⟨λL T k=>Fw (x L T) (k (.bool true)) (k (.bool false))⟩
 |⟨x⟩,false,.f=>⟨λL T k=>Fw (x L T) (k (.bool false)) (k (.bool true))⟩
 |⟨x⟩,true,.i=>⟨λL T k=>D4 (x L T) (k (.bool true)) (k (.bool false))⟩
 |⟨x⟩,false,.i=>⟨λL T k=>D4 (x L T) (k (.bool false)) (k (.bool true))⟩
def uL(op:BinOp)(c:oJ)(x y:Operand)(ce ee:fO):nn:=
 match op,Ao c x,Ao c y with
 |.eql,_,true=>uA true c ce
 |.eql,true,false=>uA true c ee
 |.neq,_,true=>uA false c ce
 |.neq,true,false=>uA false c ee
 |_,_,_=>kh
def CL(P:dy)(op:BinOp)(t:TypeId)(x y:Operand)(ce ee:fO):nn:=
 match P.ek t with
 |some (.int k)=>vh op (cq k) ce ee
 |some .string=>x6 op ce ee
 |some .bool=>y2 op ce ee
 |some (.pointer _)=>uL op .N x y ce ee
 |some (.slice _)=>uL op .s x y ce ee
 |some (.map _ _)=>uL op .m x y ce ee
 |some (.func ..)=>uL op .f x y ce ee
 |some (.interface _)=>uL op .i x y ce ee
 |_=>kh
def DA(op:UnOp)(x:fO):nn:=
 match x with
 |⟨x⟩=>match op with
  |.not=>⟨λL T k=>mi (x L T) λb=>a7 b (k (.bool false)) (k (.bool true))⟩
  |.neg=>⟨λL T k=>gy (x L T) λc a=>e5 (Nat.mod (Nat.sub (cp c) a) (cp c)) λr=>k (.int c r)⟩
  |_=>kh
def Ci(P:dy)(s d:TypeId)(x:fO):nn:=
 match x with
 |⟨x⟩=>match P.ek s,P.ek d with
  |some (.int k),some (.int c8)=>match cq k,cq c8 with
   |c,fo=>match Nat.ble (cp fo) (cp c) with
    |true=>⟨λL T k=>gy (x L T) λdz a=>a7 (Nat.beq dz c) (e5 (Nat.mod a (cp fo)) λr=>k (.int fo r)) false⟩
    |false=>⟨λL T k=>AS (x L T) (λdz a=>a7 (Nat.beq dz c) (a7 (Nat.blt a (dL c)) (k (.int fo a)) false) false) λdz m r=>a7 (Nat.beq dz c) (a7 (Nat.ble 4 c) (k (.p1 (8+fo) m r)) false) false⟩
  |some .string,some .string=>⟨λL T k=>hK (x L T) λl n=>k (.str l n)⟩
  |_,_=>kh
def od(v:bl)(b:Nat)(k:Nat->Bool):Bool:=gy v λc n=>a7 (Nat.ble 3 c) (a7 (Nat.blt n b) (k n) false) false
def U5(v:bl)(b:Nat)(k:Nat->Bool):Bool:=gy v λc n=>a7 (Nat.beq c 3) (a7 (Nat.blt n b) (k n) false) false
def jR(v:bl)(n:Nat)(k:cv->Bool):Bool:=
 q6 v (a7 (Nat.beq n 1) (k [v]) false) (λm l=>a7 (Nat.beq m n) (k l) false)
def vy(l:cv)(i:Nat)(k:bl->Bool):Bool:=pc l i λr=>kg r false λv _=>k v
structure ane where
 f:cv->(bl->Bool)->Bool
def wH(P:dy)(t:TypeId)(aT:Nat):ane:=
 match rp P t,eV P t with
 |some true,some n=>⟨λl k=>pc l aT λr=>rN r n λr=>k (.agg n r)⟩
 |some false,some _=>⟨λl k=>vy l aT k⟩
 |_,_=>⟨λ_ _=>false⟩
def Cu(P:dy)(t:TypeId)(f:Nat)(x:fO):nn:=
 match P.ek t with
 |some (.struct cz)=>match cz[f]? with
  |some fd=>match x,wH P fd.type fd.offset with
   |⟨x⟩,⟨N⟩=>⟨λL T k=>vA (x L T) λ_ l=>N l k⟩
  |none=>kh
 |_=>kh
def Bu(P:dy)(t:TypeId)(f:Nat)(x:fO):nn:=
 match P.ek t with
 |some (.struct cz)=>match cz[f]? with
  |some fd=>match x,eV P fd.type,fd.offset with
   |⟨x⟩,some (_+1),aT=>⟨λL T k=>sA (x L T) λa r s z=>e5 (Nat.add s aT) λs=>k (.ptr a r s z)⟩
   |_,_,_=>kh
  |none=>kh
 |_=>kh
def Bo(P:dy)(t:TypeId)(x i:fO):nn:=
 match x,i with
 |⟨x⟩,⟨i⟩=>match P.ek t with
  |some .string=>⟨λL T k=>hK (x L T) λl n=>od (i L T) l λM=>e5 (Nat.land (Nat.shiftRight n (Nat.mul 8 M)) 255) λb=>k (.int 4 b)⟩
  |some (.array len e)=>match wH P e 0,eV P e,Nat.blt len 2147483648 with
   |⟨N⟩,some s,true=>⟨λL T k=>vA (x L T) λ_ l=>od (i L T) len λM=>pc l (Nat.mul M s) λr=>N r k⟩
   |_,_,_=>kh
  |_=>kh
def CK(P:dy)(t:TypeId)(x i:fO):nn:=
 match x,i with
 |⟨x⟩,⟨i⟩=>match P.ek t with
  |some (.slice e)=>match eV P e with
   |some (m+1)=>⟨λL T k=>Ab (x L T) λa dE l c u z=>od (i L T) l λM=>a7 (Nat.beq z (m+1)) (e5 (Nat.add dE M) λr=>k (.ptr a r 0 z)) false⟩
   |_=>kh
  |some (.array len e)=>match eV P e,Nat.blt len 2147483648 with
   |some (m+1),true=>⟨λL T k=>sA (x L T) λa r s z=>od (i L T) len λM=>e5 (Nat.add s (Nat.mul M (m+1))) λs=>k (.ptr a r s z)⟩
   |_,_=>kh
  |_=>kh
structure aej where
 f:cv->b4->Nat->(Nat->Bool)->Bool
def v7(es:aO)(ae:dv):Option Operand->aej
 |none=>⟨λ_ _ d k=>k d⟩
 |some x=>match db es ae x with
  |⟨g⟩=>⟨λL T _ k=>od (g L T) 2147483648 k⟩
def CH(P:dy)(t:TypeId)(x:fO)(g8 aH:aej):nn:=
 match x,g8,aH with
 |⟨x⟩,⟨g8⟩,⟨aH⟩=>match P.ek t with
  |some .string=>⟨λL T k=>hK (x L T) λl n=>aH L T l λM=>g8 L T 0 λi=>a7 (Nat.ble M l) (a7 (Nat.ble i M)
   (e5 (Nat.sub M i) λm=>e5 (Nat.shiftRight n (Nat.mul 8 i)) λn=>k (.str m n)) false) false⟩
  |some (.slice e)=>match eV P e with
   |some (m+1)=>⟨λL T k=>tw (x L T) (aH L T 0 λM=>g8 L T 0 λi=>a7 (Nat.beq M 0) (a7 (Nat.beq i 0) (k (.nil .s)) false) false)
    λa dE l c u z=>a7 (Nat.beq z (m+1)) (aH L T l λM=>g8 L T 0 λi=>a7 (Nat.ble i M)
     (a7 u (a7 (Nat.ble M l) (a7 (Nat.blt i M) (e5 (Nat.add dE i) λdE=>e5 (Nat.sub M i) λl=>k (.slice a dE l (Nat.add c i) true z))
      (a7 (Nat.beq i 0) (k (.slice a dE 0 c true z)) (k .any))) false)
      (a7 (Nat.ble M c) (a7 (Nat.blt i c) (e5 (Nat.add dE i) λdE=>e5 (Nat.sub M i) λl=>e5 (Nat.sub c i) λc=>k (.slice a dE l c false z))
       (k (.slice a dE 0 0 false z))) false)) false) false⟩
   |_=>kh
  |_=>kh
def J3(x:fO)(i:Nat):nn:=
 match x with
 |⟨x⟩=>⟨λL T k=>Bt (x L T) λl=>vy l i k⟩
def I2(P:dy)(t:TypeId)(ok:Bool)(x:fO):nn:=
 match x with
 |⟨x⟩=>match P.ek t with
  |some (.interface _)=>kh
  |some _=>match ok,p4 P t with
   |true,some z=>⟨λL T k=>HC (x L T) (k (.eJ [z,.bool false])) λu v=>a7 (Nat.beq u t) (k (.eJ [v,.bool true])) (k (.eJ [z,.bool false]))⟩
   |false,_=>⟨λL T k=>Gn (x L T) λu v=>a7 (Nat.beq u t) (k v) false⟩
   |_,_=>kh
  |none=>kh
def In(P:dy)(t:TypeId)(x:fO):nn:=
 match x with
 |⟨x⟩=>match P.ek t with
  |some (.interface _)=>kh
  |some _=>⟨λL T k=>k (.iface t (x L T))⟩
  |none=>kh
structure C2 where
 f:cv->b4->(cv->Bool)->Bool
def partOf(i:Nat):List (Nat×fO)->Option fO
 |[]=>none
 |(M,g)::l=>match partOf i l with
  |some g=>some g
  |none=>match Nat.beq i M with
   |true=>some g
   |false=>none
def By:cv->C2->C2
 |[],r=>r
 |a::l,r=>match By l r with
  |⟨r⟩=>⟨λL T k=>r L T λq=>k (a::q)⟩
def tL(P:dy)(parts:List (Nat×fO)):Nat->List Field->cv->Option C2
 |_,[],[]=>some ⟨λ_ _ k=>k []⟩
 |_,[],_::_=>none
 |i,fd::l,z=>match eV P fd.type with
  |some s=>match Nat.ble s z.length,tL P parts (i+1) l (z.drop s),partOf i parts with
   |true,some ⟨r⟩,some ⟨g⟩=>some ⟨λL T k=>jR (g L T) s λc=>r L T λq=>nx c q k⟩
   |true,some r,none=>some (By (z.take s) r)
   |_,_,_=>none
  |none=>none
def CA(P:dy):Nat->List Field->Bool
 |_,[]=>true
 |D,fd::l=>match eV P fd.type with
  |some s=>match Nat.beq fd.offset D with
   |true=>CA P (D+s) l
   |false=>false
  |none=>false
def kR:aO->Bool
 |[]=>true
 |a::l=>match l.contains a with
  |true=>false
  |false=>kR l
def qb(es:aO)(ae:dv):List (Nat×Operand)->List (Nat×fO)
 |[]=>[]
 |(i,x)::l=>(i,db es ae x)::qb es ae l
def C5(P:dy)(t:TypeId)(parts:List (Nat×fO)):nn:=
 match P.ek t with
 |some (.struct cz)=>match CA P 0 cz.toList&&kR (parts.map Prod.fst)&&parts.all (λN=>Nat.blt N.1 cz.toList.length),p4 P t with
  |true,some (.agg n l)=>match tL P parts 0 cz.toList l with
   |some ⟨r⟩=>⟨λL T k=>r L T λl=>k (.agg n l)⟩
   |none=>kh
  |_,_=>kh
 |_=>kh
def Bq(P:dy)(t:TypeId)(x:fO):nn:=
 match x with
 |⟨x⟩=>match P.ek t with
  |some .string=>⟨λL T k=>hK (x L T) λl _=>k (.int 3 l)⟩
  |some (.slice _)=>⟨λL T k=>tw (x L T) (k (.int 3 0)) λ_ _ l _ _ _=>k (.int 3 l)⟩
  |some (.array n _)=>match Nat.blt n 2147483648 with
   |true=>⟨λL T k=>k (.int 3 n)⟩
   |false=>kh
  |_=>kh
def nZ(a b:Nat):Bool:=Nat.blt (Nat.mod (Nat.add a 9223372036854775808) 18446744073709551616) (Nat.mod (Nat.add b 9223372036854775808) 18446744073709551616)
def o5(bE:Bool):List fO->Option nn
 |[]=>none
 |[⟨x⟩]=>some ⟨λL T k=>gy (x L T) λc n=>a7 (Nat.beq c 3) (k (.int 3 n)) false⟩
 |⟨x⟩::l=>match o5 bE l,bE with
  |some ⟨r⟩,true=>some ⟨λL T k=>gy (x L T) λc n=>a7 (Nat.beq c 3) (r L T λv=>gy v λ_ m=>a7 (nZ n m) (k (.int 3 m)) (k (.int 3 n))) false⟩
  |some ⟨r⟩,false=>some ⟨λL T k=>gy (x L T) λc n=>a7 (Nat.beq c 3) (r L T λv=>gy v λ_ m=>a7 (nZ m n) (k (.int 3 m)) (k (.int 3 n))) false⟩
  |none,_=>none
def sY(P:dy)(es:aO)(ae:dv)(op:Op):nn:=
 match op with
 |.move x=>match db es ae x with
  |⟨g⟩=>⟨λL T k=>k (g L T)⟩
 |.assign x=>match db es ae x with
  |⟨g⟩=>⟨λL T k=>k (g L T)⟩
 |.pick c a b=>match db es ae c,db es ae a,db es ae b with
  |⟨c⟩,⟨a⟩,⟨b⟩=>⟨λL T k=>mi (c L T) λv=>a7 v (k (a L T)) (k (b L T))⟩
 |.build t cg=>C5 P t (qb es ae cg.toList)
 |.nilCheck x=>match db es ae x with
  |⟨g⟩=>⟨λL T k=>BY (g L T) (k (g L T))⟩
 |.binOp op t x y _=>CL P op t x y (db es ae x) (db es ae y)
 |.unOp op _ x=>DA op (db es ae x)
 |.convert s d x=>Ci P s d (db es ae x)
 |.makeInterface t x=>In P t (db es ae x)
 |.makeFunc (.func f) bY bJ=>match ol es ae bY.toList,ol es ae bJ.toList with
  |⟨bY⟩,⟨bJ⟩=>⟨λL T k=>k (.fn f (bY L T) (bJ L T))⟩
 |.slice t x g8 aH none=>CH P t (db es ae x) (v7 es ae g8) (v7 es ae aH)
 |.fieldAddr t x f=>Bu P t f (db es ae x)
 |.field t x f=>Cu P t f (db es ae x)
 |.indexAddr t x i=>CK P t (db es ae x) (db es ae i)
 |.index t x i=>Bo P t (db es ae x) (db es ae i)
 |.extract x i=>J3 (db es ae x) i
 |.typeAssert x _ t ok=>I2 P t ok (db es ae x)
 |.call c=>match c.callee,c.argTypes.toList,c.args.toList with
  |.builtin .len,[t],[x]=>Bq P t (db es ae x)
  |.builtin .max,_,l=>match o5 true (l.map (db es ae)) with
   |some r=>r
   |none=>kh
  |.builtin .min,_,l=>match o5 false (l.map (db es ae)) with
   |some r=>r
   |none=>kh
  |_,_,_=>kh
 |_=>kh
structure o9 where
 f:cv->b4->(gB->(Nat->bl)->Bool)->Bool
def vi:o9:=⟨λ_ _ _=>false⟩
def FM(el z:Nat)(aF:cv):gB:=.cells (.fG aF) 1 z el false false
def aZ:cS cv:=cS.all []
def aN:cS (cS cv):=cS.all aZ
def c9:cS (cS (cS cv)):=cS.all aN
def AE(n:Nat):Option Rows:=
 match Nat.ble n 1 with
 |true=>some (.fG [])
 |false=>match Nat.ble n 8 with
  |true=>some (.dc aZ)
  |false=>match Nat.ble n 64 with
   |true=>some (.cl aN)
   |false=>match Nat.ble n 512 with
    |true=>some (.hD c9)
    |false=>some (.j3 (λ_=>[]) n)
def yv(n:Nat)(k:Rows->Bool):Bool:=match AE n with
 |some am=>k am
 |none=>false
structure ZZ where
 f:cv->b4->(ql->Bool)->Bool
def BD(s:Nat):Nat->List (Nat×fO)->Option ZZ
 |_,[]=>some ⟨λ_ _ k=>k []⟩
 |i,(M,⟨g⟩)::l=>match Nat.beq i M,BD s (i+1) l with
  |true,some ⟨r⟩=>some ⟨λL T k=>jR (g L T) s λc=>r L T λq=>k (c::q)⟩
  |_,_=>none
def xz(P:dy)(es:aO)(ae:dv)(op:Op):o9:=
 match op with
 |.alloc el=>match sV P el,eV P el with
  |some z,some (n+1)=>match Nat.beq z.length (n+1) with
   |true=>⟨λ_ _ k=>k (FM el (n+1) z) λa=>.ptr a 0 0 (n+1)⟩
   |false=>vi
  |_,_=>vi
 |.box el x=>match db es ae x,eV P el with
  |⟨g⟩,some (n+1)=>⟨λL T k=>jR (g L T) (n+1) λc=>k (FM el (n+1) c) λa=>.ptr a 0 0 (n+1)⟩
  |_,_=>vi
 |.buildSlice t n cg=>match P.ek t with
  |some (.slice e)=>match eV P e,cg.toList.length,AE n with
   |some (s+1),m,some am=>match Nat.beq m n&&Nat.ble (n*(s+1)) 100000&&(p4 P e).isSome,BD (s+1) 0 (qb es ae cg.toList) with
    |true,some ⟨r⟩=>⟨λL T k=>r L T λl=>uB l am 0 λam=>k (.cells am n (s+1) e false false) λa=>.slice a 0 n n false (s+1)⟩
    |_,_=>vi
   |_,_,_=>vi
  |_=>vi
 |.makeSlice t l c=>match P.ek t with
  |some (.slice e)=>match eV P e,sV P e,va P e,db es ae l,db es ae c with
   |some (s+1),some z,some b,⟨l⟩,⟨c⟩=>match Nat.beq z.length (s+1)&&Nat.ble b 1000 with
    |true=>⟨λL T k=>od (l L T) 513 λn=>od (c L T) 513 λm=>a7 (Nat.ble n m)
     (yv m λam=>uB (List.replicate m z) am 0 λam=>k (.cells am m (s+1) e false false) λa=>.slice a 0 n m false (s+1)) false⟩
    |false=>vi
   |_,_,_,_,_=>vi
  |_=>vi
 |.makeMap t none=>match P.ek t with
  |some (.map _ _)=>⟨λ_ _ k=>k (.map [] 0) λa=>.map a⟩
  |_=>vi
 |_=>vi
structure Eh where
 f:cG->cv->b4->bd->(bl->bd->Bool)->(bl->bd->Bool)->Bool
def sq:Eh:=⟨λ_ _ _ _ _ _=>false⟩
def zR(H:bd)(a:Nat)(k:gB->Bool):Bool:=Ec H λ_ t=>k ((hp a).g t)
def qq(H:bd)(a:Nat)(D:gB)(k:bd->Bool):Bool:=Ec H λlT t=>(hp a).u t D λt=>k ⟨lT,t⟩
def sJ(H:bd)(D:gB)(k:Nat->bd->Bool):Bool:=
 Ec H λlT t=>(hp lT).u t D λt=>k lT ⟨Nat.succ lT,t⟩
structure Oq where
 f:bl->bd->(bl->Bool)->Bool
def akD:Oq:=⟨λ_ _ _=>false⟩
def rowOf(N:bl)(H:bd)(k:Nat->Nat->cv->Bool):Bool:=
 sA N λa r s z=>zR H a λD=>yq D λam n cI _ _ _=>a7 (Nat.blt r n) (a7 (Nat.beq z cI) (rowAt am r λaF=>k s z aF) false) false
def il(P:dy)(t:TypeId):Oq:=
 match rp P t,eV P t with
 |some true,some n=>⟨λN H k=>rowOf N H λs z aF=>a7 (Nat.beq n z) (a7 (Nat.beq s 0) (k (.agg n aF)) false) (pc aF s λq=>rN q n λq=>k (.agg n q))⟩
 |some false,some 1=>⟨λN H k=>rowOf N H λs z aF=>vy aF s k⟩
 |_,_=>akD
structure WU where
 f:bl->bl->bd->(bd->Bool)->Bool
def afk:WU:=⟨λ_ _ _ _=>false⟩
def oy(P:dy)(t:TypeId):WU:=
 match eV P t with
 |some (m+1)=>⟨λN v H k=>sA N λa r s z=>jR v (m+1) λc=>zR H a λD=>yq D λam n cI el u dK=>a7 dK false (a7 (Nat.blt r n) (a7 (Nat.beq z cI)
  (a7 (Nat.beq (m+1) z) (a7 (Nat.beq s 0) (setRow am r c λam=>qq H a (.cells am n z el u dK) k) false)
   (rowAt am r λaF=>rN aF s λq=>pc aF (Nat.add s (m+1)) λw=>nx c w λw=>nx q w λaF=>setRow am r aF λam=>qq H a (.cells am n z el u dK) k)) false) false)⟩
 |_=>afk
def grow(am:Rows)(n:Nat)(k:Rows->Bool):Bool:=
 Tv am
  (λr=>a7 (Nat.ble n 1) (k am) (a7 (Nat.ble n 8) (k (.dc ⟨r,[],[],[],[],[],[],[]⟩)) (a7 (Nat.ble n 64) (k (.cl ⟨⟨r,[],[],[],[],[],[],[]⟩,aZ,aZ,aZ,aZ,aZ,aZ,aZ⟩))
   (a7 (Nat.ble n 512) (k (.hD ⟨⟨⟨r,[],[],[],[],[],[],[]⟩,aZ,aZ,aZ,aZ,aZ,aZ,aZ⟩,aN,aN,aN,aN,aN,aN,aN⟩)) (k (.j3 (λ_=>r) n))))))
  (λt=>a7 (Nat.ble n 8) (k am) (a7 (Nat.ble n 64) (k (.cl ⟨t,aZ,aZ,aZ,aZ,aZ,aZ,aZ⟩))
   (a7 (Nat.ble n 512) (k (.hD ⟨⟨t,aZ,aZ,aZ,aZ,aZ,aZ,aZ⟩,aN,aN,aN,aN,aN,aN,aN⟩)) (k (.j3 (λi=>(n0 i).g1 t) n)))))
  (λt=>a7 (Nat.ble n 64) (k am) (a7 (Nat.ble n 512) (k (.hD ⟨t,aN,aN,aN,aN,aN,aN,aN⟩)) (k (.j3 (λi=>(n0 i).g2 t) n))))
  (λt=>a7 (Nat.ble n 512) (k am) (k (.j3 (λi=>(n0 i).g3 t) n)))
  (λg c=>a7 (Nat.ble n c) (k am) (k (.j3 g n)))
def vJ:Nat->Nat->ql
 |0,_=>[]
 |l+1,n=>[.int 4 (Nat.mod n 256)]::vJ l (Nat.div n 256)
def r6(Bc:Nat)(v:bl)(H:bd)(k:Nat->ql->Bool):Bool:=
 tw v (k 0 []) λa i l _ _ z=>a7 (Nat.beq l 0) (k 0 []) (a7 (Nat.beq z Bc) (zR H a λD=>yq D λam n cI _ _ _=>a7 (Nat.ble (Nat.add i l) n) (a7 (Nat.beq z cI) (a7 (Nat.ble l 2147483647) (ya am l i λr=>k l r) false) false) false) false)
def Au(e z:Nat)(n:Nat)(l:ql)(H:bd)(k:bl->bd->Bool):Bool:=
 yv n λam=>uB l am 0 λam=>sJ H (.cells am n z e true false) λa H=>k (.slice a 0 n 0 true z) H
def sz(e z b:Nat)(x:bl)(m:Nat)(l:ql)(H:bd)(k:bl->bd->Bool):Bool:=
 tw x (a7 (Nat.beq m 0) (k (.nil .s) H) (a7 (Nat.ble (Nat.mul m b) 2147483647) (Au e z m l H k) false))
  λa i len c u cI=>zR H a λD=>yq D λam n VF el fa dK=>a7 dK false (a7 (Nat.beq el e) (a7 (Nat.beq z cI) (a7 (Nat.beq z VF) (e5 (Nat.add len m) λbT=>a7 (Nat.ble (Nat.mul bT b) 2147483647)
   (a7 u
    (a7 fa (a7 (Nat.beq i 0) (a7 (Nat.beq c 0) (a7 (Nat.beq len n) (grow am bT λam=>uB l am len λam=>qq H a .dead λH=>sJ H (.cells am bT z e true false) λa H=>k (.slice a 0 bT 0 true z) H) false) false) false) false)
    (a7 fa false (a7 (Nat.ble bT c) (a7 (Nat.ble (Nat.add i bT) n) (uB l am (Nat.add i len) λam=>qq H a (.cells am n z el fa dK) λH=>k (.slice a i bT c false z) H) false)
     (a7 (Nat.ble (Nat.add i len) n) (ya am len i λkK=>nx kK l λl=>Au e z bT l H k) false)))) false) false) false) false)
def xk(P:dy)(t a6:TypeId)(x y:fO):Eh:=
 match x,y with
 |⟨x⟩,⟨y⟩=>match P.ek t with
  |some (.slice e)=>match eV P e,va P e,(sV P e).map (·.length) with
   |some (s+1),some (b+1),some q=>match Nat.beq q (s+1),P.ek a6 with
    |true,some (.slice _)=>match Nat.beq t a6 with
     |true=>⟨λ_ L T H k _=>r6 (s+1) (y L T) H λm l=>sz e (s+1) (b+1) (x L T) m l H k⟩
     |false=>sq
    |true,some .string=>match P.ek e,s with
     |some (.int .u8),0=>⟨λ_ L T H k _=>hK (y L T) λl n=>a7 (Nat.ble l 2147483647) (sz e 1 (b+1) (x L T) l (vJ l n) H k) false⟩
     |_,_=>sq
    |_,_=>sq
   |_,_,_=>sq
  |_=>sq
def SC(P:dy)(t a6:TypeId)(x y:fO):Eh:=
 match x,y with
 |⟨x⟩,⟨y⟩=>match P.ek t,P.ek a6 with
  |some (.slice e),some (.slice ci)=>match eV P e,Nat.beq e ci with
   |some (s+1),true=>⟨λ_ L T H k _=>Ab (x L T) λa i len c u z=>r6 (s+1) (y L T) H λm l=>zR H a λD=>yq D λam n cI el fa dK=>a7 dK false (a7 (Nat.beq z cI) (a7 (Nat.beq z (s+1)) (a7 (Nat.ble m len) (a7 (Nat.ble (Nat.add i m) n) (uB l am i λam=>qq H a (.cells am n z el fa dK) λH=>k (.int 3 m) H) false) false) false) false)⟩
   |_,_=>sq
  |_,_=>sq
def B3:ql->(Nat->Nat->Bool)->Bool
 |[],k=>k 0 0
 |r::l,k=>kg r false λv _=>gy v λc n=>a7 (Nat.beq c 4) (B3 l λlen num=>e5 (Nat.add n (Nat.mul 256 num)) λnum=>k (Nat.succ len) num) false
def GQ(P:dy)(s d:TypeId)(x:fO):Eh:=
 match x with
 |⟨x⟩=>match P.ek s,P.ek d with
  |some (.slice e),some .string=>match P.ek e,eV P e with
   |some (.int .u8),some 1=>⟨λ_ L T H k _=>r6 1 (x L T) H λ_ l=>B3 l λlen num=>k (.str len num) H⟩
   |_,_=>sq
  |some .string,some (.slice e)=>match P.ek e,eV P e with
   |some (.int .u8),some 1=>⟨λ_ L T H k _=>hK (x L T) λl n=>a7 (Nat.ble l 512) (yv l λam=>uB (vJ l n) am 0 λam=>sJ H (.cells am l 1 e true true) λa H=>k (.slice a 0 l 0 true 1) H) false⟩
   |_,_=>sq
  |_,_=>sq
def q3(es:aO)(ae:dv)(f:Operand)(args:List Operand):Eh:=
 match f,db es ae f,ol es ae args with
 |.func f,_,⟨da⟩=>⟨λcall L T H k aU=>call f (da L T) H λr H=>Ac r (λv=>k v H) (λv=>aU v H)⟩
 |_,⟨g⟩,⟨da⟩=>⟨λcall L T H k aU=>BK (g L T) λf bY bJ=>nx (da L T) bJ λr=>nx bY r λargs=>call f args H λr H=>Ac r (λv=>k v H) (λv=>aU v H)⟩
def hN(P:dy)(es:aO)(ae:dv)(op:Op):Eh:=
 match op with
 |.load t x=>match db es ae x,il P t with
  |⟨x⟩,⟨f⟩=>⟨λ_ L T H k _=>f (x L T) H λv=>k v H⟩
 |.store t x y=>match db es ae x,db es ae y,oy P t with
  |⟨x⟩,⟨y⟩,⟨f⟩=>⟨λ_ L T H k _=>f (x L T) (y L T) H λH=>k .undef H⟩
 |.convert s d x=>GQ P s d (db es ae x)
 |.panic x=>match db es ae x with
  |⟨x⟩=>⟨λ_ L T H _ aU=>Gn (x L T) λt v=>aU (.iface t v) H⟩
 |.call c=>match c.callee with
  |.value f=>q3 es ae f c.args.toList
  |.builtin .append=>match c.argTypes.toList,c.args.toList with
   |[t,a6],[x,y]=>xk P t a6 (db es ae x) (db es ae y)
   |_,_=>sq
  |.builtin .copy=>match c.argTypes.toList,c.args.toList with
   |[t,a6],[x,y]=>SC P t a6 (db es ae x) (db es ae y)
   |_,_=>sq
  |_=>sq
 |_=>sq
inductive ahy where
 |pure|sf|wr
def lN(P:dy)(op:Op):ahy:=
 match op with
 |.move _|.assign _|.pick .. |.build .. |.nilCheck _|.binOp .. |.unOp .. |.makeInterface .. |.makeFunc .. |.slice .. |.fieldAddr .. |.field ..
 |.indexAddr .. |.index .. |.extract .. |.typeAssert .. =>.pure
 |.convert s d _=>match P.ek s,P.ek d with
  |some (.slice _),_=>.wr
  |_,some (.slice _)=>.wr
  |_,_=>.pure
 |.alloc _|.box .. |.buildSlice .. |.makeSlice .. |.makeMap .. =>.sf
 |.call c=>match c.callee with
  |.builtin .min=>.pure
  |.builtin .max=>.pure
  |.builtin .len=>match c.argTypes.toList with
   |[t]=>match P.ek t with
    |some (.map _ _)=>.wr
    |_=>.pure
   |_=>.wr
  |_=>.wr
 |_=>.wr
structure c5 where
 f:cG->cv->b4->bd->(bl->bd->Bool)->(bl->bd->Bool)->Bool
def oi(P:dy)(es:aO)(ae:dv)(op:Op):c5:=
 match lN P op with
 |.pure=>match sY P es ae op with
  |⟨f⟩=>⟨λ_ L T H k _=>f L T λv=>k v H⟩
 |.sf=>match xz P es ae op with
  |⟨f⟩=>⟨λ_ L T H k _=>f L T λD v=>sJ H D λa H=>k (v a) H⟩
 |.wr=>match hN P es ae op with
  |⟨f⟩=>⟨f⟩
structure rB where
 f:cG->cv->b4->bd->(b4->bd->Bool)->(b4->bl->bd->Bool)->Bool
def zM:rB:=⟨λ_ _ _ _ _ _=>false⟩
def after(es:aO)(aP:Nat)(pU:jo)(s:c5)(r:rB):rB:=
 match s,r with
 |⟨s⟩,⟨r⟩=>match pU with
  |none=>⟨λcall L T H k aU=>s call L T H (λv H=>r call (.any::L) T H k aU) (aU T)⟩
  |some d=>match Nat.blt d aP,i2 d es with
   |true,none=>⟨λcall L T H k aU=>s call L T H (λv H=>r call (v::L) T H k aU) (aU T)⟩
   |true,some i=>match Nat.blt i 64,xZ i with
    |true,⟨N⟩=>⟨λcall L T H k aU=>s call L T H (λv H=>N T v λT=>r call (v::L) T H k aU) (aU T)⟩
    |false,_=>zM
   |false,_=>zM
def Jk:c5:=⟨λ_ _ _ H k _=>k .undef H⟩
def DF(v:bl)(y n:Bool):Bool:=HP v (λb=>a7 b y n) n
def ES(v:bl)(y n:Bool):Bool:=HP v (λb=>a7 b n y) n
def guarded(g:fO)(k2:Bool)(yes no:rB):rB:=
 match g,yes,no,k2 with
 |⟨g⟩,⟨y⟩,⟨n⟩,true=>⟨λcall L T H k aU=>DF (g L T) (y call L T H k aU) (n call L T H k aU)⟩
 |⟨g⟩,⟨y⟩,⟨n⟩,false=>⟨λcall L T H k aU=>ES (g L T) (y call L T H k aU) (n call L T H k aU)⟩
def ach(es:aO)(ae:dv)(c:Call)(r:rB):rB:=
 match c.callee with
 |.value f=>match db es ae f,ol es ae c.args.toList,r with
  |⟨g⟩,⟨da⟩,⟨r⟩=>⟨λcall L T H k aU=>BK (g L T) λf bY bJ=>nx bY (da L T) λargs=>r call (.any::L) {T with ae:=⟨f,args,bJ⟩::T.ae} H k aU⟩
 |_=>zM
def uv(P:dy)(es:aO)(aP:Nat)(an:Array Oper):dv->gu->rB
 |_,[]=>⟨λ_ _ T H k _=>k T H⟩
 |ae,D::l=>match D.op with
  |.defer c=>match D.guard,D.dst with
   |none,none=>ach es ae c (uv P es aP an (none::ae) l)
   |_,_=>zM
  |op=>match D.guard,uv P es aP an (D.dst::ae) l with
   |none,r=>after es aP D.dst (oi P es ae op) r
   |some (M,w),r=>match(an[M]?).bind (·.dst) with
    |some d=>guarded (ki es ae d) w (after es aP D.dst (oi P es ae op) r) (after es aP D.dst Jk r)
    |none=>zM
def sS(acc:aO):List Edge->Nat
 |[]=>0
 |e::l=>match Region.binds .any e with
  |true=>Nat.lor (Nat.lor (Nat.pow 2 e.on) (acc.getD e.on 0)) (sS acc l)
  |false=>sS acc l
def iK:aO->gu->aO
 |acc,[]=>acc
 |acc,D::l=>iK (acc++[sS acc D.after.toList]) l
def dd(m i:Nat):Bool:=Nat.beq (Nat.land (Nat.shiftRight m i) 1) 1
def mk(bg:aO)(i:Nat):Nat:=bg.getD i 0
structure Ew where
 oe:List (aO×Nat)
 last:aO
 kt:aO
def aaq:Op->Bool
 |.store .. =>true
 |_=>false
def W5:Op->Bool
 |.load .. =>true
 |_=>false
def zu:Op->Bool
 |.defer _=>true
 |_=>false
def IA(P:dy)(op:Op):Bool:=
 match W5 op with
 |true=>true
 |false=>match lN P op with
  |.wr=>false
  |_=>true
def O6{α:Type}(N:α->Bool):Nat->List α->aO
 |_,[]=>[]
 |i,x::l=>match N x with
  |true=>i::O6 N (i+1) l
  |false=>O6 N (i+1) l
def Oc(bg:aO)(uG:aO)(i:Nat):Nat:=match uG with
 |[]=>0
 |w::uG=>match dd (mk bg i) w with
  |true=>Oc bg uG i+1
  |false=>Oc bg uG i
def abb(bg:aO)(an:gu):aO->aO×aO
 |[]=>([],[])
 |[a]=>([a],[])
 |[a,b]=>match dd (mk bg b) a with
  |true=>([a,b],[])
  |false=>match((an[a]?).map λD=>aaq D.op),((an[b]?).map λD=>aaq D.op) with
   |some true,some true=>([],[a,b])
   |_,_=>([a,b],[])
 |a::l=>match abb bg an l with
  |(c,t)=>(a::c,t)
def abi(bg:aO)(uG Jb:aO):Nat->aO->List (aO×Nat)
 |_,[]=>[]
 |N,w::l=>(Jb.filter λi=>Nat.beq (Oc bg uG i) N,w)::abi bg uG Jb (N+1) l
def CF(P:dy)(bg:aO)(an:gu):Ew:=
 match abb bg an (O6 (λD=> !IA P D.op) 0 an) with
 |(uG,kt)=>
  let Jb:=O6 (λD=>IA P D.op) 0 an
  ⟨abi bg uG Jb 0 uG,Jb.filter λi=>Nat.beq (Oc bg uG i) uG.length,kt⟩
def Zw(D:Oper):aO:=D.op.operands.toList.filterMap λ|.tmp t=>some t|_=>none
def looks(an:gu)(D:Oper):aO:=
 Zw D++
 (match D.guard with
  |some (g,_)=>((an[g]?).bind (·.dst)).toList
  |none=>[])
def Cg(an:gu)(x y:Oper)(aqw:Bool):Bool:=
 (match x.dst,y.dst with
  |some d,some jx=> !Nat.beq d jx
  |_,_=>true)&&
 (aqw||((match x.dst with
  |some d=> !(looks an y).contains d
  |none=>true)&&
 (match y.dst with
  |some d=> !(looks an x).contains d
  |none=>true)))
def OP(an:gu)(bg:aO)(i:Nat)(x:Oper):Nat->gu->Bool
 |_,[]=>true
 |M,y::l=>Cg an x y (dd (mk bg i) M||dd (mk bg M) i)&&OP an bg i x (M+1) l
def tm(an:gu)(bg:aO):Nat->gu->Bool
 |_,[]=>true
 |i,x::l=>OP an bg i x (i+1) l&&tm an bg (i+1) l
def sub(a b:Nat):Bool:=Nat.beq (Nat.land a b) a
def vp(P:dy)(an:gu)(bg:aO)(ju:jo):Nat->aO->jo
 |done,[]=>some done
 |done,i::l=>match an[i]? with
  |some D=>match IA P D.op&&sub (mk bg i) done&& !dd done i&&(match ju with|some w=>dd (mk bg i) w|none=>true) with
   |true=>vp P an bg ju (Nat.lor done (Nat.pow 2 i)) l
   |false=>none
  |none=>none
def xx(P:dy)(an:gu)(bg:aO):jo->Nat->List (aO×Nat)->Option (jo×Nat)
 |ju,done,[]=>some (ju,done)
 |ju,done,(aQ,w)::l=>match vp P an bg ju done aQ with
  |some done=>match an[w]? with
   |some D=>match !IA P D.op&&sub (mk bg w) done&& !dd done w&&(match ju with|some v=>dd (mk bg w) v|none=>true) with
    |true=>xx P an bg (some w) (Nat.lor done (Nat.pow 2 w)) l
    |false=>none
   |none=>none
  |none=>none
def xV(P:dy)(bg:aO)(an:gu)(pl:Ew):Bool:=
 tm an bg 0 an&&an.all (λD=> !zu D.op)&&
 match xx P an bg none 0 pl.oe with
 |some (ju,done)=>match vp P an bg ju done pl.last with
  |some done=>match pl.kt with
   |[]=>Nat.beq done (Nat.pow 2 an.length - 1)
   |_=>false
  |none=>false
 |none=>false
def oH:bl->bl->Bool
 |.bool a,.bool b=>a==b
 |.int c a,.int fo b=>Nat.beq c fo&&Nat.beq a b
 |.str l n,.str aM cx=>Nat.beq l aM&&Nat.beq n cx
 |.nil a,.nil b=>decide (a=b)
 |.ptr a r s z,.ptr bF gC cP cI=>Nat.beq a bF&&Nat.beq r gC&&Nat.beq s cP&&Nat.beq z cI
 |.slice a i l c u z,.slice bF tR aM fo fa cI=>Nat.beq a bF&&Nat.beq i tR&&Nat.beq l aM&&Nat.beq c fo&&u==fa&&Nat.beq z cI
 |.map a,.map b=>Nat.beq a b
 |_,_=>false
def Av:cv->cv->Bool
 |[],[]=>true
 |a::l,b::aM=>match oH a b with
  |true=>Av l aM
  |false=>false
 |_,_=>false
def qW:bl->bl->Bool
 |.agg n l,.agg cx aM=>Nat.beq n cx&&Av l aM
 |a,b=>oH a b
structure jk where
 i:Nat
 N:bl
 tp:Oq
 v:bl
structure jy where
 i:Nat
 id:Nat
 obj:gB
abbrev o6:=cv->bd->List jk->List jy->Bool
structure rK where
 f:cG->cv->b4->bd->List jk->List jy->o6->(bl->bd->Bool)->Bool
def AQ:rK:=⟨λ_ _ _ _ _ _ _ _=>false⟩
def sK(m:Nat)(H:bd):List jk->Bool
 |[]=>true
 |r::l=>a7 (dd m r.i) (sK m H l) (r.tp.f r.N H λv=>a7 (qW v r.v) (sK m H l) false)
def xh(m:Nat):List jk->List jk
 |[]=>[]
 |r::l=>match dd m r.i with
  |true=>xh m l
  |false=>r::xh m l
def AL(m:Nat):List jy->bd->(bd->Bool)->Bool
 |[],H,k=>k H
 |q::l,H,k=>a7 (dd m q.i) (qq H q.id q.obj λH=>AL m l H k) (AL m l H k)
def kX(m:Nat):List jy->List jy
 |[]=>[]
 |q::l=>match dd m q.i with
  |true=>kX m l
  |false=>q::kX m l
def anG(l:List jk)(a b:Bool):Bool:=kg l a λ_ _=>b
def ahX(l:List jy)(a b:Bool):Bool:=kg l a λ_ _=>b
def ph(P:dy)(es:aO)(ae:dv)(i:Nat)(v:Bool)(op:Op):rK:=
 match op with
 |.load t x=>match db es ae x,il P t,v with
  |⟨x⟩,⟨f⟩,true=>⟨λ_ L T H b6 bm k _=>f (x L T) H λw=>k (w::L) H (⟨i,x L T,⟨f⟩,w⟩::b6) bm⟩
  |⟨x⟩,⟨f⟩,false=>⟨λ_ L T H b6 bm k _=>f (x L T) H λw=>k (w::L) H b6 bm⟩
 |op=>match lN P op with
  |.pure=>match sY P es ae op with
   |⟨f⟩=>⟨λ_ L T H b6 bm k _=>f L T λw=>k (w::L) H b6 bm⟩
  |.sf=>match xz P es ae op with
   |⟨f⟩=>⟨λ_ L T H b6 bm k _=>f L T λD w=>Ec H λlT t=>k (w lT::L) ⟨Nat.succ lT,t⟩ b6 (⟨i,lT,D⟩::bm)⟩
  |.wr=>AQ
def zF(P:dy)(es:aO)(ae:dv)(m:Nat)(op:Op):rK:=
 match hN P es ae op with
 |⟨f⟩=>⟨λcall L T H b6 bm k aU=>ahX bm
  (f call L T H (λv H=>anG b6 (k (v::L) H b6 bm) (a7 (sK m H b6) (k (v::L) H (xh m b6) bm) false)) aU)
  (AL m bm H λH=>f call L T H (λv H=>a7 (sK m H b6) (k (v::L) H (xh m b6) (kX m bm)) false) aU)⟩
def Sk:rK:=⟨λ_ L _ H b6 bm k _=>k (.undef::L) H b6 bm⟩
def Fh(g:fO)(k2:Bool)(yes:rK):rK:=
 match g,yes,k2 with
 |⟨g⟩,⟨y⟩,true=>⟨λcall L T H b6 bm k aU=>DF (g L T) (y call L T H b6 bm k aU) (k (.undef::L) H b6 bm)⟩
 |⟨g⟩,⟨y⟩,false=>⟨λcall L T H b6 bm k aU=>ES (g L T) (y call L T H b6 bm k aU) (k (.undef::L) H b6 bm)⟩
def rt(es:aO)(aP:Nat)(an:gu)(ae:dv)(D:Oper)(y:rK):rK:=
 match(match D.dst with|some d=>Nat.blt d aP|none=>true) with
 |true=>match D.guard with
  |none=>y
  |some (M,w)=>match(an[M]?).bind (·.dst) with
   |some d=>Fh (ki es ae d) w y
   |none=>AQ
 |false=>AQ
def FW(a b:rK):rK:=
 match a,b with
 |⟨a⟩,⟨b⟩=>⟨λcall L T H b6 bm k aU=>a call L T H b6 bm (λL H b6 bm=>b call L T H b6 bm k aU) aU⟩
def Yw:rK:=⟨λ_ L _ H b6 bm k _=>k L H b6 bm⟩
def sm(P:dy)(es:aO)(aP:Nat)(an:gu)(jg:jo):dv->aO->rK
 |_,[]=>Yw
 |ae,i::l=>match an[i]? with
  |some D=>FW (rt es aP an ae D (ph P es ae i (match jg with|some m=> !dd m i|none=>false) D.op)) (sm P es aP an jg (D.dst::ae) l)
  |none=>AQ
def k3(an:gu):dv->aO->dv
 |ae,[]=>ae
 |ae,i::l=>k3 an (((an[i]?).bind (·.dst))::ae) l
def wd(P:dy)(es:aO)(aP:Nat)(an:gu)(bg:aO):dv->List (aO×Nat)->rK
 |_,[]=>Yw
 |ae,(aQ,w)::l=>match an[w]? with
  |some D=>FW (sm P es aP an (some (mk bg w)) ae aQ)
   (FW (rt es aP an (k3 an ae aQ) D (zF P es (k3 an ae aQ) (mk bg w) D.op))
    (wd P es aP an bg (D.dst::k3 an ae aQ) l))
  |none=>AQ
def nH(an:gu):dv->List (aO×Nat)->dv
 |ae,[]=>ae
 |ae,(aQ,w)::l=>nH an (((an[w]?).bind (·.dst))::k3 an ae aQ) l
def CB:List jy->bd->(bd->Bool)->Bool
 |[],H,k=>k H
 |q::l,H,k=>qq H q.id q.obj λH=>CB l H k
structure WV where
 f:cv->b4->(b4->Bool)->Bool
def sL(es:aO):dv->WV
 |[]=>⟨λ_ T k=>k T⟩
 |d::ae=>match sL es ae with
  |⟨r⟩=>match d with
   |none=>⟨λL T k=>r (oa L) T k⟩
   |some d=>match i2 d es with
    |none=>⟨λL T k=>r (oa L) T k⟩
    |some i=>match Nat.blt i 64,xZ i with
     |true,⟨N⟩=>⟨λL T k=>N T (aJ L) λT=>r (oa L) T k⟩
     |false,_=>⟨λ_ _ _=>false⟩
def uO(es:aO):gu->WV
 |[]=>⟨λ_ T k=>k T⟩
 |D::l=>match uO es l with
  |⟨r⟩=>match D.dst with
   |none=>⟨r⟩
   |some d=>match i2 d es with
    |none=>⟨r⟩
    |some i=>match Nat.blt i 64,xZ i with
     |true,⟨N⟩=>⟨λL T k=>N T .any λT=>r L T k⟩
     |false,_=>⟨λ_ _ _=>false⟩
def Kz(P:dy)(es:aO)(aP:Nat)(an:gu)(bg:aO)(pl:Ew):rB:=
 match xV P bg an pl with
 |true=>match wd P es aP an bg [] pl.oe,sm P es aP an none (nH an [] pl.oe) pl.last,sL es (k3 an (nH an [] pl.oe) pl.last),uO es an with
  |⟨a⟩,⟨b⟩,⟨f6⟩,⟨X7⟩=>⟨λcall _ T H k aU=>a call [] T H [] [] (λL H b6 bm=>b call L T H b6 bm (λL H _ bm=>CB bm H λH=>f6 L T λT=>k T H)
   (λv H=>X7 [] T λT=>aU T v H)) (λv H=>X7 [] T λT=>aU T v H)⟩
 |false=>zM
def Eu(P:dy)(es:aO)(aP:Nat)(an:gu):rB:=
 Kz P es aP an (iK [] an) (CF P (iK [] an) an)
structure Od where
 f:Nat->cG->b4->bd->(b4->bd->Bool)->(X->b4->bd->Bool)->Bool
def aoh:Od:=⟨λ_ _ _ _ _ _=>false⟩
def iW(P:dy)(es:aO)(aP:Nat):Code->Od
 |.skip=>⟨λ_ _ T H b0 _=>b0 T H⟩
 |.region _ an false=>match uv P es aP an [] an.toList with
  |⟨f⟩=>⟨λ_ call T H b0 bz=>f call [] T H b0 λT v H=>bz (.panic v) T H⟩
 |.region _ an true=>match Eu P es aP an.toList with
  |⟨f⟩=>⟨λ_ call T H b0 bz=>f call [] T H b0 λT v H=>bz (.panic v) T H⟩
 |.seq a b=>match iW P es aP a,iW P es aP b with
  |⟨a⟩,⟨b⟩=>⟨λn call T H b0 bz=>a n call T H (λT H=>b n call T H b0 bz) bz⟩
 |.cond c a b=>match db es [] c,iW P es aP a,iW P es aP b with
  |⟨c⟩,⟨a⟩,⟨b⟩=>⟨λn call T H b0 bz=>mi (c [] T) λv=>a7 v (a n call T H b0 bz) (b n call T H b0 bz)⟩
 |.block id c=>match iW P es aP c with
  |⟨c⟩=>⟨λn call T H b0 bz=>c n call T H b0 λx T H=>A4 x (λi=>a7 (Nat.beq i id) (b0 T H) (bz (.exit i) T H)) (bz .ret T H) (λv=>bz (.panic v) T H)⟩
 |.loop c=>match iW P es aP c with
  |⟨c⟩=>⟨λn call T H b0 bz=>EP (λba T H=>c n call T H ba bz) n T H⟩
 |.exit id=>⟨λ_ _ T H _ bz=>bz (.exit id) T H⟩
 |.ret=>⟨λ_ _ T H _ bz=>bz .ret T H⟩
 |_=>aoh
def t4(n:Nat):Nat->aO->Bool
 |_,[]=>true
 |i,t::l=>match Nat.blt i n with
  |true=>match Nat.beq t i with
   |true=>t4 n (i+1) l
   |false=>false
  |false=>match Nat.ble n t with
   |true=>t4 n (i+1) l
   |false=>false
structure ajj where
 f:b4->bd->(cv->Bool)->Bool
def qI(P:dy)(es:aO):List ResultVar->ajj
 |[]=>⟨λ_ _ k=>k []⟩
 |.tmp t::l=>match ki es [] t,qI P es l with
  |⟨g⟩,⟨r⟩=>⟨λT H k=>r T H λq=>k (g [] T::q)⟩
 |.cell a t::l=>match ki es [] a,il P t,qI P es l with
  |⟨g⟩,⟨f⟩,⟨r⟩=>⟨λT H k=>f (g [] T) H λv=>r T H λq=>k (v::q)⟩
structure aia where
 f:b4->bd->(bl->Bool)->Bool
def ti(P:dy)(es:aO)(l:List ResultVar):aia:=
 match qI P es l,l with
 |⟨f⟩,[_]=>⟨λT H k=>f T H λq=>k (aJ q)⟩
 |⟨f⟩,_=>⟨λT H k=>f T H λq=>k (.eJ q)⟩
def jv:cS bl:=cS.all .undef
def Io(l:cv)(k:cS bl->cv->Bool):Bool:=
 kg l (k jv []) λa0 l=>kg l (k ⟨a0,.undef,.undef,.undef,.undef,.undef,.undef,.undef⟩ []) λbN l=>
 kg l (k ⟨a0,bN,.undef,.undef,.undef,.undef,.undef,.undef⟩ []) λa2 l=>kg l (k ⟨a0,bN,a2,.undef,.undef,.undef,.undef,.undef⟩ []) λa3 l=>
 kg l (k ⟨a0,bN,a2,a3,.undef,.undef,.undef,.undef⟩ []) λa4 l=>kg l (k ⟨a0,bN,a2,a3,a4,.undef,.undef,.undef⟩ []) λa5 l=>
 kg l (k ⟨a0,bN,a2,a3,a4,a5,.undef,.undef⟩ []) λdR l=>kg l (k ⟨a0,bN,a2,a3,a4,a5,dR,.undef⟩ []) λen l=>k ⟨a0,bN,a2,a3,a4,a5,dR,en⟩ l
def xY(l:cv)(k:b4->Bool):Bool:=
 Io l λpD l=>kg l (k ⟨pD,jv,jv,jv,jv,jv,jv,jv,[]⟩) λa l=>Io (a::l) λdl l=>kg l (k ⟨pD,dl,jv,jv,jv,jv,jv,jv,[]⟩) λ_ _=>false
def dU.settle:dU->dU
 |.nv _ true=>.ret
 |u=>u
def Cl:Op->Bool
 |.call c=>match c.callee with
  |.builtin .recover=>true
  |_=>false
 |_=>false
def xq:Code->Bool
 |.region _ an _=>an.toList.all λD=> !Cl D.op
 |.seq a b=>xq a&&xq b
 |.cond _ a b=>xq a&&xq b
 |.block _ c=>xq c
 |.loop c=>xq c
 |.rangeFunc .. =>false
 |.scope c=>xq c
 |_=>true
def sE:Code->Bool
 |.region _ an _=>an.toList.any λD=>zu D.op
 |.seq a b=>sE a||sE b
 |.cond _ a b=>sE a||sE b
 |.block _ c=>sE c
 |.loop c=>sE c
 |_=>false
def yO:cG:=λ_ _ _ _=>false
def S1(P:dy)(es:aO)(aP:Nat)(an:Array Oper):gu->rB->Option rB
 |D::l,_=>match Cl D.op,D.guard,D.dst,uv P es aP an [D.dst] l with
  |true,none,some d,⟨r⟩=>match Nat.blt d aP,i2 d es,l.all λD=> !Cl D.op with
   |true,none,true=>some ⟨r⟩
   |_,_,_=>none
  |_,_,_,_=>none
 |_,_=>none
structure Pb where
 f:Nat->cG->b4->bd->dU->(b4->bd->dU->Bool)->(X->b4->bd->dU->Bool)->Bool
def TK:Pb:=⟨λ_ _ _ _ _ _ _=>false⟩
def L7(c:Od):Pb:=match c with
 |⟨f⟩=>⟨λn call T H u b0 bz=>f n call T H (λT H=>b0 T H u) (λx T H=>bz x T H u)⟩
def TM(u:dU)(pY:Bool)(aU:bl->Bool->Bool):Bool:=match u with
 |.ret=>pY
 |.nv v r=>aU v r
def rh(P:dy)(es:aO)(aP:Nat):Code->Pb
 |.seq a b=>match xq (.seq a b) with
  |true=>L7 (iW P es aP (.seq a b))
  |false=>match rh P es aP a,rh P es aP b with
   |⟨a⟩,⟨b⟩=>⟨λn call T H u b0 bz=>a n call T H u (λT H u=>b n call T H u b0 bz) bz⟩
 |.cond c a b=>match db es [] c,rh P es aP a,rh P es aP b with
  |⟨c⟩,⟨a⟩,⟨b⟩=>⟨λn call T H u b0 bz=>mi (c [] T) λv=>a7 v (a n call T H u b0 bz) (b n call T H u b0 bz)⟩
 |.region i an d=>match xq (.region i an d),d with
  |true,_=>L7 (iW P es aP (.region i an d))
  |false,true=>TK
  |false,false=>match S1 P es aP an an.toList zM with
   |some ⟨r⟩=>⟨λ_ _ T H u b0 _=>TM u
    (r yO [.nil .i] T H (λT H=>b0 T H .ret) λ_ _ _=>false)
    (λv rec=>a7 rec (r yO [.nil .i] T H (λT H=>b0 T H (.nv v true)) λ_ _ _=>false) (r yO [v] T H (λT H=>b0 T H (.nv v true)) λ_ _ _=>false))⟩
   |none=>TK
 |c=>match xq c with
  |true=>L7 (iW P es aP c)
  |false=>TK
def s5(T:b4)(b:Bool):Bool:=kg T.ae b λ_ _=>false
def Qu(P:dy)(E:Nat->aO)(n:Nat)(call:cG)(f:Nat)(args:cv)(u:dU)(H:bd)(k:dU->bd->Bool):Bool:=
 match P.fn f with
 |some fn=>match fn.body with
  |some c=>match rh P (E f) fn.ntmps c,ti P (E f) fn.results.toList,Nat.ble args.length (fn.params.size+fn.nfree),sE c,Nat.ble (fn.params.size+fn.nfree) fn.ntmps&&t4 (fn.params.size+fn.nfree) 0 (E f) with
   |⟨c⟩,⟨r⟩,true,false,true=>xY args λT=>c n call T H u (λT H u=>s5 T (r T H λ_=>k u H)) (λx T H u=>A4 x (λ_=>false) (s5 T (r T H λ_=>k u H)) λ_=>false)
   |_,_,_,_,_=>false
  |none=>false
 |none=>false
def Da(P:dy)(E:Nat->aO)(n:Nat)(call:cG)(r:b4->bd->(bl->Bool)->Bool)(T:b4):List Ly->dU->bd->(r9->bd->Bool)->Bool
 |[],u,H,k=>TM u (r T H λv=>k (.val v) H) λv rec=>a7 rec false (k (.nv v) H)
 |d::ae,u,H,k=>Qu P E n call d.f (d.args++d.cap) u H λu H=>Da P E n call r T ae u.settle H k
structure Fn where
 f:Nat->cG->cv->bd->(r9->bd->Bool)->Bool
structure e0 where
 f:cv->(bl->Bool)->Bool
def SV:Fn:=⟨λ_ _ _ _ _=>false⟩
def xR(P:dy)(E:Nat->aO)(ext:Nat->Option e0)(f:Nat):Fn:=
 match ext f with
 |some ⟨e⟩=>⟨λ_ _ args H k=>e args λv=>k (.val v) H⟩
 |none=>match P.fn f with
  |some fn=>match fn.body with
   |some c=>match iW P (E f) fn.ntmps c,ti P (E f) fn.results.toList,sE c,Nat.ble (fn.params.size+fn.nfree) fn.ntmps&&t4 (fn.params.size+fn.nfree) 0 (E f) with
    |⟨c⟩,⟨r⟩,false,true=>⟨λn call args H k=>KC args (fn.params.size+fn.nfree) (xY args λT=>c n call T H (λT H=>s5 T (r T H λv=>k (.val v) H)) (λx T H=>A4 x (λ_=>false) (s5 T (r T H λv=>k (.val v) H)) λv=>s5 T (k (.nv v) H)))⟩
    |⟨c⟩,⟨r⟩,true,true=>⟨λn call args H k=>KC args (fn.params.size+fn.nfree) (xY args λT=>c n call T H (λT H=>Da P E n call r T T.ae .ret H k) (λx T H=>A4 x (λ_=>false) (Da P E n call r T T.ae .ret H k) λv=>Da P E n call r T T.ae (.nv v false) H k))⟩
    |_,_,_,false=>SV
   |none=>SV
  |none=>SV
def UH(P:dy)(E:Nat->aO)(ext:Nat->Option e0):Nat->cG:=
 NC λn call f args H k=>(xR P E ext f).f n call args H k
def yD:bd:=⟨0,⟨cS.all (cS.all (cS.all (cS.all (cS.all .none)))),λ_=>.none⟩⟩
end
end Go.Ev
