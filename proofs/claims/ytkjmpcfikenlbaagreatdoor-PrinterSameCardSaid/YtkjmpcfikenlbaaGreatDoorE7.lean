/- A part. -/
import Derived.Test.YtkjmpcfikenlbaaGreatDoorE6
set_option linter.all false
namespace Go.Ev
open Go
def aF{α:Type}(aU:(α->Bool)->Bool):Prop:=(∀k,aU k=false)\/∃v,∀k,aU k=k v
section
variable{α:Type}
def aF.fail:aF (λ_:α->Bool=>false):=.inl λ_=>rfl
def aF.ret(v):aF (λk:α->Bool=>k v):=.inr ⟨v,λ_=>rfl⟩
def aF.gN{v}{G:Nat->Nat->(α->Bool)->Bool}(h:∀c n,aF (G c n)):aF (λk=>Ev.gN v λc n=>G c n k):=by cases v<;>first|exact aF.fail|exact h _ _
def aF.zZ{v}{aU:Nat->Nat->(α->Bool)->Bool}{G:Nat->Nat->Nat->(α->Bool)->Bool}(br:∀c n,aF (aU c n))(h:∀a b c,aF (G a b c)):aF (λk=>Ev.zZ v (λc n=>aU c n k) λa b c=>G a b c k):=by cases v<;>first|exact aF.fail|exact br _ _|exact h _ _ _
def aF.ni{v}{G:Bool->(α->Bool)->Bool}(h:∀c,aF (G c)):aF (λk=>Ev.ni v λc=>G c k):=by cases v<;>first|exact aF.fail|exact h _
def aF.hE{v}{G:Nat->Nat->(α->Bool)->Bool}(h:∀c n,aF (G c n)):aF (λk=>Ev.hE v λc n=>G c n k):=by cases v<;>first|exact aF.fail|exact h _ _
def aF.sx{v}{G:Nat->Nat->Nat->Nat->(α->Bool)->Bool}(h:∀a b c d,aF (G a b c d)):aF (λk=>Ev.sx v λa b c d=>G a b c d k):=by cases v<;>first|exact aF.fail|exact h _ _ _ _
def aF.zV{v}{G:Nat->Nat->Nat->Nat->Bool->Nat->(α->Bool)->Bool}(h:∀a b c d e f,aF (G a b c d e f)):aF (λk=>Ev.zV v λa b c d e f=>G a b c d e f k):=by cases v<;>first|exact aF.fail|exact h _ _ _ _ _ _
def aF.Fp{c}{G:(α->Bool)->Bool}(h:aF G):aF (λk=>Ev.Fp c (G k)):=by cases c<;>first|exact aF.fail|exact h
def aF.FP{c}{G:(α->Bool)->Bool}(h:aF G):aF (λk=>Ev.FP c (G k)):=by cases c<;>first|exact aF.fail|exact h
def aF.O6{c}{G:(α->Bool)->Bool}(h:aF G):aF (λk=>Ev.O6 c (G k)):=by cases c<;>first|exact aF.fail|exact h
def aF.Nm{c}{G:(α->Bool)->Bool}(h:aF G):aF (λk=>Ev.Nm c (G k)):=by cases c<;>first|exact aF.fail|exact h
def aF.NT{c}{G:(α->Bool)->Bool}(h:aF G):aF (λk=>Ev.NT c (G k)):=by cases c<;>first|exact aF.fail|exact h
def aF.ts{v}{aU}{G:Nat->Nat->Nat->Nat->Bool->Nat->(α->Bool)->Bool}(br:aF aU)(h:∀a b c d e f,aF (G a b c d e f)):aF (λk=>Ev.ts v (aU k) λa b c d e f=>G a b c d e f k):=by cases v<;>first|exact aF.fail|exact h _ _ _ _ _ _|exact aF.Fp br
def aF.Ea{v}{G:Nat->bp->(α->Bool)->Bool}(h:∀a b,aF (G a b)):aF (λk=>Ev.Ea v λa b=>G a b k):=by cases v<;>first|exact aF.fail|exact h _ _
def aF.KR{v}{aU}{G:Nat->bp->(α->Bool)->Bool}(br:aF aU)(h:∀a b,aF (G a b)):aF (λk=>Ev.KR v (aU k) λa b=>G a b k):=by cases v<;>first|exact aF.fail|exact h _ _|exact aF.FP br
def aF.rt{v}{G:Nat->cx->(α->Bool)->Bool}(h:∀a b,aF (G a b)):aF (λk=>Ev.rt v λa b=>G a b k):=by cases v<;>first|exact aF.fail|exact h _ _
def aF.Cz{v}{G:cx->(α->Bool)->Bool}(h:∀a,aF (G a)):aF (λk=>Ev.Cz v λa=>G a k):=by cases v<;>first|exact aF.fail|exact h _
def aF.C4{v}{G:(α->Bool)->Bool}(h:aF G):aF (λk=>Ev.C4 v (G k)):=by cases v<;>first|exact aF.fail|exact h
def aF.rc{v:bp}{aU:(α->Bool)->Bool}{G:Nat->cx->(α->Bool)->Bool}(br:aF aU)(h:∀a b,aF (G a b)):aF (λk=>Ev.rc v (aU k) λa b=>G a b k):=by cases v<;>first|exact aF.fail|exact h _ _|exact br
def aF.Fs{v:bp}{aU G:(α->Bool)->Bool}(br:aF aU)(h:aF G):aF (λk=>Ev.Fs v (aU k) (G k)):=by cases v<;>first|exact aF.fail|exact h|exact aF.O6 br
def aF.Ei{v:bp}{aU G:(α->Bool)->Bool}(br:aF aU)(h:aF G):aF (λk=>Ev.Ei v (aU k) (G k)):=by cases v<;>first|exact aF.fail|exact h|exact aF.Fp br
def aF.E4{v:bp}{aU G:(α->Bool)->Bool}(br:aF aU)(h:aF G):aF (λk=>Ev.E4 v (aU k) (G k)):=by cases v<;>first|exact aF.fail|exact h|exact aF.Nm br
def aF.DS{v:bp}{aU G:(α->Bool)->Bool}(br:aF aU)(h:aF G):aF (λk=>Ev.DS v (aU k) (G k)):=by cases v<;>first|exact aF.fail|exact h|exact aF.NT br
def aF.Eb{v:bp}{aU G:(α->Bool)->Bool}(br:aF aU)(h:aF G):aF (λk=>Ev.Eb v (aU k) (G k)):=by cases v<;>first|exact aF.fail|exact h|exact aF.FP br
def aF.bd{b:Bool}{aU G:(α->Bool)->Bool}(br:aF aU)(h:aF G):aF (λk=>Ev.bd b (aU k) (G k)):=by cases b<;>assumption
theorem aF.gr{n:Nat}{G:Nat->(α->Bool)->Bool}(h:∀n,aF (G n)):aF (λk=>Ev.gr n λn=>G n k):=by
 simp_all
theorem aF.mJ{b:Bool}{G:Bool->(α->Bool)->Bool}(h:∀b,aF (G b)):aF (λk=>Ev.mJ b λb=>G b k):=by
 have e:(λk=>Ev.mJ b λb=>G b k)=G b:=by simp_all
 grind
theorem aF.o8{fH:Type}{l:List fH}{n:Nat}{G:List fH->(α->Bool)->Bool}(h:∀l,aF (G l)):aF (λk=>Ev.o8 l n λl=>G l k):=by
 by_cases aD:n<=l.length
 .have e:(λk=>Ev.o8 l n λl=>G l k)=G (l.drop n):=by funext k;rw[wi aD]
  simp_all
 .refine .inl λk=>?_;cases a0:Ev.o8 l n λl=>G l k with
  |false=>grind|true=>exact absurd (C2 a0).1 aD
theorem aF.rn{fH:Type}{l:List fH}{n:Nat}{G:List fH->(α->Bool)->Bool}(h:∀l,aF (G l)):aF (λk=>Ev.rn l n λl=>G l k):=by
 by_cases aD:n<=l.length
 .have e:(λk=>Ev.rn l n λl=>G l k)=G (l.take n):=by funext k;rw[zr aD]
  simp_all
 .refine .inl λk=>?_;cases a0:Ev.rn l n λl=>G l k with
  |false=>grind|true=>exact absurd (HR a0).1 aD
theorem aF.nL{fH:Type}{l m:List fH}{G:List fH->(α->Bool)->Bool}(h:∀l,aF (G l)):aF (λk=>Ev.nL l m λl=>G l k):=by
 have e:(λk=>Ev.nL l m λl=>G l k)=G (l++m):=by funext k;rw[q8]
 simp_all
def aF.kM{fH:Type}{l:List fH}{aU:(α->Bool)->Bool}{G:fH->List fH->(α->Bool)->Bool}(br:aF aU)(h:∀a l,aF (G a l)):aF (λk=>Ev.kM l (aU k) λa l=>G a l k):=by
 cases l<;>simp_all
def aF.kD{v:bp}{n:Nat}{G:cx->(α->Bool)->Bool}(h:∀l,aF (G l)):aF (λk=>Ev.kD v n λl=>G l k):=
 aF.rc (aF.bd (h _) aF.fail) λ_ _=>aF.bd (h _) aF.fail
def aF.vh{l:cx}{i:Nat}{G:bp->(α->Bool)->Bool}(h:∀v,aF (G v)):aF (λk=>Ev.vh l i λv=>G v k):=
 aF.o8 λ_=>aF.kM aF.fail λv _=>h v
def aF.pd{v:bp}{b:Nat}{G:Nat->(α->Bool)->Bool}(h:∀v,aF (G v)):aF (λk=>Ev.pd v b λv=>G v k):=
 aF.gN λ_ n=>aF.bd (aF.bd (h n) aF.fail) aF.fail
def aF.T8{v:bp}{b:Nat}{G:Nat->(α->Bool)->Bool}(h:∀v,aF (G v)):aF (λk=>Ev.T8 v b λv=>G v k):=
 aF.gN λ_ n=>aF.bd (aF.bd (h n) aF.fail) aF.fail
def aF.get{aU:(α->Bool)->Bool}(h:aF aU){k:α->Bool}(ar:aU k=true):∃v,k v=true/\∀df,aU df=df v:=by
 rcases h with h|⟨v,h⟩
 all_goals grind
end
section
variable{P:Program}{es:aO}{ah:dM}{L:cx}{T:ca}
def aiN(op:BinOp)(c bb h a b:Nat):aF ((nn op c bb h).f a b):=by
 unfold nn;split<;>(try split)<;>first
  |exact aF.gr λ_=>aF.ret _|exact aF.mJ λ_=>aF.ret _|exact aF.bd (aF.bd (aF.bd aF.fail (aF.gr λ_=>aF.ret _)) aF.fail) aF.fail
  |exact aF.bd (aF.ret _) (aF.ret _)
  |exact aF.fail
def alT(op:BinOp)(c:Nat)(x y:gb):aF ((vZ op c x y).f L T):=by
 unfold vZ;split
 .exact aF.gN λ_ _=>aF.gN λ_ _=>aF.bd (aF.bd (aF.gr λ_=>aF.ret _) aF.fail) aF.fail
 .exact aF.gN λ_ _=>aF.gN λ_ _=>aF.bd (aF.bd (aF.bd (aF.gr λ_=>aF.ret _) aF.fail) aF.fail) aF.fail
 .have aQ:=λa b=>aiN op c (cF c) (eK c) a b;cases JF op with
  |false=>exact aF.gN λ_ a=>aF.gN λ_ b=>aF.bd (aF.bd (aQ a b) aF.fail) aF.fail
  |true=>
   exact aF.zZ (λ_ a=>aF.gN λ_ b=>aF.bd (aF.bd (aQ a b) aF.fail) aF.fail)
    λ_ _ _=>aF.gN λ_ _=>aF.bd (aF.bd (aF.bd (aF.bd (aF.bd (aF.bd (aF.ret _) aF.fail) aF.fail) aF.fail) aF.fail) aF.fail) aF.fail
def aqv(op:BinOp)(x y:gb):aF ((zn op x y).f L T):=by
 unfold zn;simp only;split
 .exact aF.hE λ_ _=>aF.hE λ_ _=>aF.bd (aF.gr λ_=>aF.gr λ_=>aF.ret _) aF.fail
 .simp_all[aF.hE,aF.ret]
 .exact aF.hE λ_ _=>aF.hE λ_ _=>aF.bd (aF.ret _) (aF.ret _)
 .simp_all[aF.hE,aF.ret]
 .exact aF.hE λ_ _=>aF.hE λ_ _=>aF.bd (aF.ret _) (aF.bd (aF.ret _) (aF.ret _))
 .exact aF.hE λ_ _=>aF.hE λ_ _=>aF.bd (aF.ret _) (aF.mJ λ_=>aF.ret _)
 .exact aF.hE λ_ _=>aF.hE λ_ _=>aF.bd (aF.ret _) (aF.ret _)
 .exact aF.fail
def aiA(op:BinOp)(x y:gb):aF ((yW op x y).f L T):=by
 unfold yW;simp only;split
 .simp_all[aF.ni,aF.ret]
 .simp_all[aF.ni,aF.ret]
 .exact aF.fail
def agb(eq:Bool)(c:oK)(x:gb):aF ((uG eq c x).f L T):=by
 cases eq<;>cases c<;>first
  |exact aF.Fs (aF.ret _) (aF.ret _)|exact aF.Ei (aF.ret _) (aF.ret _)|exact aF.E4 (aF.ret _) (aF.ret _)|exact aF.DS (aF.ret _) (aF.ret _)|exact aF.Eb (aF.ret _) (aF.ret _)
def ag4(op:BinOp)(c:oK)(x y:Operand)(cs fh:gb):aF ((vA op c x y cs fh).f L T):=by unfold vA;split<;>first|exact agb _ _ _|exact aF.fail
def YP(b:Bool)(v w:bp):(∀k,zU b v w k=false)\/∃q,∀k,zU b v w k=k q:=by
 cases b
 .exact aF.gN (G:=λc a k=>gN w λfF bz=>bd (Nat.beq c 3) (bd (Nat.beq fF 3) (k (Nat.beq a bz)) false) false) λ_ _=>aF.gN λ_ _=>aF.bd (aF.bd (aF.ret _) aF.fail) aF.fail
 .exact aF.hE (G:=λl n k=>hE w λaK cI=>k (uD l n aK cI)) λ_ _=>aF.hE λ_ _=>aF.ret _
def arL(b:Bool)(x y:cx):(∀k,Dj b x y k=false)\/∃q,∀k,Dj b x y k=k q:=by
 unfold Dj;split
 .rename_i Ja v1 bT ef;rcases YP true Ja bT with h|⟨q,h⟩
  .simp_all
  .rcases YP b v1 ef with cz|⟨r,cz⟩
   .simp_all
   .exact .inr ⟨_,λk=>(h _).trans (cz _)⟩
 simp_all
def aiF(b:Bool)(x y:bp):(∀k,vp b x y k=false)\/∃q,∀k,vp b x y k=k q:=aF.rt (G:=λ_ l k=>rt y λ_ aK=>Dj b l aK k) λ_ l=>aF.rt (G:=λ_ aK k=>Dj b l aK k) λ_ aK=>arL b l aK
def akI(B:Option Bool)(op:BinOp)(x y:gb):aF ((DL B op x y).f L T):=by
 have⟨x⟩:=x;have⟨y⟩:=y;cases B with
 |none=>exact aF.fail
 |some b=>
  have aP:∀k,(DL (some b) .eql ⟨x⟩ ⟨y⟩).f L T k=vp b (x L T) (y L T) (λr=>mJ r λz=>k (.bool z)):=λ_=>rfl
  have a3:∀k,(DL (some b) .neq ⟨x⟩ ⟨y⟩).f L T k=vp b (x L T) (y L T) (λr=>bd r (k (.bool false)) (k (.bool true))):=λ_=>rfl
  rcases aiF b (x L T) (y L T)with h|⟨q,h⟩
  .cases op
   case eql=>exact .inl λk=>by grind
   case neq=>exact .inl λk=>by grind
   all_goals exact aF.fail
  .cases op
   case eql=>exact .inr ⟨.bool q,λk=>by simp_all⟩
   case neq=>exact .inr ⟨.bool (!q),λk=>by rw[a3,h];cases q<;>rfl⟩
   all_goals exact aF.fail
def aqT(op:BinOp)(t:TypeId)(x y:Operand)(cs fh:gb):aF ((CR P op t x y cs fh).f L T):=by unfold CR;split<;>first|exact alT _ _ _ _|exact aqv _ _ _|exact aiA _ _ _|exact ag4 _ _ _ _ _ _|exact akI _ _ _ _|exact aF.fail
def am3(op:UnOp)(x:gb):aF ((Fr op x).f L T):=by cases op<;>first|exact aF.ni λ_=>aF.bd (aF.ret _) (aF.ret _)|exact aF.gN λ_ _=>aF.gr λ_=>aF.ret _|exact aF.fail
def anQ(s d:TypeId)(x:gb):aF ((Cf P s d x).f L T):=by
 unfold Cf;simp only;split
 .split
  .simp_all[aF.gN,aF.bd,aF.ret,aF.fail]
  .exact aF.zZ (λ_ _=>aF.bd (aF.bd (aF.ret _) aF.fail) aF.fail) λ_ _ _=>aF.bd (aF.bd (aF.ret _) aF.fail) aF.fail
 .simp_all[aF.hE,aF.ret]
 .exact aF.fail
def ab0(t:TypeId)(aR:Nat)(l:cx):aF ((xK P t aR).f l):=by
 unfold xK;split
 .simp_all[aF.o8,aF.rn,aF.ret]
 .exact aF.vh λ_=>aF.ret _
 .exact aF.fail
def aon(t:TypeId)(f:Nat)(x:gb):aF ((CY P t f x).f L T):=by
 unfold CY;split
 .split
  .simp_all[aF.rt,ab0]
  .exact aF.fail
 .exact aF.fail
def ap8(t:TypeId)(f:Nat)(x:gb):aF ((DK P t f x).f L T):=by
 unfold DK;split
 .split
  .split
   .simp_all[aF.sx,aF.ret]
   .exact aF.fail
  .exact aF.fail
 .exact aF.fail
def arX(t:TypeId)(x i:gb):aF ((DH P t x i).f L T):=by
 unfold DH;simp only;split
 .simp_all[aF.hE,aF.pd,aF.ret]
 .rename_i len e hu;split
  .rename_i p s bq ap Y;refine aF.rt λ_ l=>aF.pd λ_=>aF.o8 λr=>?_;have:=ab0 (P:=P) e 0 r;simp_all
  .exact aF.fail
 .exact aF.fail
def aiw(t:TypeId)(x i:gb):aF ((C0 P t x i).f L T):=by
 unfold C0;simp only;split
 .split
  .exact aF.zV λ_ _ _ _ _ _=>aF.pd λ_=>aF.bd (aF.gr λ_=>aF.ret _) aF.fail
  .exact aF.fail
 .split
  .simp_all[aF.sx,aF.pd,aF.ret]
  .exact aF.fail
 .exact aF.fail
def Fv{α:Type}(x:Option Operand)(d:Nat){G:Nat->(α->Bool)->Bool}(h:∀n,aF (G n)):aF (λk=>(wk es ah x).f L T d λn=>G n k):=by
 cases x with
 |none=>exact h d|some y=>exact aF.pd h
def ang(t:TypeId)(x:gb)(hU aN:Option Operand):aF ((Ct P t x (wk es ah hU) (wk es ah aN)).f L T):=by
 unfold Ct;simp only;split
 .exact aF.hE λ_ _=>Fv aN _ λ_=>Fv hU _ λ_=>aF.bd (aF.bd (aF.gr λ_=>aF.gr λ_=>aF.ret _) aF.fail) aF.fail
 .split
  .refine aF.ts (Fv aN _ λ_=>Fv hU _ λ_=>aF.bd (aF.bd (aF.ret _) aF.fail) aF.fail) λ_ _ _ _ _ _=>aF.bd (Fv aN _ λ_=>Fv hU _ λ_=>aF.bd (aF.bd ?_ ?_) aF.fail) aF.fail
   .simp_all[aF.bd,aF.ret,aF.fail]
   simp_all[aF.bd,aF.ret,aF.fail]
  .exact aF.fail
 .exact aF.fail
def aoU(x:gb)(i:Nat):aF ((KS x i).f L T):=by exact aF.Cz λ_=>aF.vh λ_=>aF.ret _
def ani(t:TypeId)(ok:Bool)(x:gb):aF ((Kt P t ok x).f L T):=by
 unfold Kt;simp;split
 .exact aF.fail
 .split
  .simp_all[aF.KR,aF.ret,aF.bd]
  .simp_all[aF.Ea,aF.bd,aF.ret,aF.fail]
  .exact aF.fail
 .exact aF.fail
def aq0(t:TypeId)(x:gb):aF ((Jx P t x).f L T):=by unfold Jx;simp;split<;>first|exact aF.fail|exact aF.ret _
def ar6{α:Type}(l:cx):∀{r:Dw}{G:cx->(α->Bool)->Bool},(∀G:cx->(α->Bool)->Bool,(∀l,aF (G l))->aF λk=>r.f L T λq=>G q k)->(∀l,aF (G l))->aF λk=>(FJ l r).f L T λq=>G q k:=by
 induction l with
 |nil=>intro r G h aa;exact h G aa|cons x l bQ=>intro r G h aa;exact bQ h (G:=λq=>G (x::q)) λq=>aa _
def VJ{α:Type}(parts:List (Nat×gb)):∀(cK:List Field)(i:Nat)(z:cx)(r:Dw),uv P parts i cK z=some r->∀G:cx->(α->Bool)->Bool,(∀l,aF (G l))->aF λk=>r.f L T λq=>G q k
 |[],i,[],r,h,G,aa=>by simp[uv]at h;subst h;grind
 |[],i,_::_,r,h,G,aa=>by simp[uv]at h
 |fd::cK,i,z,r,h,G,aa=>by
  unfold uv at h;split at h
  .split at h
   .rename_i eH g _ uf _;cases h;exact aF.kD λc=>VJ parts cK (i+1) _ _ uf (λq k=>Ev.nL c q λq=>G q k) λq=>aF.nL aa
   .rename_i eH _ uf _;cases h;exact ar6 _ (λG aa=>VJ parts cK (i+1) _ _ uf G aa) aa
   grind
  grind
def arW(t:TypeId)(parts:List (Nat×gb)):aF ((C7 P t parts).f L T):=by
 unfold C7;split
 .split
  .split
   .rename_i n _ _ _ _ r ag;exact VJ parts _ _ _ _ ag (λl (k:bp->Bool)=>k (bp.agg n l)) λl=>aF.ret _
   .exact aF.fail
  .exact aF.fail
 .exact aF.fail
def arj(t:TypeId)(x:gb):aF ((Cy P t x).f L T):=by
 unfold Cy;simp;split
 .simp_all[aF.hE,aF.ret]
 .simp_all[aF.ts,aF.ret]
 .split<;>first|exact aF.fail|exact aF.ret _
 .exact aF.fail
def OJ(bS:Bool):∀(l:List gb)(c:mE),o7 bS l=some c->∀G:bp->(bp->Bool)->Bool,(∀v,aF (G v))->aF λk=>c.f L T λv=>G v k
 |[],c,h,G,aa=>by simp[o7]at h
 |[⟨x⟩],c,h,G,aa=>by simp only[o7,Option.some.injEq]at h;subst h;simp_all[aF.gN,aF.bd,aF.fail]
 |⟨x⟩::y::l,c,h,G,aa=>by
  unfold o7 at h;split at h
  .rename_i r ag;cases h;exact aF.gN λ_ n=>aF.bd (OJ true (y::l) _ ag (λv k=>Ev.gN v λ_ m=>Ev.bd (py n m) (G (.int 3 m) k) (G (.int 3 n) k)) λv=>aF.gN λ_ _=>aF.bd (aa _) (aa _)) aF.fail
  .rename_i r ag;cases h;exact aF.gN λ_ n=>aF.bd (OJ false (y::l) _ ag (λv k=>Ev.gN v λ_ m=>Ev.bd (py m n) (G (.int 3 m) k) (G (.int 3 n) k)) λv=>aF.gN λ_ _=>aF.bd (aa _) (aa _)) aF.fail
  grind
def aqC(op:Op):aF ((v3 P es ah op).f L T):=by
 unfold v3;split
 .exact aF.ret _
 .exact aF.ret _
 .simp_all[aF.ni,aF.ret]
 .exact arW _ _
 .simp_all[aF.C4,aF.ret]
 .simp_all[aqT]
 .exact am3 _ _
 .exact anQ _ _ _
 .exact aq0 _ _
 .exact aF.ret _
 .exact ang _ _ _ _
 .simp_all[ap8]
 .exact aon _ _ _
 .simp_all[aiw]
 .exact arX _ _ _
 .exact aoU _ _
 .exact ani _ _ _
 .split
  .exact arj _ _
  .split
   .rename_i r ag;exact OJ true _ _ ag (λv k=>k v) λv=>aF.ret _
   .exact aF.fail
  .split
   .rename_i r ag;exact OJ false _ _ ag (λv k=>k v) λv=>aF.ret _
   .exact aF.fail
  .exact aF.fail
 .exact aF.fail
variable{H:bg}{k:bp->Bool}{p:bp}
def ahp{B}(h:(v3 P es ah B.op).f L T k=true):∃v,k v=true/\∀(ae:cX)(a:Act),(∀x∈B.op.operands.toList,j7 ae es ah L T a x)->∃V,bP ae v V/\∀w,(execOp a.eval B).run P w=.ok (.value V) w:=by
 have⟨v,aI,ar⟩:=(aqC (P:=P) (es:=es) (ah:=ah) (L:=L) (T:=T) B.op).get h;refine⟨v,aI,λae a eI=>?_⟩;have F:(v3 P es ah B.op).f L T (λx=>@decide (x=v) (Classical.propDecidable _))=true:=by simp_all
 have⟨iq,V,aj,an,aM⟩:=Xq F eI;simp_all
def o3(P:Program)(H:bg)(t:TypeId)(p v:bp):Prop:=∀k,(js P t).f p H k=k v
theorem afJ(t:TypeId)(p:bp)(H:bg):aF ((js P t).f p H):=by
 have aJ:∀{G:Nat->Nat->cx->(bp->Bool)->Bool},(∀s z r,aF (G s z r))->aF λk=>rowOf p H λs z r=>G s z r k:=by
  intro G aa;refine aF.sx λa r s z=>?_;have e:(λk:bp->Bool=>Au H a λB=>yG B λax n cJ _ _ _=>bd (Nat.blt r n) (bd (Nat.beq z cJ) (rowAt ax r λaJ=>G s z aJ k) false) false)=
   λk=>yG (H.get a) λax n cJ _ _ _=>bd (Nat.blt r n) (bd (Nat.beq z cJ) (rowAt ax r λaJ=>G s z aJ k) false) false:=by
   funext k;rw[pC]
  rw[e];cases H.get a with
  |none=>exact aF.fail|dead=>exact aF.fail|map es tp=>exact aF.fail
  |cells ax n cJ ak u ee=>
   refine aF.bd (aF.bd ?_ aF.fail) aF.fail;cases ax with
   |fC q=>exact aF.bd (aa _ _ _) aF.fail|dC q=>exact aa _ _ _|b3 q=>exact aa _ _ _|iQ q=>exact aa _ _ _|nM g c=>exact aa _ _ _
 unfold js;split
 .exact aJ λs z r=>aF.bd (aF.bd (aF.ret _) aF.fail) (aF.o8 λ_=>aF.rn λ_=>aF.ret _)
 .exact aJ λs z r=>aF.vh λ_=>aF.ret _
 .exact aF.fail
def VI{t:TypeId}(h:(js P t).f p H k=true):∃v,k v=true/\o3 P H t p v:=by have⟨v,D,F⟩:=(afJ t p H).get h;exact⟨v,D,F⟩
def o3.run{t:TypeId}{v}(h:o3 P H t p v):∃a r s z,p=.ptr a r s z/\(H.get a).live=true/\∀(ae:cX)(w:World)(V:Value),bP ae p V->nj ae w a (H.get a)->∃y2,bP ae v y2/\(Instr.loadAt t V).run P w=.ok y2 w:=by
 have F:(js P t).f p H (λx=>@decide (x=v) (Classical.propDecidable _))=true:=by rw[h];simp
 have⟨iq,a,r,s,z,aj,an,aM,bs⟩:=VA F;simp_all
end
def ac8:∀(l)(acc),∃r,jG acc l=acc++r/\r.length=l.length/\∀(i)(B),l[i]?=some B->(jG acc l)[acc.length+i]?=some (us ((jG acc l).take (acc.length+i)) B.after.toList)
 |[],acc=>⟨[],by simp[jG],rfl,by simp⟩
 |B::l,acc=>by
  have⟨r,D,F,aq⟩:=ac8 l (acc++[us acc B.after.toList]);have e:jG acc (B::l)=acc++(us acc B.after.toList::r):=by simp_all[jG]
  refine⟨_,e,by grind,λi x M=>?_⟩;cases i with
  |zero=>simp_all
  |succ i=>
   have:=aq i x (by simp_all);have a3:jG acc (B::l)=jG (acc++[us acc B.after.toList]) l:=rfl;rw[a3];have cW:acc.length+(i+1)=(acc++[us acc B.after.toList]).length+i:=by grind
   simp_all
variable{H cM:bg}{call:cE}{i j x:Nat}{k:Ev.pg}{a8:bp->bg->Bool}{cd:Array Bool}{B:Oper}{av:Array Oper}{bh:List jC}{cc:List jF}{gX:Bool}{w bT:World}{ae:cX}
def IX{m}:dG m i=true↔m.testBit i:=by simp_all[dG,Nat.testBit]
def ED{a b i:Nat}:dG (Nat.lor a b) i=true↔dG a i\/dG b i:=by simp_all[IX]
def G4{n i:Nat}:dG (Nat.pow 2 n) i=true↔i=n:=by rw[IX];simp_all[Nat.testBit_two_pow,eq_comm]
def Ps:¬dG 0 i:=by rw[IX];simp
def ZU{acc j}:∀{es},dG (us acc es) j=true↔∃e∈es,Region.binds .any e/\(j=e.on\/dG (acc.getD e.on 0) j)
 |[]=>by simp[us,Ps]
 |e::es=>by
  have bQ:=ZU (acc:=acc) (j:=j) (es:=es);unfold us;cases aB:Region.binds .any e with
  |true=>
   simp only;rw[ED,ED,G4,bQ];simp_all
  |false=>
   simp_all
def aav{l}(h:l[i]?=some B)(j):dG (mk (jG [] l) i) j=true↔∃e∈B.after.toList,Region.binds .any e/\(j=e.on\/(e.on<i/\dG (mk (jG [] l) e.on) j)):=by
 have⟨r,D,F,aq⟩:=ac8 l [];have aL:=aq i B h;simp at aL;have e:mk (jG [] l) i=us ((jG [] l).take i) B.after.toList:=by unfold mk;simp_all
 rw[e,ZU];have acc:∀n,((jG [] l).take i).getD n 0=if n<i then mk (jG [] l) n else 0:=by intro n;rw[s5,List.getElem?_take];split<;>rfl
 constructor
 .rintro⟨e,aj,an,aM⟩;refine⟨e,aj,an,?_⟩;rcases aM with aM|aM
  .simp_all
  .rw[acc]at aM;split at aM
   .simp_all
   simp_all[Ps]
 grind
def Down(av:Array Oper)(cd:Array Bool):Prop:=
 ∀(i:Nat)(B:Oper),av[i]?=some B->cd.getD i false=true->∀e∈B.after,Region.binds .any e=true->cd.getD e.on false=true
def Us(aS:Down av cd):∀(n i)(B),i<n->av[i]?=some B->(∀e∈B.after,Region.binds .any e->cd.getD e.on false)->∀j,dG (mk (jG [] av.toList) i) j->cd.getD j false
 |0,i,B,aN,aV,h,j,bl=>I
 |n+1,i,B,aN,aV,h,j,bl=>by
  have pu:av.toList[i]?=some B:=by simp_all
  have⟨e,D,F,aq⟩:=(aav pu j).1 bl;have aw:=h e (Array.mem_toList_iff.1 D) F;rcases aq with rfl|⟨be,aq⟩
  .grind
  .have ft:e.on<av.size:=by grind
   have vE:av[e.on]?=some av[e.on]:=UX ft;exact Us aS n e.on _ I vE (λb7 aL bO=>aS e.on _ vE aw b7 aL bO) j aq
def Down.YE(aS:Down av cd)(aV:av[i]?=some B)(h:cd.getD i false)(bl:dG (mk (jG [] av.toList) i) j):cd.getD j false:=
 Us aS (i+1) i B I aV (aS i B aV h) j bl
def Down.ready(aS:Down av cd)(ag:i∈Region.ready .any av cd)(bl:dG (mk (jG [] av.toList) i) j):cd.getD j false:=by have⟨br,B,aV,D⟩:=uw.1 ag;exact Us aS (i+1) i B I aV D j bl
def N3{cd:Array Bool}{i j}(h:(cd.setIfInBounds i true).getD j false):j=i\/cd.getD j false:=by
 by_cases e:i=j
 all_goals simp_all
def Down.add{av}{cd}(aS:Down av cd){i}(ag:i∈Region.ready .any av cd):Down av (cd.setIfInBounds i true):=by
 intro j B aV bl e aw aB;rcases N3 bl with rfl|bl
 .have⟨br,bH,pu,D⟩:=uw.1 ag;rw[aV]at pu;cases pu;exact AF (D e aw aB)
 .exact AF (aS j B aV bl e aw aB)
def abE(aV:av[i]?=some B)(aD:cd.getD i true=false)(h:∀j,dG (mk (jG [] av.toList) i) j->cd.getD j false):i∈Region.ready .any av cd:=by
 refine uw.2 ⟨aD,B,aV,λe aw aB=>h e.on ?_⟩;have pu:av.toList[i]?=some B:=by simp_all
 exact(aav pu e.on).2 ⟨e,Array.mem_toList_iff.2 aw,aB,.inl rfl⟩
def Rel.weaken(R:Rel ae H w)(aD:cM.next=H.next)(bI:∀x,fv x->cM.get x=H.get x\/(cM.get x).live=false):Rel ae cM w:=by
 have Y:∀x,fv x->(cM.get x).live=true->(H.get x).live=true:=λx M h=>by
  grind
 refine⟨by simp_all,λa x h=>by rw[aD];exact R.p0 a x h,λa aC=>?_,λa bz D F cH cq=>R.inj a bz D F (Y a D cH) (Y bz F cq)⟩;rcases bI a aC with e|e
 .rw[e];exact R.obj a aC
 .cases a0:cM.get a with
  |none=>trivial|dead=>trivial
  |cells ax n z ak u ee=>rw[a0]at e;cases e
  |map es tp=>rw[a0]at e;cases e
def lk.weaken{b}(bI:∀x,fv x->cM.get x=H.get x\/(cM.get x).live=false)(h:lk ae cM b):lk ae H b:=by
 have⟨a,aC,Y,cm,ag⟩:=h;rcases bI a aC with e|e
 .exact⟨a,aC,by simp_all,cm,ag⟩
 simp_all
def Step.weaken{gQ gH}(S:Step gQ gH bT ae H w)(t7:fv gH.next)(aD:cM.next=H.next)(bI:∀x,fv x->cM.get x=H.get x\/(cM.get x).live=false):Step gQ gH bT ae cM w:=
 ⟨S.le,S.iB,by rw[aD];exact S.next,S.size,S.frame,λb h=>S.own b (h.weaken bI),λx M aY=>by
  rcases bI x I with e|e
  .rw[e];exact S.dead x M aY
  grind,S.tape,S.os,S.output⟩
def B4.weaken(bB:B4 bT ae H w)(bI:∀x,fv x->cM.get x=H.get x\/(cM.get x).live=false):B4 bT ae cM w:=
 ⟨bB.size,bB.same,λb h=>bB.zH b (h.weaken bI),bB.tape,bB.os,bB.output⟩
def Rel.aaP(R:Rel ae H w)(M:fv x)(Y:(H.get x).live):x<H.next:=by have⟨b,cm,h,_⟩:=(R.obj x M).block Y;exact R.p0 x _ h
def afW{gQ ae}{gH H}{iK bT w}(R:hB bT ae H w)(S:Step gQ gH iK ae H w){id cm}(kf:gH.next<=id)(IQ:id<H.next)(uy:ae id=none){bN}{obj}{gX}{q3}(aD:B2 ae bN obj cm gX q3){az}(t7:az.next=H.next)(bI:∀x,fv x->az.get x=if x=id then bN else H.get x):hB bT (ae.set id (w.heap.size,cm)) az (w.alloc obj)/\Step gQ gH iK (ae.set id (w.heap.size,cm)) az (w.alloc obj)/\bP (ae.set id (w.heap.size,cm)) (gX id) (q3 w.heap.size)/\ae.le (ae.set id (w.heap.size,cm)):=by
 have hle:ae.le (ae.set id (w.heap.size,cm)):=cX.EW _ uy;have nJ:(ae.set id (w.heap.size,cm)) id=some (w.heap.size,cm):=cX.Dl _ _ _;have⟨aj,an⟩:=aD _ (w.alloc obj) w.heap.size id hle nJ (Kk w obj);have iH:(w.alloc obj).heap.size=w.heap.size+1:=aje w obj;have pk:∀a ep gn,fv a->a≠id->(H.get a).live=true->(ae.set id (w.heap.size,cm)) a=some (ep,gn)->ep<w.heap.size/\lk ae H ep:=by intro a ep gn aC ed Y ag;rw[cX.rr _ _ ed]at ag;exact⟨R.rel.Mp ⟨a,aC,Y,gn,ag⟩,a,aC,Y,gn,ag⟩
 have own:∀b,lk (ae.set id (w.heap.size,cm)) az b->w.heap.size<=b\/lk ae H b:=by
  rintro b ⟨a,aC,Y,gn,ag⟩;grind
 refine⟨⟨⟨by simp_all,?_,?_,?_⟩,?_⟩,?_,an,hle⟩
 .intro a x M;rw[t7];by_cases e:a=id
  .simp_all
  .rw[cX.rr _ _ e]at M;exact R.rel.p0 a x M
 .intro a aC;rw[bI a aC];by_cases e:a=id
  .simp_all
  .rw[cO e];exact(R.rel.obj a aC).mono hle λep gn Y ag=>CC w obj (R.rel.Mp ⟨a,aC,Y,gn,ag⟩)
 .intro bk bu D F cH cq ep uC yA dC b3;rw[bI bk D]at cH;rw[bI bu F]at cq;by_cases aP:bk=id<;>by_cases a3:bu=id
  .grind
  .grind
  .grind
  .rw[cO aP]at cH;rw[cO a3]at cq;rw[cX.rr _ _ aP]at dC;rw[cX.rr _ _ a3]at b3;exact R.rel.inj bk bu D F cH cq ep uC yA dC b3
 .refine⟨by have:=R.kv.size;omega,λb aB=>?_,λb aV=>?_,R.kv.tape,R.kv.os,R.kv.output⟩
  .rw[CC w obj (pD aB R.kv.size)];exact R.kv.same b aB
  .rcases own b aV with h|h
   .exact nR R.kv.size h
   .exact R.kv.zH b h
 .refine⟨cX.le_trans S.le hle,λa aC=>?_,by grind,by have:=S.size;omega,λb aB ju=>?_,λb aV=>?_,λx M aY=>?_,S.tape,S.os,S.output⟩
  .rw[cX.rr _ _ I];exact S.iB a aC
  .rw[CC w obj (pD aB S.size)];exact S.frame b aB ju
  .rcases own b aV with h|h
   .exact .inl (nR S.size h)
   .exact S.own b h
  .have kW:fv x:=by simp_all
   rw[bI x kW,cO I];exact S.dead x M aY
def anv{gQ ae bG}{gH vM cM az Ed}{iK bT w bi}(R:hB bT ae vM w)(S:Step gQ gH iK ae vM w)(vW:hB bT bG az bi)(ei:Step ae cM w bG az bi)(rD:cM.next=vM.next)(X)[DecidablePred X](cR:∀x,X x->x<vM.next/\gH.next<=x/\(cM.get x).live=false/\(vM.get x).live)(acx:∀x,fv x->¬X x->cM.get x=vM.get x\/(cM.get x).live=false)(l9:Ed.next=az.next)(Cl:∀x,fv x->Ed.get x=if X x then vM.get x else az.get x):hB bT bG Ed bi/\Step gQ gH iK bG Ed bi:=by
 have cw:∀x,fv x->cM.get x=vM.get x\/(cM.get x).live=false:=λx M=>by
  grind
 have be:∀x,X x->fv x:=λx h=>gp;have place:∀x,X x->∃b cm,ae x=some (b,cm)/\bG x=some (b,cm)/\b<w.heap.size/\¬lk ae cM b/\lk ae vM b/\bi.heap[b]?=w.heap[b]?:=by
  intro x h;have⟨D,F,aq,aL⟩:=cR x h;have⟨b,cm,aj,an⟩:=(R.rel.obj x (be x h)).block aL;have ju:¬lk ae cM b:=by
   rintro⟨a,aC,Y,gn,ag⟩;have jw:(vM.get a).live=true:=by
    grind
   have:=R.rel.inj a x aC (be x h) jw aL b gn cm ag aj;simp_all
  exact⟨b,cm,aj,ei.le x _ aj,an,ju,⟨x,be x h,aL,cm,aj⟩,ei.frame b an ju⟩
 have XN:∀x,X x->∀b cm,bG x=some (b,cm)->¬lk bG az b:=by
  intro x h b cm ag aV;have⟨ep,gn,aj,an,aM,bs,cp,dj⟩:=place x h;rw[ag]at an;cases an;rcases ei.own b aV with q|q
  all_goals grind
 have own:∀b,lk bG Ed b->w.heap.size<=b\/lk ae vM b:=by
  rintro b ⟨a,aC,Y,gn,ag⟩;rw[Cl a aC]at Y;by_cases h:X a
  .grind
  .rw[cO h]at Y;rcases ei.own b ⟨a,aC,Y,gn,ag⟩with q|q
   .simp_all
   .exact .inr (q.weaken cw)
 refine⟨⟨⟨by simp_all,λa x h=>by rw[l9];exact vW.rel.p0 a x h,λa aC=>?_,λbk bu D F cH cq b uC yA dC b3=>?_⟩,?_⟩,?_⟩
 .rw[Cl a aC];by_cases h:X a
  .rw[ev h];refine(R.rel.obj a aC).mono ei.le λb cm Y ag=>?_;grind
  .rw[cO h];exact vW.rel.obj a aC
 .rw[Cl bk D]at cH;rw[Cl bu F]at cq;by_cases fc:X bk<;>by_cases gv:X bu
  .rw[ev fc]at cH;rw[ev gv]at cq;have⟨cD,cT,aj,an,_⟩:=place bk fc;have⟨dp,cN,aM,bs,_⟩:=place bu gv;rw[dC]at an;rw[b3]at bs;cases an;cases bs;exact R.rel.inj bk bu D F cH cq b uC yA aj aM
  .rw[cO gv]at cq;exact absurd ⟨bu,F,cq,yA,b3⟩ (XN bk fc b uC dC)
  .rw[cO fc]at cH;exact absurd ⟨bk,D,cH,uC,dC⟩ (XN bu gv b yA b3)
  .rw[cO fc]at cH;rw[cO gv]at cq;exact vW.rel.inj bk bu D F cH cq b uC yA dC b3
 .exact⟨vW.kv.size,vW.kv.same,λb aV=>by
   rcases own b aV with q|q
   .exact nR R.kv.size q
   .exact R.kv.zH b q,vW.kv.tape,vW.kv.os,vW.kv.output⟩
 .refine⟨cX.le_trans S.le ei.le,λa aC=>?_,by have D:=ei.next;have F:=S.next;omega,nR S.size ei.size,λb aB ju=>?_,λb aV=>?_,λx M aY=>?_,
   ei.tape.trans S.tape,ei.os.trans S.os,ei.output.trans S.output⟩
  .rw[ei.iB a (by have:=S.next;omega)];exact S.iB a aC
  .have Dk:=pD aB S.size;rw[ei.frame b Dk λaV=>?_]
   .exact S.frame b aB ju
   .rcases S.own b (aV.weaken cw)with q|q
    all_goals grind
  .rcases own b aV with q|q
   .exact .inl (nR S.size q)
   .exact S.own b q
  .have kW:fv x:=by simp_all
   rw[Cl x kW,cO (λh=>by grind)];refine ei.dead x (by have:=S.next;omega) ?_;rcases cw x kW with e|e
   .rw[e];exact S.dead x M aY
   grind
def gf:List jC->bg->bg
 |[],H=>H|q::l,H=>gf l (H.put q.id q.obj)
def nY:∀(l)(H),(gf l H).next=H.next
 |[],H=>rfl
 |q::l,H=>by rw[gf,nY];rfl
def Hz(M:fv x):∀(l)(H),(∀q∈l,fv q.id)->(∀q∈l,∀eP∈l,q.id=eP.id->q=eP)->(∀q∈l,q.id=x->(gf l H).get x=q.obj)/\((∀q∈l,q.id≠x)->(gf l H).get x=H.get x)
 |[],H,_,_=>⟨by simp,λ_=>rfl⟩
 |q::l,H,Y,aC=>by
  have⟨D,F⟩:=Hz M l (H.put q.id q.obj) (λeP h=>Y eP (by grind)) (λeP h wB cz=>aC eP (by grind) wB (by grind));have a0:=Y q (by simp);refine⟨λeP lD e=>?_,λh=>?_⟩
  .show(gf l (H.put q.id q.obj)).get x=_;by_cases j4:∃wB∈l,wB.id=x
   .grind
   .have ed:∀wB∈l,wB.id≠x:=λwB g b7=>j4 ⟨wB,g,b7⟩;rw[F ed];rcases hS.1 lD with rfl|lD
    .simp_all[bg.pR]
    simp_all
  .show(gf l (H.put q.id q.obj)).get x=_;rw[F λeP g=>h eP (by grind),bg.pR _ _ _ _ a0 M,cO (λe=>h q (by simp) e.symm)]
def y1:∀(l)(H)(k),xr l H k=k (gf l H)
 |[],H,k=>rfl
 |q::l,H,k=>by show qz H q.id q.obj (λH=>xr l H k)=_;rw[s9,y1];rfl
inductive amR where
 |pure
 |load (t:TypeId) (p:bp)
 |alloc (id:Nat) (bN:gW)
 |writer
structure lF where
 i:Nat
 v:bp
 k:amR
def gF(av:gT)(bA:List lF):dM:=bA.map λe=>(av[e.i]?).bind (·.dst)
def ik(bA:List lF):cx:=bA.map (·.v)
def n4(bA:List lF)(i:Nat):Prop:=∃e∈bA,e.i=i
def acr(P:Program)(B:Oper):Prop:=ab4 B.op=true\/(match me P B.op with|.pure=>false|_=>true)=true
section
variable(P:Program)(es:aO)(aT:Nat)(T:ca)(av:gT)
def rI(ae:cX)(B:Oper)(bA:List lF)(a:Act):Prop:=∀t∈uU av B,xn ae es (gF av bA) (ik bA) T a t
def AH(bA:List lF)(e:lF)(B:Oper):Prop:=match e.k with
 |.pure=>∀ae a,rI es T av ae B bA a->∃V,bP ae e.v V/\Yields P av.toArray B V a|.load t p=>acr P B/\∀ae a,rI es T av ae B bA a->Region.wanted B (yielded av.toArray a.tmps)=true/\∃MZ,bP ae p MZ/\∀w V,(Instr.loadAt t MZ).run P w=.ok V w->(execOp a.eval B).run P w=.ok (.value V) w
 |.alloc id bN=>acr P B/\bN.live=true/\∀ae a,rI es T av ae B bA a->Region.wanted B (yielded av.toArray a.tmps)=true/\∃obj cm gX q3,gX id=e.v/\B2 ae bN obj cm gX q3/\
  ∀w,(execOp a.eval B).run P w=.ok (.value (q3 w.heap.size)) (w.alloc obj)
 |.writer=>True
def QM(bb:aO)(bA:List lF)(e:lF):Prop:=∃B,av[e.i]?=some B/\(∀d,B.dst=some d->d<aT)/\(∀j,dG (mk bb e.i) j=true->n4 bA j)/\¬n4 bA e.i/\AH P es T av bA e B
def nm(bb:aO):List lF->Prop
 |[]=>True|e::bA=>QM P es aT T av bb bA e/\nm bb bA
end
section
variable{P:Program}{es:aO}{aT:Nat}{T:ca}{av:gT}
def fM(P:Program)(i:Nat)(gX:Bool)(e:lF)(H az:bg)(cc gO:List jF)(bh fG:List jC):Prop:=match e.k with
 |.pure=>az=H/\gO=cc/\fG=bh|.load t p=>az=H/\fG=bh/\o3 P (gf bh H) t p e.v/\gO=if gX then⟨i,p,js P t,e.v⟩::cc else cc|.alloc id bN=>id=H.next/\fv H.next/\az=⟨H.next+1,H.t⟩/\gO=cc/\fG=⟨i,id,bN⟩::bh|.writer=>False
variable{bA:List lF}
def rI.wG{a}(h:rI es T av ae B bA a):∀x∈B.op.operands.toList,j7 ae es (gF av bA) (ik bA) T a x:=by intro x M;refine j7.adE λt au=>h t ?_;unfold uU adz;grind
def rI.guard{ae}{B}{bA}{a}(h:rI es T av ae B bA a){j}{lB}(bI:B.guard=some (j,lB)){d:Nat}(aY:(av[j]?).bind (·.dst)=some d):xn ae es (gF av bA) (ik bA) T a d:=by refine h d ?_;unfold uU;simp_all
def afg(cw:∀ae a,rI es T av ae B bA a->Region.wanted B (yielded av.toArray a.tmps))(h:(pI P es (gF av bA) i gX B.op).f call (ik bA) T H cc bh k a8):∃e az gO fG,e.i=i/\AH P es T av bA e B/\k (e.v::ik bA) az gO fG/\fM P i gX e H az cc gO bh fG:=by
 generalize eI:B.op=op at h;unfold pI at h;split at h
 .rename_i t x;have rV:∀w,o3 P (gf bh H) t ((eF es (gF av bA) x).g (ik bA) T) w->AH P es T av bA ⟨i,w,.load t ((eF es (gF av bA) x).g (ik bA) T)⟩ B:=by
   intro w Jo;refine⟨.inl (by rw[eI];rfl),λae a Y=>?_⟩;refine⟨cw ae a Y,a.eval x,?_,λw V gm=>?_⟩
   .have:=Y.wG x (by simp_all[Op.operands]);exact this
   .unfold execOp;simp_all
  generalize bI:eF es (gF av bA) x=g at h rV;have y9:=λk=>VI (P:=P) (t:=t) (p:=g.g (ik bA) T) (H:=gf bh H) (k:=k);have⟨g⟩:=g;cases gX with
  |true=>simp[y1]at h;have⟨w,D,F⟩:=y9 _ h;exact⟨⟨i,w,.load t (g (ik bA) T)⟩,H,_,bh,rfl,rV w F,D,rfl,rfl,F,by grind⟩
  |false=>simp[y1]at h;have⟨w,D,F⟩:=y9 _ h;exact⟨⟨i,w,.load t (g (ik bA) T)⟩,H,_,bh,rfl,rV w F,D,rfl,rfl,F,by simp⟩
 .split at h
  .have hu:=λk=>ahp (P:=P) (es:=es) (ah:=gF av bA) (L:=ik bA) (T:=T) (B:=B) (k:=k);rw[eI]at hu;split at h;rename_i f a1;have vn:=hu (λw=>k (w::ik bA) H cc bh) (by simp_all);have⟨v,D,F⟩:=vn;refine⟨⟨i,v,.pure⟩,H,cc,bh,rfl,λae a Y=>?_,D,rfl,rfl,rfl⟩;have⟨V,aq,aL⟩:=F ae a (by rw[<-eI];exact Y.wG);exact⟨V,aq,.inl ⟨cw ae a Y,aL⟩⟩
  .rename_i aub;have hu:=λk=>Yu (P:=P) (es:=es) (ah:=gF av bA) (L:=ik bA) (T:=T) (B:=B) (k:=k);rw[eI]at hu;split at h;rename_i f a1;have⟨bN,alh,D,F,aq⟩:=hu (λB w=>D0 H λl7 t=>k (w l7::ik bA) ⟨Nat.succ l7,t⟩ cc (⟨i,l7,B⟩::bh)) (by simp_all);have bO:=D;refine⟨⟨i,alh H.next,.alloc H.next bN⟩,_,cc,_,rfl,⟨.inr (by simp_all),F,λae a Y=>⟨cw ae a Y,?_⟩⟩,bO,rfl,gp,rfl,rfl,rfl⟩;have⟨obj,cm,q3,cr,fK⟩:=aq ae a (by rw[<-eI];exact Y.wG);grind
  .exact ci h
def apb(h:(sQ es aT av (gF av bA) B (pI P es (gF av bA) i gX B.op)).f call (ik bA) T H cc bh k a8):(∀d,B.dst=some d->d<aT)/\∃e az gO fG,e.i=i/\AH P es T av bA e B/\k (e.v::ik bA) az gO fG/\fM P i gX e H az cc gO bh fG:=by
 have aY:∀d,B.dst=some d->Nat.blt d aT=true:=by
  intro d kG;cases a0:Nat.blt d aT with
  |true=>rfl|false=>unfold sQ at h;simp only[kG,a0]at h;exact ci h
 have h:(match B.guard with
  |none=>pI P es (gF av bA) i gX B.op
  |some (j,w)=>match(av[j]?).bind (·.dst)with
   |some d=>D3 (ls es (gF av bA) d) w (pI P es (gF av bA) i gX B.op)
   |none=>zY).f call (ik bA) T H cc bh k a8=true:=by
  unfold sQ at h
  cases vv:B.dst with
  |none=>simp only[vv]at h;exact h|some d=>simp only[vv,aY d vv]at h;exact h
 refine⟨λd kG=>dg.1 (aY d kG),?_⟩;cases bI:B.guard with
 |none=>rw[bI]at h;exact afg (λae a _=>by unfold Region.wanted;rw[bI]) h
 |some H5=>
  have⟨j,lB⟩:=H5;rw[bI]at h;simp only at h;cases kG:(av[j]?).bind (·.dst)with
  |none=>rw[kG]at h;exact ci h
  |some d=>
   rw[kG]at h;simp only at h;have G6:(av.toArray[j]?).bind (·.dst)=some d:=by simpa using kG
   have yes:(∃b,(ls es (gF av bA) d).g (ik bA) T=.bool b/\(b==lB)=true)->(pI P es (gF av bA) i gX B.op).f call (ik bA) T H cc bh k a8=true->
    ∃e az gO fG,e.i=i/\AH P es T av bA e B/\k (e.v::ik bA) az gO fG=true/\fM P i gX e H az cc gO bh fG:=by
    rintro⟨b,aB,Uk⟩ F
    exact afg (λae a Y=>by rw[(J1 bI G6 (Y.guard bI kG)).1 b aB];exact Uk) F
   have no:((∃b,(ls es (gF av bA) d).g (ik bA) T=.bool b/\(b==lB)=false)\/(ls es (gF av bA) d).g (ik bA) T=.undef)->k (.undef::ik bA) H cc bh=true->
    ∃e az gO fG,e.i=i/\AH P es T av bA e B/\k (e.v::ik bA) az gO fG=true/\fM P i gX e H az cc gO bh fG:=by
    intro aD F
    refine⟨⟨i,.undef,.pure⟩,H,cc,bh,rfl,λae a Y=>⟨undef,Fh,.inr ⟨?_,rfl⟩⟩,F,rfl,rfl,rfl⟩
    have⟨ef,fO⟩:=J1 bI G6 (Y.guard bI kG)
    rcases aD with⟨b,aB,Uk⟩|hu
    .rw[ef b aB];exact Uk
    .exact fO hu
   generalize ls es (gF av bA) d=g at h yes no;generalize pI P es (gF av bA) i gX B.op=y at h yes;have⟨g⟩:=g;have⟨y⟩:=y;cases lB with
   |true=>
    rcases FN h with⟨b,e,aq⟩|⟨e,aq⟩
    .rcases iE aq with⟨aB,aL⟩|⟨aB,aL⟩
     .exact yes ⟨b,e,by rw[aB];rfl⟩ aL
     .exact no (.inl ⟨b,e,by rw[aB];rfl⟩) aL
    .exact no (.inr e) aq
   |false=>
    rcases FN h with⟨b,e,aq⟩|⟨e,aq⟩
    .rcases iE aq with⟨aB,aL⟩|⟨aB,aL⟩
     .exact no (.inl ⟨b,e,by rw[aB];rfl⟩) aL
     .exact yes ⟨b,e,by rw[aB];rfl⟩ aL
    .exact no (.inr e) aq
end
end Go.Ev
