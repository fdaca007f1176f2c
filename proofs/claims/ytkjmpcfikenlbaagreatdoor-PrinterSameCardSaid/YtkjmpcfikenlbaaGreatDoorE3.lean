/- A part. -/
import Derived.Laws.Strings
import Derived.Laws.StructEq
import Derived.Test.YtkjmpcfikenlbaaGreatDoorE2
set_option linter.all false
namespace Go.Ev
open Go
def TO(P)(t):(ID P).eV t=P.underlying t:=rfl
def GP(P)(t):(ID P).inf t=P.info? t:=rfl
section
variable{P:Program}{w:World}
def h6{t}{d}(h:P.underlying t=some d):(underlying t).run P w=.ok d w:=by simp[underlying,h]
variable{n:Nat}{z:bp}
def ar2{t}(h:fy P t=some n):∃i,P.info? t=some i/\i.size=n:=by
 unfold fy at h;rw[GP]at h;simp_all
def rF{t}(h:fy P t=some n):(sizeOf t).run P w=.ok n w:=by have⟨i,D,F⟩:=ar2 h;simp_all[sizeOf,typeInfo]
def Y5{t}(h:p6 P t=some z):∃i g9,P.info? t=some i/\i.zero=some g9/\mP g9=some z:=by
 unfold p6 at h;rw[GP]at h;cases aN:P.info? t<;>grind
def PA{t}(h:p6 P t=some z):∃g9,mP g9=some z/\∀w,(zeroValue t).run P w=.ok g9 w:=by have⟨i,g9,D,F,aq⟩:=Y5 h;simp_all[zeroValue,typeInfo]
def FL{b}{t}(h:p8 P t=some b):(isAgg t).run P w=.ok b w:=by
 unfold p8 at h;rw[TO]at h;unfold isAgg;cases hu:P.underlying t with
 |none=>simp_all
 |some d=>rw[hu]at h;rw[jm,h6 hu];cases d<;>(simp_all)
end
def ca.slot(T:ca)(s:Nat):bp:=
 (match ea (s / 8 % 8)with
  |.d0=>T.mL|.d1=>T.cD|.d2=>T.dp|.d3=>T.ga|.d4=>T.fX|.d5=>T.hO|.d6=>T.kd|.d7=>T.nE).get (ea (s % 8))
def NL(s)(L)(T):(Zq s).g L T=T.slot s:=by change(bD (ea (s % 8))).s ((slt (ea (s / 8 % 8))).s T)=_;rw[oQ];unfold ca.slot;cases ea (s / 8 % 8)<;>rfl
def CF:∀(n)(L)(T),(FH n).g L T=L.getD n .any
 |0,L,T=>by cases L<;>rfl
 |1,L,T=>by rcases L with _|⟨a,_|⟨b,L⟩⟩<;>rfl
 |2,L,T=>by rcases L with _|⟨a,_|⟨b,_|⟨c,L⟩⟩⟩<;>rfl
 |n+3,L,T=>by
  have h:(FH (n+3)).g L T=(FH n).g (o2 (o2 (o2 L))) T:=by simp_all[FH]
  rw[h,CF n];rcases L with _|⟨a,_|⟨b,_|⟨c,L⟩⟩⟩<;>simp
def xn(ae:cX)(es:aO)(ah:dM)(L:cx)(T:ca)(a:Act)(t:Nat):Prop:=
 bP ae ((ls es ah t).g L T) (a.tmps.getD t undef)
def j7(ae:cX)(es:aO)(ah:dM)(L:cx)(T:ca)(a:Act)(x:Operand):Prop:=
 bP ae ((eF es ah x).g L T) (a.eval x)
def j7.adE{ae}{es}{ah}{L}{T}{a}{x:Operand}(h:∀t,x=.tmp t->xn ae es ah L T a t):j7 ae es ah L T a x:=by
 cases x with
 |tmp t=>exact h t rfl
 |const v=>
  show bP ae ((match mP v with|some v=>Rc v|none=>JG).g L T) v;cases M:mP v with
  |none=>exact Cr _|some y=>exact OO M
 |func f=>exact⟨[],[],rfl,dh.nil,dh.nil⟩|global g=>exact Cr _
section
variable{ae:cX}{es:aO}{ah:dM}{L:cx}{T:ca}{a:Act}{P:Program}
def KA:∀{l},(∀x∈l,j7 ae es ah L T a x)->dh ae ((qh es ah l).g L T) (l.map a.eval)
 |[],_=>dh.nil
 |x::l,h=>dh.cons (h x (by simp)) (KA λy aE=>h y (by grind))
def IS{v b k V}(h:pd v b k)(aI:bP ae v V)(aB:b<=9223372036854775808):∃n c,k n/\n<b/\3<=c/\c<8/\V=.int (jS c) n:=by obtain⟨c,n,rfl,h⟩:=m6 h;have⟨D,h⟩:=fi h;have⟨F,h⟩:=fi h;rw[dT]at D;rw[dg]at F;obtain⟨aq,aL,rfl⟩:=aI;refine⟨n,c,h,F,D,aq,?_⟩;rw[lH];rcases ud aq with⟨e,_,a3⟩|⟨e,_,a3⟩|⟨e,_,a3⟩|⟨e,_,a3⟩|⟨e,aP,a3⟩|⟨e,aP,a3⟩|⟨e,aP,a3⟩|⟨e,aP,a3⟩<;>omega
def Ub{l i k}(h:vh l i k):∃v,l[i]?=some v/\k v:=by
 have⟨D,F⟩:=C2 h;cases aY:l.drop i with
 |nil=>simp_all
 |cons v r=>
  rw[aY]at F;refine⟨v,?_,F⟩;have:(l.drop i)[0]?=some v:=by rw[aY];rfl
  grind
def aef{op}{e5}{t}{cs fh}{X et}{k}(h:(vZ op (cv e5) cs fh).f L T k)(M:bP ae (cs.g L T) X)(aE:bP ae (fh.g L T) et):ku ae k (binOp op t X et) P:=by
 have⟨cs⟩:=cs;have⟨fh⟩:=fh;unfold vZ at h;split at h
 .have⟨en,bk,aP,aj⟩:=m6 h;have⟨gI,cD,a3,an⟩:=m6 aj;have⟨D,aM⟩:=fi an;have⟨F,h⟩:=fi aM;rw[dT]at F;have bC:=dA.1 D;rw[<-bC]at h;simp at M aE;rw[aP]at M;rw[a3]at aE;obtain⟨fc,gv,rfl⟩:=M;obtain⟨kx,n1,rfl⟩:=aE;have aB:eM gI cD=cD:=lH (by rcases ud kx with⟨_,e,b7⟩|⟨_,e,b7⟩|⟨_,e,b7⟩|⟨_,e,b7⟩|⟨_,e,b7⟩|⟨_,e,b7⟩|⟨_,e,b7⟩|⟨_,e,b7⟩<;>omega);rw[k5]at h;refine .mk h (oZ fc (mA _ (x4 _))) λw=>?_;rw[aB];simp only[binOp,Op.shift];rw[cO I];simp only[Ol,kp];have dv:(jS en).wrap (eM en bk*2 ^ min cD (jS en).bits)=eM en (Nat.mod (Nat.mul bk (Nat.pow 2 cD)) (cF en)):=by
   refine tI fc (mA _ (x4 _)) ?_;show _=(((bk*2 ^ cD) % cF en:Nat):Int);rw[ME];rcases Nat.le_total cD (jS en).bits with hle|hle
   .simp_all[Int.mul_emod,wh]
   .rw[Nat.min_eq_right hle];have e:((2:Int) ^ (jS en).bits)=(cF en:Int):=by rw[<-GO fc];simp_all
    rw[e,Int.mul_emod_left];have⟨d,aY⟩:=Nat.exists_eq_add_of_le hle;have a3:((bk*2 ^ cD:Nat):Int)=(bk*2 ^ d:Nat)*(cF en:Int):=by grind
    simp_all
  rw[dv]
 .have⟨en,bk,aP,aj⟩:=m6 h;have⟨gI,cD,a3,an⟩:=m6 aj;have⟨D,aM⟩:=fi an;have⟨F,bs⟩:=fi aM;have⟨aq,h⟩:=fi bs;rw[dT]at F;rw[dg]at aq;have bC:=dA.1 D;rw[<-bC]at h aq;simp at M aE;rw[aP]at M;rw[a3]at aE;obtain⟨fc,gv,rfl⟩:=M;obtain⟨kx,n1,rfl⟩:=aE;have aB:eM gI cD=cD:=lH (by rcases ud kx with⟨_,e,b7⟩|⟨_,e,b7⟩|⟨_,e,b7⟩|⟨_,e,b7⟩|⟨_,e,b7⟩|⟨_,e,b7⟩|⟨_,e,b7⟩|⟨_,e,b7⟩<;>omega);rw[k5]at h;have be:Nat.div bk (Nat.pow 2 cD)<cF en:=vK (Nat.div_le_self _ _) gv;refine .mk h (oZ fc be) λw=>?_;rw[aB,lH aq];simp only[binOp,Op.shift];rw[cO I];simp only[Ol,kp];have dv:((bk:Int).fdiv (2 ^ min cD (jS en).bits))=eM en (Nat.div bk (Nat.pow 2 cD)):=by
   have jw:Nat.div bk (Nat.pow 2 cD)<eK en:=vK (Nat.div_le_self _ _) aq;rw[lH jw];have fg:((2:Int) ^ min cD (jS en).bits)=((2 ^ min cD (jS en).bits:Nat):Int):=by simp_all
   rw[fg,Int.fdiv_eq_ediv_of_nonneg _ (Int.natCast_nonneg _),<-Int.natCast_ediv];rcases Nat.le_total cD (jS en).bits with hle|hle
   .rw[DE hle];rfl
   .rw[Nat.min_eq_right hle,GO fc,Nat.div_eq_of_lt gv];have:bk / 2 ^ cD=0:=Nat.div_eq_of_lt (pD gv (by rw[<-GO fc];simp_all[Nat.pow_le_pow_right]));show((0:Nat):Int)=((bk / 2 ^ cD:Nat):Int);grind
  rw[dv]
 .have ap:=λ(a b:Nat)(h:(nn op (cv e5) (cF (cv e5)) (eK (cv e5))).f a b k=true)=>ara (ae:=ae) (P:=P) (t:=t) h (rT e5);generalize nn op (cv e5) (cF (cv e5)) (eK (cv e5))=f at h ap;have⟨f⟩:=f;have num:∀en bk,cs L T=.int en bk->(gN (fh L T) λgI b=>bd (Nat.beq en (cv e5)) (bd (Nat.beq gI (cv e5)) (f bk b k) false) false)=true->ku ae k (binOp op t X et) P:=by intro en bk aP h;have⟨gI,cD,a3,h⟩:=m6 h;have⟨D,h⟩:=fi h;have⟨F,h⟩:=fi h;simp_all[bP]
  cases FO:JF op with
  |false=>rw[FO]at h;have⟨en,bk,aP,h⟩:=m6 h;simp_all
  |true=>
   rw[FO]at h;have eI:op=.rem:=by cases op<;>first|rfl|cases FO
   rcases Qu h with⟨en,bk,aP,h⟩|⟨en,m,r,aP,h⟩
   .simp_all
   .have⟨gI,cD,a3,h⟩:=m6 h;have⟨D,h⟩:=fi h;have⟨F,h⟩:=fi h;have⟨aq,h⟩:=fi h;have⟨aL,h⟩:=fi h;have⟨bO,h⟩:=fi h;have⟨cr,ar⟩:=fi h;have D:=dA.1 D;have F:=dA.1 F;have aq:=dT.1 aq;have aL:=dA.1 aL;have bO:=dg.1 bO;simp at M aE;rw[aP]at M;rw[a3]at aE;obtain⟨n,gv,n5,rfl,xq⟩:=M;obtain⟨kx,n1,rfl⟩:=aE;subst aL;have s8:en % 8=cv e5:=D;rw[s8]at gv n5 xq ⊢;rw[F]at kx n1 ⊢;have gU:eK (cv e5)=cF (cv e5)\/8<=en:=by
     by_cases hI:8<=en
     .simp_all
     .have Bo:en % 8=en:=qM I;rw[<-s8,Bo];rcases ud (I:en<8)with⟨fg,e,b7⟩|⟨fg,e,b7⟩|⟨fg,e,b7⟩|⟨fg,e,b7⟩|⟨fg,e,b7⟩|⟨fg,e,b7⟩|⟨fg,e,b7⟩|⟨fg,e,b7⟩<;>omega
    have aD:eM (cv e5) n=n/\n<eK (cv e5):=by
     rcases gU with gU|gU
     .exact⟨lH I,I⟩
     .have:=xq gU;unfold eM at this ⊢;grind
    have⟨aD,BW⟩:=aD;rw[aD]at n5;have ag:n % cD=r:=by
     grind
    have be:r<cF (cv e5):=by rw[<-ag];exact vK (Nat.mod_le n cD) gv
    have apZ:r<eK (cv e5):=by rw[<-ag];exact vK (Nat.mod_le n cD) BW
    have aB:eM (cv e5) cD=cD:=lH (dg.1 cr);refine .mk ar (oZ (rT e5) be) λw=>?_;rw[eI,oD _ _ _ _ _ _ _ (by simp) (by simp),aD,aB,lH apZ];have:¬((cD:Int)=0):=I;simp only[Op.intDiv,this,sY,kp];grind
def toList_mk(l:lS):(⟨l.toArray⟩:ByteArray).toList=l:=by simp_all
def Qd{l n}(h:l<=1152921504606846976):bP ae (.str l n) (.string ⟨(ez l n).toArray⟩):=by simp_all[bP]
def alm(x y:lS):(⟨x.toArray⟩:ByteArray)++⟨y.toArray⟩=⟨(x++y).toArray⟩:=by
 have:((⟨x.toArray⟩:ByteArray)++⟨y.toArray⟩).data.toList=(⟨(x++y).toArray⟩:ByteArray).data.toList:=by simp
 exact ByteArray.ext (Array.toList_inj.1 this)
def WK(x:lS)(i j):(⟨x.toArray⟩:ByteArray).extract i j=⟨((x.take j).drop i).toArray⟩:=by
 have:((⟨x.toArray⟩:ByteArray).extract i j).data.toList=(⟨((x.take j).drop i).toArray⟩:ByteArray).data.toList:=by simp_all[List.drop_take]
 exact ByteArray.ext (Array.toList_inj.1 this)
def Gf(x:lS):(⟨x.toArray⟩:ByteArray).size=x.length:=by simp[ByteArray.size]
def agK(x:lS)(i:Nat):(⟨x.toArray⟩:ByteArray)[i]?=x[i]?:=by
 by_cases h:i<x.length
 .have cz:i<(⟨x.toArray⟩:ByteArray).size:=by exact h
  rw[getElem?_pos (⟨x.toArray⟩:ByteArray) i cz,getElem?_pos x i h];rfl
 simp_all[Gf]
def apB{op}{t}{cs fh}{X et}{k}(h:(zn op cs fh).f L T k)(M:bP ae (cs.g L T) X)(aE:bP ae (fh.g L T) et):ku ae k (binOp op t X et) P:=by
 have⟨cs⟩:=cs;have⟨fh⟩:=fh;have w9:∀{f:Nat->Nat->Nat->Nat->Bool},(hE (cs L T) λl n=>hE (fh L T) λaK cI=>f l n aK cI)=true->
  ∃l n aK cI,f l n aK cI=true/\l<=1152921504606846976/\aK<=1152921504606846976/\X=.string ⟨(ez l n).toArray⟩/\et=.string ⟨(ez aK cI).toArray⟩:=by
  intro f a1
  have⟨l,n,aP,aj⟩:=sL a1
  have⟨aK,cI,a3,an⟩:=sL aj
  grind[bP]
 have Qs:∀l n aK cI,(ez l n==ez aK cI)=uD l n aK cI:=λl n aK cI=>by rw[Bool.eq_iff_iff,p7,NV]
 unfold zn at h;simp only at h;split at h
 .obtain⟨l,n,aK,cI,g,D,F,rfl,rfl⟩:=w9 h;have⟨aq,g⟩:=fi g;rw[dT]at aq;simp at g;refine .mk g (Qd aq) λw=>?_;simp[binOp,Op.stringOp,Gf,p5];rw[cO (by grind[IntKind.max,IntKind.bits])];rw[alm,<-V8];rfl
 .obtain⟨l,n,aK,cI,g,D,F,rfl,rfl⟩:=w9 h;rw[Dq]at g;refine .mk g (kT _) λw=>?_;simp_all[binOp,Op.stringOp]
 .obtain⟨l,n,aK,cI,g,D,F,rfl,rfl⟩:=w9 h;rcases iE g with⟨q,g⟩|⟨q,g⟩<;>
   (refine .mk g (kT _) λw=>?_;simp only[binOp,Op.stringOp,toList_mk,Qs,kp,q,Mc,Nf])
 .obtain⟨l,n,aK,cI,g,D,F,rfl,rfl⟩:=w9 h;rw[Dq]at g;refine .mk g (kT _) λw=>?_;simp_all[binOp,Op.stringOp,Ar]
 .obtain⟨l,n,aK,cI,g,D,F,rfl,rfl⟩:=w9 h;rcases iE g with⟨q,g⟩|⟨q,g⟩
  .refine .mk g (kT _) λw=>?_;simp[binOp,Op.stringOp,<-Ar,q]
  .rcases iE g with⟨eP,g⟩|⟨eP,g⟩<;>
    (refine .mk g (kT _) λw=>?_;simp only[binOp,Op.stringOp,toList_mk,Qs,<-Ar,kp,q,eP,agP,Mc,Nf])
 .obtain⟨l,n,aK,cI,g,D,F,rfl,rfl⟩:=w9 h;rcases iE g with⟨q,g⟩|⟨q,g⟩
  .refine .mk g (kT _) λw=>?_;simp[binOp,Op.stringOp,<-Ar,q]
  .rw[Dq]at g;refine .mk g (kT _) λw=>?_;simp[binOp,Op.stringOp,Qs,<-Ar,q]
 .obtain⟨l,n,aK,cI,g,D,F,rfl,rfl⟩:=w9 h;rcases iE g with⟨q,g⟩|⟨q,g⟩<;>
   (refine .mk g (kT _) λw=>?_;simp only[binOp,Op.stringOp,toList_mk,<-Ar,kp,q,Mc,Nf])
 .exact ci h
def Q9{t}{X et}{b}{w}(h:∀d,(Op.equalIn (d+1) t X et).run P w=.ok b w):(Op.equal t X et).run P w=.ok b w:=h 9999
def aku{op}{t}{cs fh}{X et}{k}(hu:P.underlying t=some .bool)(h:(yW op cs fh).f L T k)(M:bP ae (cs.g L T) X)(aE:bP ae (fh.g L T) et):ku ae k (binOp op t X et) P:=by
 have⟨cs⟩:=cs;have⟨fh⟩:=fh;have w9:∀{f:Bool->Bool->Bool},(ni (cs L T) λa=>ni (fh L T) λb=>f a b)=true->∃a b,f a b=true/\X=.bool a/\et=.bool b:=by intro f a1;have⟨l,aP,aj⟩:=AC a1;have⟨aK,a3,an⟩:=AC aj;simp_all[bP]
 have run:∀(a b:Bool)(w:World),(Op.equal t (.bool a) (.bool b)).run P w=.ok (a==b) w:=λa b w=>by refine Q9 λd=>?_;simp[Op.equalIn,h6 hu]
 unfold yW at h;simp at h;split at h
 .obtain⟨a,b,g,rfl,rfl⟩:=w9 h;have:k (.bool (a==b))=true:=by cases a<;>cases b<;>simpa using g
  refine .mk this (kT _) λw=>?_;simp[binOp,run]
 .obtain⟨a,b,g,rfl,rfl⟩:=w9 h;have:k (.bool (!(a==b)))=true:=by cases a<;>cases b<;>simpa using g
  refine .mk this (kT _) λw=>?_;simp[binOp,run]
 .exact ci h
end
section
variable{ae:cX}{x y:bp}{X et:Value}{t:TypeId}{L:cx}{T:ca}{P:Program}
variable{b q:Bool}{k:Bool->Bool}
def Xv(h:sr P t=some b):∃f g,P.underlying t=some (.struct (P.fieldsOf t))/\(P.fieldsOf t).toList=[f,g]/\P.stoodInHeld t=false/\P.eqGuardType P.depth t=false/\f.name≠ "_"/\g.name≠ "_"/\f.offset=0/\g.offset=1/\P.underlying f.type=some .string/\(b=true/\P.underlying g.type=some .string\/b=false/\P.underlying g.type=some (.int .i64)):=by
 unfold sr at h;split at h
 .rename_i cK hu;split at h
  .rename_i f g Y;split at h
   .rename_i D F aq;cases h;simp at D;exact⟨f,g,by simp_all[Program.fieldsOf],by simp_all[Program.fieldsOf],by simp_all,by simp_all,D.1.1.1.2,D.1.1.2,D.1.2,D.2,F,.inl ⟨rfl,aq⟩⟩
   .rename_i D F aq;cases h;simp at D;exact⟨f,g,by simp_all[Program.fieldsOf],by simp_all[Program.fieldsOf],by simp_all,by simp_all,D.1.1.1.2,D.1.1.2,D.1.2,D.2,F,.inr ⟨rfl,aq⟩⟩
   grind
  grind
 grind
def aca{t}(h:P.underlying t=some .string)(w):(isAgg t).run P w=.ok false w:=FL (by simp_all[p8,TO])
def ai2{k}{t}(h:P.underlying t=some (.int k))(w):(isAgg t).run P w=.ok false w:=FL (by simp_all[p8,TO])
def aqH{r}{Ez E9 R7 Pr:Value}(h:sr P t=some b)(br:∀u,P.underlying u=some .string->∀d w,(Op.equalIn (d+1) u Ez R7).run P w=.ok q w)(D:∀u,(b=true/\P.underlying u=some .string\/b=false/\P.underlying u=some (.int .i64))->∀d w,(Op.equalIn (d+1) u E9 Pr).run P w=.ok r w)(w:World):(Op.equalIn 10000 t (.agg #[Ez,E9]) (.agg #[R7,Pr])).run P w=.ok (bd q r false) w:=by
 obtain⟨f,g,hu,Y,ap,_,c4,cl,cL,dP,t1,j5⟩:=Xv h
 rw[run_equalIn_agg w (9998+1) t _ _ hu ap,Y]
 have bk:=aca t1
 have bu:∀w,(isAgg g.type).run P w=.ok false w:=by
  rcases j5 with⟨_,j5⟩|⟨_,j5⟩
  .exact aca j5
  .exact ai2 j5
 have fg:=br _ t1 9998
 have aP:=D _ j5 9998
 simp[Op.eqFields,c4,cl,part,bk,bu,cL,dP,fg,aP]
 cases q<;>cases r<;>rfl
def abT(h:zU b x y k=true)(M:bP ae x X)(aE:bP ae y et):∃q,k q=true/\∀u,(b=true/\P.underlying u=some .string\/b=false/\P.underlying u=some (.int .i64))->∀d w,(Op.equalIn (d+1) u X et).run P w=.ok q w:=by
 cases b
 .obtain⟨c,n,rfl,h⟩:=m6 h;obtain⟨fF,cI,rfl,h⟩:=m6 h;obtain⟨D,h⟩:=fi h;obtain⟨F,h⟩:=fi h;have D:=dA.1 D;have F:=dA.1 F;subst D F;obtain⟨_,gv,rfl⟩:=M;obtain⟨_,n1,rfl⟩:=aE;refine⟨_,h,λu hu d w=>?_⟩
  rcases hu with⟨e,_⟩|⟨_,hu⟩
  .cases e
  .rw[run_equalIn_int w d u _ _ _ _ hu];congr 1;rw[Bool.eq_iff_iff,p7,Ti af gv n1,dA]
 .obtain⟨c,n,rfl,h⟩:=sL h;obtain⟨fF,cI,rfl,h⟩:=sL h;obtain⟨_,rfl⟩:=M;obtain⟨_,rfl⟩:=aE;refine⟨_,h,λu hu d w=>?_⟩
  rcases hu with⟨_,hu⟩|⟨e,_⟩
  .rw[run_equalIn_string w d u _ _ hu];simp;congr 1;rw[Bool.eq_iff_iff,p7,NV]
  grind
def Xk(h:vp b x y k=true)(M:bP ae x X)(aE:bP ae y et)(ap:sr P t=some b):∃q,k q=true/\∃nt nA,X=.agg nt/\et=.agg nA/\∀w,(Op.equalIn 10000 t X et).run P w=.ok q w:=by
 unfold vp Dj at h;obtain⟨n,l,aP,D⟩:=LM h;obtain⟨cI,aK,a3,F⟩:=LM D;clear h D;have h:=F;clear F;subst aP a3;simp only[bP]at M aE;obtain⟨nt,rfl,cR,_⟩:=M;obtain⟨nA,rfl,ll,_⟩:=aE
 split at h
 .obtain⟨Ez,amr,rfl,n0,cR⟩:=cR.cons_inv;obtain⟨E9,amr,rfl,ic,cR⟩:=cR.cons_inv;simp only[dh]at cR;subst cR;obtain⟨R7,aqy,rfl,fC,ll⟩:=ll.cons_inv;obtain⟨Pr,aqy,rfl,dC,ll⟩:=ll.cons_inv;simp only[dh]at ll;subst ll
  obtain⟨q,h,fg⟩:=abT (P:=P) h n0 fC;obtain⟨r,h,aP⟩:=abT (P:=P) h ic dC
  simp_all[aqH]
 simp_all
def anb{x y:Operand}{nt nA:Array Value}(bI:P.eqGuardType P.depth t=false)(w)(e:(Op.equalIn 10000 t (.agg nt) (.agg nA)).run P w=.ok q w):(do eqGuard .eql t x y (.agg nt) (.agg nA);binOp .eql t (.agg nt) (.agg nA):Sem Value).run P w=.ok (.bool q) w:=by simp_all[run_eqGuard_agg,run_eql_struct]
def anM{x y:Operand}{nt nA:Array Value}(bI:P.eqGuardType P.depth t=false)(w)(e:(Op.equalIn 10000 t (.agg nt) (.agg nA)).run P w=.ok q w):(do eqGuard .neq t x y (.agg nt) (.agg nA);binOp .neq t (.agg nt) (.agg nA):Sem Value).run P w=.ok (.bool (!q)) w:=by simp_all[run_eqGuard_agg,run_neq_struct]
def arx{op}{x y:Operand}{cs fh}{k}(h:(DL (sr P t) op cs fh).f L T k)(M:bP ae (cs.g L T) X)(aE:bP ae (fh.g L T) et):ku ae k (do eqGuard op t x y X et;binOp op t X et) P:=by
 have⟨cs⟩:=cs;have⟨fh⟩:=fh;unfold DL at h;split at h
 .rename_i b ap;unfold YY at h;simp at h;obtain⟨_,_,_,_,_,bI,_⟩:=Xv ap;split at h
  .obtain⟨q,h,nt,nA,rfl,rfl,e⟩:=Xk h M aE ap;have h:k (.bool q)=true:=by simp_all
   refine .mk h (kT _) λw=>anb bI w (e w)
  .obtain⟨q,h,nt,nA,rfl,rfl,e⟩:=Xk h M aE ap;have h:k (.bool (!q))=true:=by cases q<;>exact h
   refine .mk h (kT _) λw=>anM bI w (e w)
  .exact ci h
 .exact ci h
end
section
variable{ae:cX}{es:aO}{ah:dM}{L:cx}{T:ca}{a:Act}{P:Program}
def Rv:oK->TypeDesc->Prop
 |.p,.pointer _=>True|.s,.slice _=>True|.m,.map _ _=>True|.f,.func _ _ _=>True|.i,.interface _=>True|_,_=>False
def kindOf:oK->Value->Bool->Prop
 |.p,V,b=>(b=true/\V=.pointer none)\/(b=false/\∃q,V=.pointer (some q))|.s,V,b=>(b=true/\V=.slice none 0 0)\/(b=false/\∃q l c,V=.slice (some q) l c)|.m,V,b=>(b=true/\V=.map none)\/(b=false/\∃q,V=.map (some q))|.f,V,b=>(b=true/\V=.nilFunc)\/(b=false/\∃f x y,V=.func f x y)|.i,V,b=>(b=true/\V=.nilIface)\/(b=false/\∃t x,V=.iface t x)
variable{V:Value}{b:Bool}{c:oK}{cs fh:gb}{k:bp->Bool}{op:BinOp}{x:Operand}
def Wr{t}{d}(hu:P.underlying t=some d)(aY:Rv c d)(ar:kindOf c V b)(w):(Op.equal t V (iS c)).run P w=.ok b w:=by
 refine Q9 λn=>?_;cases c<;>cases d<;>(first|(exact aY.elim)|skip)
 all_goals
  simp only[kindOf]at ar
  rcases ar with⟨rfl,rfl⟩|⟨rfl,h⟩
  .simp only[Op.equalIn,iS,jm,h6 hu,jt,kp,Option.isNone]
  .first
   |(obtain⟨q,rfl⟩:=h;simp only[Op.equalIn,iS,jm,h6 hu,jt,kp])
   |(obtain⟨q,eP,rfl⟩:=h;simp[Op.equalIn,iS,h6 hu])
   |(obtain⟨q,eP,wB,rfl⟩:=h;simp only[Op.equalIn,iS,jm,h6 hu,jt,kp])
def abz{t}{d}(hu:P.underlying t=some d)(aY:Rv c d)(ar:kindOf c V b)(w):(Op.equal t (iS c) V).run P w=.ok b w:=by
 refine Q9 λn=>?_;cases c<;>cases d<;>(first|(exact aY.elim)|skip)
 all_goals
  simp only[kindOf]at ar
  rcases ar with⟨rfl,rfl⟩|⟨rfl,h⟩
  .simp only[Op.equalIn,iS,jm,h6 hu,jt,kp,Option.isNone]
  .first
   |(obtain⟨q,rfl⟩:=h;simp only[Op.equalIn,iS,jm,h6 hu,jt,kp,Option.isNone])
   |(obtain⟨q,eP,rfl⟩:=h;simp[Op.equalIn,iS,h6 hu])
   |(obtain⟨q,eP,wB,rfl⟩:=h;simp only[Op.equalIn,iS,jm,h6 hu,jt,kp,Option.isNone])
def NA{c}{t}{V}{b}(ar:kindOf c V b):(binOp .eql t V (iS c)=do pure (.bool (<-Op.equal t V (iS c))))/\(binOp .neq t V (iS c)=do pure (.bool (!(<-Op.equal t V (iS c)))))/\(binOp .eql t (iS c) V=do pure (.bool (<-Op.equal t (iS c) V)))/\(binOp .neq t (iS c) V=do pure (.bool (!(<-Op.equal t (iS c) V)))):=by
 cases c<;>simp only[kindOf]at ar<;>rcases ar with⟨_,rfl⟩|⟨_,h⟩<;>
  first
  |exact⟨rfl,rfl,rfl,rfl⟩
  |(obtain⟨q,rfl⟩:=h;exact⟨rfl,rfl,rfl,rfl⟩)
  |(obtain⟨q,eP,rfl⟩:=h;exact⟨rfl,rfl,rfl,rfl⟩)
  |(obtain⟨q,eP,wB,rfl⟩:=h;exact⟨rfl,rfl,rfl,rfl⟩)
def ac9(ar:kindOf c V b):∀l,V≠.agg l:=by intro l e;subst e;cases c<;>simp[kindOf]at ar
def Oz{eq}(h:(uG eq c cs).f L T k)(aI:bP ae (cs.g L T) V):∃b,kindOf c V b/\k (.bool (eq==b)):=by
 have⟨cs⟩:=cs;simp at aI;cases c<;>cases eq<;>simp only[uG]at h
 .rcases XJ h with⟨e,h⟩|⟨⟨nF,fc,gv,n5,e⟩,h⟩<;>rw[e]at aI<;>simp only[bP,iS]at aI
  .exact⟨true,.inl ⟨rfl,aI⟩,h⟩
  .have⟨_,_,_,aI⟩:=aI;exact⟨false,.inr ⟨rfl,_,aI⟩,h⟩
 .rcases XJ h with⟨e,h⟩|⟨⟨nF,fc,gv,n5,e⟩,h⟩<;>rw[e]at aI<;>simp only[bP,iS]at aI
  .exact⟨true,.inl ⟨rfl,aI⟩,h⟩
  .have⟨_,_,_,aI⟩:=aI;exact⟨false,.inr ⟨rfl,_,aI⟩,h⟩
 .rcases aaV h with⟨e,h⟩|⟨⟨nF,fc,gv,n5,xq,Sm,e⟩,h⟩<;>rw[e]at aI<;>simp only[bP,iS]at aI
  .exact⟨true,.inl ⟨rfl,aI⟩,h⟩
  .have⟨_,_,_,_,aI,_⟩:=aI;exact⟨false,.inr ⟨rfl,_,_,_,aI⟩,h⟩
 .rcases aaV h with⟨e,h⟩|⟨⟨nF,fc,gv,n5,xq,Sm,e⟩,h⟩<;>rw[e]at aI<;>simp only[bP,iS]at aI
  .exact⟨true,.inl ⟨rfl,aI⟩,h⟩
  .have⟨_,_,_,_,aI,_⟩:=aI;exact⟨false,.inr ⟨rfl,_,_,_,aI⟩,h⟩
 .rcases acY h with⟨e,h⟩|⟨⟨nF,e⟩,h⟩<;>rw[e]at aI<;>simp only[bP,iS]at aI
  .exact⟨true,.inl ⟨rfl,aI⟩,h⟩
  .have⟨_,_,_,aI⟩:=aI;exact⟨false,.inr ⟨rfl,_,aI⟩,h⟩
 .rcases acY h with⟨e,h⟩|⟨⟨nF,e⟩,h⟩<;>rw[e]at aI<;>simp only[bP,iS]at aI
  .exact⟨true,.inl ⟨rfl,aI⟩,h⟩
  .have⟨_,_,_,aI⟩:=aI;exact⟨false,.inr ⟨rfl,_,aI⟩,h⟩
 .rcases aeS h with⟨e,h⟩|⟨⟨nF,fc,gv,e⟩,h⟩<;>rw[e]at aI<;>simp only[bP,iS]at aI
  .exact⟨true,.inl ⟨rfl,aI⟩,h⟩
  .have⟨_,_,aI,_⟩:=aI;exact⟨false,.inr ⟨rfl,_,_,_,aI⟩,h⟩
 .rcases aeS h with⟨e,h⟩|⟨⟨nF,fc,gv,e⟩,h⟩<;>rw[e]at aI<;>simp only[bP,iS]at aI
  .exact⟨true,.inl ⟨rfl,aI⟩,h⟩
  .have⟨_,_,aI,_⟩:=aI;exact⟨false,.inr ⟨rfl,_,_,_,aI⟩,h⟩
 .rcases aeN h with⟨e,h⟩|⟨⟨nF,fc,e⟩,h⟩<;>rw[e]at aI<;>simp only[bP,iS]at aI
  .exact⟨true,.inl ⟨rfl,aI⟩,h⟩
  .have⟨_,aI,_⟩:=aI;exact⟨false,.inr ⟨rfl,_,_,aI⟩,h⟩
 .rcases aeN h with⟨e,h⟩|⟨⟨nF,fc,e⟩,h⟩<;>rw[e]at aI<;>simp only[bP,iS]at aI
  .exact⟨true,.inl ⟨rfl,aI⟩,h⟩
  .have⟨_,aI,_⟩:=aI;exact⟨false,.inr ⟨rfl,_,_,aI⟩,h⟩
def Nd(h:Aw c x)(a:Act):a.eval x=iS c/\∃v,x=.const v:=by
 cases x with
 |const v=>
  refine⟨?_,v,rfl⟩;simp only[Aw]at h;split at h
  .rename_i fF aQ;have:=OO (ae:=λ_=>none) aQ;have e:c=fF:=by simp_all
   rw[e];exact this
  simp_all
 |tmp t=>exact ci h|func f=>exact ci h|global g=>exact ci h
def ajG{t:TypeId}{bB y a9}(D:∀l,bB≠.agg l)(F:bB=.nilIface->(∃v,x=.const v)\/(∃v,y=.const v))(w:World):(eqGuard op t x y bB a9).run P w=.ok () w:=by
 cases op<;>first
 |rfl
 |(cases bB with
  |agg l=>simp_all
  |nilIface=>
   cases a9<;>try rfl
   rcases F rfl with⟨v,rfl⟩|⟨v,rfl⟩
   .rfl
   .cases x<;>rfl
  |_=>cases a9<;>rfl)
def ku.guarded{k}{op}{t}{x y:Operand}{bB a9}(h:ku ae k (binOp op t bB a9) P)(D:∀l,bB≠.agg l)(F:bB=.nilIface->(∃v,x=.const v)\/(∃v,y=.const v)):ku ae k (do eqGuard op t x y bB a9;binOp op t bB a9) P:=by have⟨v,V,aq,aL,bO⟩:=h;refine⟨v,V,aq,aL,λw=>?_⟩;simp_all[ajG]
def HT{op}{c}{t}{d}{x y}{cs fh}{k}(hu:P.underlying t=some d)(aY:Rv c d)(h:(vA op c x y cs fh).f L T k)(M:bP ae (cs.g L T) (a.eval x))(aE:bP ae (fh.g L T) (a.eval y)):ku ae k (do eqGuard op t x y (a.eval x) (a.eval y);binOp op t (a.eval x) (a.eval y)) P:=by
 unfold vA at h;split at h
 .rename_i aD;have⟨e,v,aI⟩:=Nd aD a;have⟨b,ar,h⟩:=Oz h M;refine ku.guarded ?_ (ac9 ar) λ_=>.inr ⟨v,aI⟩;refine .mk h (kT _) λw=>?_;rw[e,(NA ar).1,jm,Wr hu aY ar,jt];simp_all
 .rename_i aD _;have⟨e,v,aI⟩:=Nd aD a;have⟨b,ar,h⟩:=Oz h aE;refine ku.guarded ?_ (by rw[e];cases c<;>simp[iS]) λ_=>.inl ⟨v,aI⟩;refine .mk h (kT _) λw=>?_;rw[e,(NA ar).2.2.1,jm,abz hu aY ar,jt];simp_all
 .rename_i aD;have⟨e,v,aI⟩:=Nd aD a;have⟨b,ar,h⟩:=Oz h M;refine ku.guarded ?_ (ac9 ar) λ_=>.inr ⟨v,aI⟩;refine .mk h (kT _) λw=>?_;rw[e,(NA ar).2.1,jm,Wr hu aY ar,jt];simp_all
 .rename_i aD _;have⟨e,v,aI⟩:=Nd aD a;have⟨b,ar,h⟩:=Oz h aE;refine ku.guarded ?_ (by rw[e];cases c<;>simp[iS]) λ_=>.inl ⟨v,aI⟩;refine .mk h (kT _) λw=>?_;rw[e,(NA ar).2.2.2,jm,abz hu aY ar,jt];simp_all
 .exact ci h
def anX{c}(h:(vZ op c cs fh).f L T k):(∃c n,cs.g L T=.int c n)\/∃c m r,cs.g L T=.q9 c m r:=by
 unfold vZ at h;split at h
 .have⟨en,bk,aP,_⟩:=m6 h;simp_all
 .have⟨en,bk,aP,_⟩:=m6 h;simp_all
 .cases FO:JF op with
  |false=>rw[FO]at h;have⟨en,bk,aP,_⟩:=m6 h;simp_all
  |true=>
   rw[FO]at h;rcases Qu h with⟨en,bk,aP,_⟩|⟨en,m,r,aP,_⟩
   all_goals simp_all
def aqi(h:(zn op cs fh).f L T k):∃c n,cs.g L T=.str c n:=by unfold zn at h;simp at h;split at h<;>first|(exact ci h)|(have⟨en,bk,aP,_⟩:=sL h;simp_all)
def akL(h:(yW op cs fh).f L T k):∃c,cs.g L T=.bool c:=by unfold yW at h;simp at h;split at h<;>first|(exact ci h)|(have⟨en,aP,_⟩:=AC h;simp_all)
def age{op}{t}{x y}{cs fh}{k}(h:(CR P op t x y cs fh).f L T k)(M:bP ae (cs.g L T) (a.eval x))(aE:bP ae (fh.g L T) (a.eval y)):ku ae k (do eqGuard op t x y (a.eval x) (a.eval y);binOp op t (a.eval x) (a.eval y)) P:=by
 unfold CR at h;split at h
 .rcases anX h with⟨c,n,e⟩|⟨c,m,r,e⟩
  .have kW:=M;rw[e]at kW;refine(aef h M aE).guarded ?_ ?_<;>rw[kW.2.2]<;>simp
  .have kW:=M;rw[e]at kW;have⟨n,_,_,cR,_⟩:=kW;refine(aef h M aE).guarded ?_ ?_<;>rw[cR]<;>simp
 .have⟨c,n,e⟩:=aqi h;have kW:=M;rw[e]at kW;refine(apB h M aE).guarded ?_ ?_<;>rw[kW.2]<;>simp
 .rename_i hu;have⟨c,e⟩:=akL h;have kW:=M;rw[e]at kW;refine(aku hu h M aE).guarded ?_ ?_<;>rw[kW]<;>simp
 .rename_i hu;exact HT (c:=.p) hu trivial h M aE
 .rename_i hu;exact HT (c:=.s) hu trivial h M aE
 .rename_i hu;exact HT (c:=.m) hu trivial h M aE
 .rename_i hu;exact HT (c:=.f) hu trivial h M aE
 .rename_i hu;exact HT (c:=.i) hu trivial h M aE
 .exact arx h M aE
 .exact ci h
def amp{op}{cs}{X}{k}(h:(Fr op cs).f L T k)(M:bP ae (cs.g L T) X):ku ae k (Op.unary op X) P:=by
 have⟨cs⟩:=cs;simp at M;cases op<;>simp only[Fr]at h
 .have⟨c,n,e,h⟩:=m6 h;rw[e]at M;obtain⟨fc,gv,rfl⟩:=M;rw[k5]at h;refine .mk h (oZ fc (mA _ (x4 _))) λw=>?_;simp only[Op.unary,Op.intArith,kp];have e:(jS c).wrap (0 - eM c n)=eM c (Nat.mod (Nat.sub (cF c) n) (cF c)):=tI fc (mA _ (x4 _)) (by rw[Int.sub_emod,wh,<-Int.sub_emod];show _=(((cF c - n) % cF c:Nat):Int);rw[ME];have e:((cF c - n:Nat):Int)=(0 - (n:Int))+cF c:=I;simp_all);rw[e]
 .exact ci h
 .have⟨b,e,h⟩:=AC h;rw[e]at M;subst M;have:k (.bool (!b))=true:=by cases b<;>exact h
  exact .mk this (kT _) λw=>by simp[Op.unary]
 .exact ci h
def aq8{c fF}(h:c<8)(cz:fF<8)(hle:cF fF<=cF c):(cF fF:Int) ∣ (cF c):=by
 rcases ud h with⟨_,D,_⟩|⟨_,D,_⟩|⟨_,D,_⟩|⟨_,D,_⟩|⟨_,D,_⟩|⟨_,D,_⟩|⟨_,D,_⟩|⟨_,D,_⟩<;>
 rcases ud cz with⟨_,F,_⟩|⟨_,F,_⟩|⟨_,F,_⟩|⟨_,F,_⟩|⟨_,F,_⟩|⟨_,F,_⟩|⟨_,F,_⟩|⟨_,F,_⟩<;>
 (simp_all)
def ahL{s d}{cs}{X}{k}(h:(Cf P s d cs).f L T k)(M:bP ae (cs.g L T) X):ku ae k (convert s d X) P:=by
 have⟨cs⟩:=cs;simp at M;unfold Cf at h;simp only at h;split at h
 .rename_i cT cN ap aY;split at h
  .rename_i hle;rw[dT]at hle;have⟨c,n,e,aj⟩:=m6 h;have⟨an,aM⟩:=fi aj;have aP:=dA.1 an;subst aP;rw[e]at M;obtain⟨fc,gv,rfl⟩:=M;rw[k5]at aM;refine .mk aM (oZ (rT cN) (mA _ (x4 _))) λw=>?_;simp only[convert,jm,h6 ap,h6 aY,jt,Conv.intToInt];have:=tI (rT cN) (mA n (x4 (cv cN))) (x:=eM (cv cT) n) (by have aY:=aq8 fc (rT cN) hle;rw[<-Int.emod_emod_of_dvd _ aY,wh,Int.emod_emod_of_dvd _ aY,ME]);rw[KJ]at this ⊢;rw[this];rfl
  .rename_i hle;rcases Qu h with⟨c,n,e,aj⟩|⟨c,m,r,e,aj⟩
   .have⟨an,aM⟩:=fi aj;have⟨bs,cp⟩:=fi aM;have aP:=dA.1 an;clear h aj an aM;subst aP;rw[dg]at bs;rw[e]at M;simp only[bP]at M;obtain⟨fc,gv,rfl⟩:=M;have be:n<cF (cv cN):=Nat.lt_trans gv (Sg hle);refine .mk cp (oZ (rT cN) be) λw=>?_;simp only[convert,jm,h6 ap,h6 aY,jt,Conv.intToInt,kp];have:=tI (rT cN) be (x:=eM (cv cT) n) (by simp_all[lH,u0]);simp_all[KJ]
   .have⟨an,aM⟩:=fi aj;have⟨bs,cp⟩:=fi aM;have aP:=dA.1 an;subst aP;have bs:=dT.1 bs;rw[e]at M;obtain⟨n,gv,n5,rfl,xq⟩:=M;have Bo:cv cT % 8=cv cT:=qM (rT cT);rw[Bo]at gv n5 ⊢;have hle:=Sg hle;have gU:eK (cv cT)=cF (cv cT):=by rcases ud (rT cT)with⟨fg,e,b7⟩|⟨fg,e,b7⟩|⟨fg,e,b7⟩|⟨fg,e,b7⟩|⟨fg,e,b7⟩|⟨fg,e,b7⟩|⟨fg,e,b7⟩|⟨fg,e,b7⟩<;>omega
    have aD:eM (cv cT) n=n:=lH I;have bo:n<eK (cv cN):=by
     rcases ud (rT cT)with⟨fg,e,b7⟩|⟨fg,e,b7⟩|⟨fg,e,b7⟩|⟨fg,e,b7⟩|⟨fg,e,b7⟩|⟨fg,e,b7⟩|⟨fg,e,b7⟩|⟨fg,e,b7⟩<;>
     rcases ud (rT cN)with⟨f0,f,mh⟩|⟨f0,f,mh⟩|⟨f0,f,mh⟩|⟨f0,f,mh⟩|⟨f0,f,mh⟩|⟨f0,f,mh⟩|⟨f0,f,mh⟩|⟨f0,f,mh⟩<;>omega
    have be:n<cF (cv cN):=pD bo (Qr (rT cN));rw[aD]at n5 ⊢;refine .mk (V:=.int cN n) cp ?_ λw=>?_
    .simp only[bP];have vU:(8+cv cN) % 8=cv cN:=by have:=rT cN;omega
     rw[vU];exact⟨n,be,by rw[lH bo];grind,by rw[lH bo,KJ],λ_=>by rw[lH bo];omega⟩
    .simp only[convert,jm,h6 ap,h6 aY,jt,Conv.intToInt,kp];have:=tI (rT cN) be (x:=(n:Int)) (u0 I I);simp_all[KJ,lH]
 .rename_i ap aY;have⟨l,n,e,h⟩:=sL h;rw[e]at M;have nN:=M;refine .mk h M λw=>?_;rw[nN.2];simp[convert,h6 ap,h6 aY]
 .exact ci h
end
section
variable{ae:cX}{es:aO}{ah:dM}{L:cx}{T:ca}{a:Act}{P:Program}
def extract_toArray(l:lE)(i n):(List.toArray l).extract i (i+n)=List.toArray ((l.drop i).take n):=by simp_all
variable{d:Nat}
def abm{aR k l eR}{t}(h:(xK P t aR).f (l.drop d) k)(Y:dh ae l eR)(aQ:∀x∈l,x.lQ):ku ae k (part t (List.toArray eR) (d+aR)) P:=by
 unfold xK at h;split at h
 .rename_i n aC ap;have⟨D,h⟩:=C2 h;have⟨F,h⟩:=HR h;rw[List.drop_drop]at h F;refine .mk h (V:=.agg (List.toArray ((eR.drop (d+aR)).take n))) ?_ λw=>?_
  .refine⟨_,rfl,(Y.drop _).take _,by simp_all,λx M=>aQ x ?_⟩;grind
  .simp[part,FL aC,rF ap]
 .rename_i n aC ap;have⟨v,D,h⟩:=Ub h;rw[Nc]at D;have⟨V,F,aq⟩:=Y.get D;refine .mk h aq λw=>?_;simp_all[part,FL]
 simp_all
def ajU{t}{f}{cs}{X}{k}(h:(CY P t f cs).f L T k)(M:bP ae (cs.g L T) X):ku ae k (Instr.field t X f) P:=by
 obtain⟨cs⟩:=cs;simp at M;unfold CY at h;split at h
 .rename_i cK hu;split at h
  .rename_i fd a1;obtain⟨n,l,e,h⟩:=LM h;rw[e]at M;obtain⟨eR,rfl,D,F,aq⟩:=M;obtain⟨v,V,aL,bO,cr⟩:=abm (d:=0) (l:=l) (by simpa using h) D aq;refine .mk aL bO λw=>?_;rw[pW]at cr;simp[Instr.field,h6 hu,a1,asAgg,cr]
  .exact ci h
 .exact ci h
def uW(b B n):(⟨b,B,none⟩:Addr).add n=⟨b,B+n,none⟩:=by
 simp_all[Addr.add]
def ao8{t}{f}{cs}{X}{k}(h:(DK P t f cs).f L T k)(M:bP ae (cs.g L T) X):ku ae k (Instr.fieldAt t X f) P:=by
 have⟨cs⟩:=cs;simp at M;unfold DK at h;split at h
 .rename_i cK hu;split at h
  .rename_i fd a1;split at h
   .rename_i m bI ap;cases bI;have⟨i,r,s,z,e,h⟩:=L6 h;rw[e]at M;obtain⟨b,cm,D,rfl⟩:=M;rw[k5]at h;refine .mk h (V:=.pointer (some ⟨b,r*z+(s+fd.offset),none⟩)) (by simp_all[bP]) λw=>?_;simp[Instr.fieldAt,h6 hu,a1,Instr.sureAddr,fieldPlace,rF ap,uW,GM]
   .exact ci h
  .exact ci h
 .exact ci h
def F0(k)(n)(w):(asIntOf (.int k n)).run P w=.ok (k,n) w:=rfl
def arq{t}{cs ry}{X bv}{k}(h:(DH P t cs ry).f L T k)(M:bP ae (cs.g L T) X)(aN:bP ae (ry.g L T) bv):ku ae k (Instr.index t X bv) P:=by
 have⟨cs⟩:=cs;simp at M aN;unfold DH at h;simp only at h;split at h
 .rename_i hu;have⟨l,n,e,h⟩:=sL h;rw[e]at M;obtain⟨D,rfl⟩:=M;obtain⟨j,c,h,F,aq,aL,rfl⟩:=IS h aN I;rw[k5]at h;have aB:Nat.land (Nat.shiftRight n (Nat.mul 8 j)) 255<256:=vK Nat.and_le_right af;refine .mk h (oZ (c:=4) af (by simpa[cF]using aB)) λw=>?_;simp only[Instr.index,jm,F0,jt,h6 hu];rw[ev I];simp only[Ol,agK,R4 j l n F];rw[lH (by simpa[eK]using aB)];have:(UInt8.ofNat (Nat.land (Nat.shiftRight n (Nat.mul 8 j)) 255)).toNat=Nat.land (Nat.shiftRight n (Nat.mul 8 j)) 255:=by simp only[Lj];simp_all
  rw[this];rfl
 .rename_i len e hu;split at h
  .rename_i p s bq ap Y;rw[dg]at Y;have⟨n,l,s3,h⟩:=LM h;rw[s3]at M;simp only[bP]at M;obtain⟨eR,rfl,D,F,aq⟩:=M;obtain⟨j,c,h,an,aM,bs,rfl⟩:=IS h aN I;have⟨_,h⟩:=C2 h;have anP:(xK P e 0).f (l.drop (Nat.mul j s)) k=true:=by simp_all
   have⟨v,V,bC,aX,b4⟩:=abm anP D aq;refine .mk bC aX λw=>?_;rw[Jv]at b4;simp only[Instr.index,jm,F0,jt,h6 hu];rw[ev ⟨I,I⟩];simp_all[rF]
  .exact ci h
 .exact ci h
def aq4{t}{cs ry}{X bv}{k}(h:(C0 P t cs ry).f L T k)(M:bP ae (cs.g L T) X)(aN:bP ae (ry.g L T) bv):ku ae k (Instr.indexAt t X bv) P:=by
 have⟨cs⟩:=cs;simp at M aN;unfold C0 at h;simp only at h;split at h
 .rename_i e hu;split at h
  .rename_i m ap;have⟨i,eB,l,c,u,z,s3,h⟩:=afc h;rw[s3]at M;obtain⟨b,cm,D,B,rfl,bO,F,aq,aL⟩:=M;obtain⟨j,fF,h,an,aM,bs,rfl⟩:=IS h aN I;have bO:=bO.elim id λh=>by omega
   subst bO;have⟨cp,h⟩:=fi h;have cp:=dA.1 cp;rw[k5]at h;refine .mk h (V:=.pointer (some ⟨b,(eB+j)*z+0,none⟩)) (by simp_all[bP]) λw=>?_;simp only[Instr.indexAt,jm,F0,jt,h6 hu,kp];rw[ev ⟨I,I⟩];simp only[jm,rF ap,jt,Ol,kp,uW];grind
  .exact ci h
 .rename_i len e hu;split at h
  .rename_i m ap Y;rw[dg]at Y;have⟨i,r,s,z,s3,h⟩:=L6 h;rw[s3]at M;obtain⟨b,cm,D,rfl⟩:=M;obtain⟨j,fF,h,an,aM,bs,rfl⟩:=IS h aN I;rw[k5]at h;refine .mk h (V:=.pointer (some ⟨b,r*z+(s+j*(m+1)),none⟩)) (by simp_all[bP]) λw=>?_;simp only[Instr.indexAt,jm,F0,jt,h6 hu,Instr.sureAddr,kp];rw[ev ⟨I,I⟩];simp[rF ap,uW,GM]
  .exact ci h
 .exact ci h
def Ex{x k}(h:(wk es ah x).f L T d k)(M:∀y,x=some y->j7 ae es ah L T a y):∃n,k n/\((x.map a.eval=none/\n=d)\/∃c,c<8/\n<2147483648/\x.map a.eval=some (.int (jS c) n)):=by
 cases x with
 |none=>exact⟨d,h,.inl ⟨rfl,rfl⟩⟩|some y=>have⟨n,c,D,F,aq,aL,bO⟩:=IS (b:=2147483648) (v:=(eF es ah y).g L T) h (M y rfl) af;grind
def RH{c i y:Nat}{asf}(h:i<=y)(w):(Instr.sliceBound (.int (jS c) i) y asf).run P w=.ok i w:=by simp only[Instr.sliceBound,jm,F0,jt];simp_all
def UJ{aow}{len cap i j:Nat}{hU aN:Option Value}(Y:(hU=none/\i=0)\/∃c,hU=some (.int (jS c) i))(bo:(aN=none/\j=len)\/((∃c,aN=some (.int (jS c) j))/\j<=cap))(Cg:i<=j)(w):(Instr.sliceBounds aow len cap hU aN none).run P w=.ok (i,j,cap) w:=by
 unfold Instr.sliceBounds;rcases bo with⟨rfl,rfl⟩|⟨⟨c,rfl⟩,bl⟩<;>rcases Y with⟨rfl,rfl⟩|⟨fF,rfl⟩
 .simp_all
 .simp_all[RH]
 .simp_all[RH]
 simp_all[RH]
def amh{t}{cs}{hU aN}{X}{k}(h:(Ct P t cs (wk es ah hU) (wk es ah aN)).f L T k)(M:bP ae (cs.g L T) X)(Ch:∀y,hU=some y->j7 ae es ah L T a y)(BL:∀y,aN=some y->j7 ae es ah L T a y):ku ae k (Instr.sliceAt t X (hU.map a.eval) (aN.map a.eval) none) P:=by
 have⟨cs⟩:=cs;simp at M;unfold Ct at h;simp only at h;split at h
 .rename_i hu;have⟨l,n,e,h⟩:=sL h;rw[e]at M;obtain⟨D,rfl⟩:=M;have⟨j,h,bl⟩:=Ex h BL;have⟨i,h,DV⟩:=Ex h Ch;have⟨aj,h⟩:=fi h;have⟨an,h⟩:=fi h;rw[dT]at aj an;simp only[k5]at h;refine .mk h (Qd (by grind)) λw=>?_;have aB:(Instr.sliceBounds false l l (hU.map a.eval) (aN.map a.eval) none).run P w=.ok (i,j,l) w:=by
   refine UJ ?_ ?_ an w
   all_goals grind
  simp only[Instr.sliceAt,Instr.slice,jm,h6 hu,jt,Option.isSome,Gf,p5,Dy,sY,kp];rw[aB];simp only[jt,WK];have:((ez l n).take j).drop i=ez (Nat.sub j i) (Nat.shiftRight n (Nat.mul 8 i)):=by have F:Nat.shiftRight n (Nat.mul 8 i)=n>>>(8*i):=rfl;have aq:Nat.sub j i=j - i:=rfl;rw[F,aq,PS i j n an,<-KG j l n aj]
  grind
 .rename_i ak hu;split at h
  .rename_i m ap;rcases Ob h with⟨e,h⟩|⟨mL,eB,l,c,u,z,e,h⟩
   .rw[e]at M;simp[bP,iS]at M;subst M;have⟨j,h,bl⟩:=Ex h BL;have⟨i,h,DV⟩:=Ex h Ch;have⟨aj,h⟩:=fi h;have⟨an,h⟩:=fi h;have aj:=dA.1 aj;have an:=dA.1 an;subst aj an;refine .mk h (V:=.slice none 0 0) (by simp[bP,iS]) λw=>?_;have aB:(Instr.sliceBounds true 0 0 (hU.map a.eval) (aN.map a.eval) none).run P w=.ok (0,0,0) w:=by
     refine UJ ?_ ?_ (fI _) w
     all_goals grind
    simp[Instr.sliceAt,Instr.slice,h6 hu,aB,rF ap]
   .rw[e]at M;obtain⟨b,cm,D,B,rfl,aV,F,aq,aL⟩:=M;have⟨J8,h⟩:=fi h;have J8:=dA.1 J8;have⟨j,h,bl⟩:=Ex h BL;have⟨i,h,DV⟩:=Ex h Ch;have⟨an,h⟩:=fi h;rw[dT]at an;have aB:∀cap,j<=cap->∀w,(Instr.sliceBounds true l cap (hU.map a.eval) (aN.map a.eval) none).run P w=.ok (i,j,cap) w:=by
     intro cap na w;refine UJ ?_ ?_ an w
     all_goals grind
    have run:∀cap,j<=cap->∀w,(Instr.sliceAt t (.slice (some ⟨b,B,none⟩) l cap) (hU.map a.eval) (aN.map a.eval) none).run P w=
     .ok (.slice (some ⟨b,if cap=i then B else B+i*z,none⟩) (j - i) (cap - i)) w:=by
     intro cap na w
     simp[Instr.sliceAt,Instr.slice,h6 hu,aB cap na,rF ap]
     by_cases a0:cap=i
     .grind
     .simp [a0,uW,J8]
    rcases iE h with⟨PF,h⟩|⟨PF,h⟩
    .subst PF;simp at aq aL ⊢;have⟨aj,h⟩:=fi h;rw[dT]at aj;rcases iE h with⟨aM,h⟩|⟨aM,h⟩
     .rw[dg]at aM;simp at h;have aV:B=eB*z:=aV.elim id λh=>by omega
      subst aV;refine .mk h (V:=.slice (some ⟨b,(eB+i)*z,none⟩) (j - i) (cm - (c+i))) ?_ λw=>?_
      .exact⟨b,cm,D,_,rfl,.inl rfl,by show j - i<=_;omega,by show j - i<=cm - (c+i);omega,by show c+i<=cm;omega⟩
      grind
     .have aM:=P5 aM;have aP:j=i:=I;subst aP;refine .mk h (V:=.slice (some ⟨b,if cm - c=j then B else B+j*z,none⟩) (j - j) (cm - c - j)) ?_ λw=>run _ I w
      refine⟨b,cm,D,_,by rw[Nat.sub_self,Nat.sub_sub];rfl,?_,qG _,qG _,by show c+j<=cm;omega⟩
      by_cases aqb:j=0
      .subst aqb;rcases aV with aV|aV
       .left;rw[aV];simp
       .right;exact⟨by simp,by simp,by show 0<c+0;omega⟩
      .right;exact⟨by simp,by simp,by show 0<c+j;omega⟩
    .subst PF;simp at aq aL ⊢;have⟨aj,h⟩:=fi h;rw[dT]at aj;rcases iE h with⟨aM,h⟩|⟨aM,h⟩
     .rw[dg]at aM;simp at h;have aV:B=eB*z:=aV.elim id λh=>by grind
      subst aV;refine .mk h (V:=.slice (some ⟨b,(eB+i)*z,none⟩) (j - i) (c - i)) ?_ λw=>?_
      .exact⟨b,cm,D,_,rfl,.inl rfl,by show j - i<=_;omega,by show j - i<=c - i;omega,by show c - i<=2147483647;omega⟩
      grind
     .rename_i bO;clear bO;have aM:=P5 aM;have aP:j=i:=I;have a3:c=i:=I;have lK:=h;clear h;subst aP a3;refine .mk lK (V:=.slice (some ⟨b,B,none⟩) 0 0) ?_ λw=>?_
      .simp only[bP];simp_all
      simp_all
  .exact ci h
 .exact ci h
def anS{i}{cs}{X}{k}(h:(KS cs i).f L T k)(M:bP ae (cs.g L T) X):ku ae k (Instr.extract X i) P:=by have⟨cs⟩:=cs;simp at M;have⟨l,e,h⟩:=al0 h;rw[e]at M;obtain⟨eR,rfl,D⟩:=M;have⟨v,F,h⟩:=Ub h;have⟨V,aq,aL⟩:=D.get F;exact .mk h aL λw=>by simp[Instr.extract,aq]
def aj3{t}{cs}{X}{k}(h:(Jx P t cs).f L T k)(M:bP ae (cs.g L T) X):ku ae k (Instr.makeInterface t X) P:=by
 unfold Jx at h;simp at h;split at h
 .exact ci h
 .rename_i d aY hu;refine .mk h (V:=.iface t X) (by simp_all[bP]) λw=>?_;simp only[Instr.makeInterface,jm,h6 hu,jt];simp_all
 .exact ci h
def af8{t Fl}{ok}{cs}{X}{k}(h:(Kt P t ok cs).f L T k)(M:bP ae (cs.g L T) X):ku ae k (Instr.typeAssert X Fl t ok) P:=by
 have⟨cs⟩:=cs;simp at M;unfold Kt at h;simp at h;split at h
 .exact ci h
 .rename_i d aY hu;split at h
  .rename_i z cA;have⟨g9,gV,gA⟩:=PA cA;have wO:=OO (ae:=ae) gV;have no:bP ae (.gy [z,.bool false]) (.tuple #[g9,.bool false]):=by simp only[bP];simp_all[dh.cons,kT,dh.nil]
   rcases ahh h with⟨e,h⟩|⟨u,v,e,h⟩
   .rw[e]at M;simp only[bP,iS]at M;subst M;refine .mk h no λw=>?_;simp only[Instr.typeAssert,jm,h6 hu,jt];simp_all
   .rw[e]at M;obtain⟨V,rfl,gm⟩:=M;rcases iE h with⟨g,h⟩|⟨g,h⟩
    .have g:=dA.1 g;have lK:=h;clear h;subst g;refine .mk lK (V:=.tuple #[V,.bool true]) (by simp only[bP];simp_all[dh.cons,kT,dh.nil]) λw=>?_;simp only[Instr.typeAssert,jm,h6 hu,jt];simp_all
    .have g:=tC g;refine .mk h no λw=>?_;simp only[Instr.typeAssert,jm,h6 hu,jt];simp_all
  .have⟨u,v,e,h⟩:=aea h;rw[e]at M;simp only[bP]at M;obtain⟨V,rfl,gm⟩:=M;have⟨g,h⟩:=fi h;have g:=dA.1 g;have lK:=h;clear h;subst g;refine .mk lK gm λw=>?_;simp only[Instr.typeAssert,jm,h6 hu,jt];simp_all
  .exact ci h
 .exact ci h
def anV{t}{bL}{cs}{X}{k}(h:(Cy P t cs).f L T k)(M:bP ae (cs.g L T) X):ku ae k (Builtin.len_ #[t] bL #[X]) P:=by
 have⟨cs⟩:=cs;simp at M;unfold Cy at h;simp at h;split at h
 .rename_i hu;have⟨l,n,e,h⟩:=sL h;rw[e]at M;obtain⟨D,rfl⟩:=M;refine .mk h (wS I) λw=>?_;simp[Builtin.len_,h6 hu,Gf,p5,goInt]
 .rename_i ak hu;rcases Ob h with⟨e,h⟩|⟨mL,eB,l,c,u,z,e,h⟩
  .rw[e]at M;simp[bP,iS]at M;subst M;refine .mk h (wS I) λw=>?_;simp[Builtin.len_,h6 hu,goInt]
  .rw[e]at M;obtain⟨b,cm,D,_,rfl,_,F,aq,aL⟩:=M;refine .mk h (wS I) λw=>?_;simp[Builtin.len_,h6 hu,goInt]
 .rename_i n ak hu;split at h
  .rename_i aD;rw[dg]at aD;refine .mk h (wS I) λw=>?_;simp[Builtin.len_,h6 hu,goInt]
  .exact ci h
 .exact ci h
end
end Go.Ev
