/- Part of the proof of PrinterLines. -/
import Derived.Laws.Strings
import Derived.Test.YtddaefckjmdfoaaGreatDoorE2
set_option linter.all false
namespace Go.Ev
open Go
def alt(P)(t):(IY P).ek t=P.underlying t:=rfl
def EC(P)(t):(IY P).inf t=P.info? t:=rfl
section
variable{P:Program}{w:World}
def hE{t}{d}(h:P.underlying t=some d):(underlying t).run P w=.ok d w:=by simp [underlying,h]
variable{n:Nat}{z:bl}
def agv{t}(h:eV P t=some n):∃i,P.info? t=some i/\i.size=n:=by
 unfold eV at h;rw[EC] at h;cases aH:P.info? t with
 |none=>rw[aH] at h;cases h
 |some i=>rw[aH] at h;exact⟨i,rfl,by simpa using h⟩
def rj{t}(h:eV P t=some n):(sizeOf t).run P w=.ok n w:=by have⟨i,B,F⟩:=agv h;simp [sizeOf,typeInfo,B,F]
def XM{t}(h:p4 P t=some z):∃i gq,P.info? t=some i/\i.zero=some gq/\mr gq=some z:=by
 unfold p4 at h;rw[EC] at h;cases aH:P.info? t with
 |none=>simp [aH] at h
 |some i=>
  cases bO:i.zero with
  |none=>simp [aH,bO] at h
  |some gq=>exact⟨i,gq,rfl,bO,by simpa [aH,bO] using h⟩
def Sr{t}(h:p4 P t=some z):∃gq,mr gq=some z/\∀w,(zeroValue t).run P w=.ok gq w:=by have⟨i,gq,B,F,ah⟩:=XM h;exact⟨gq,ah,λw=>by simp [zeroValue,typeInfo,B,F]⟩
def Ns{b}{t}(h:rp P t=some b):(isAgg t).run P w=.ok b w:=by
 unfold rp at h;rw[alt] at h;unfold isAgg;cases hu:P.underlying t with
 |none=>rw[hu] at h;cases h
 |some d=>rw[hu] at h;rw[eU,hE hu,ff];cases d<;>(simp only[Option.some.injEq] at h;subst h;rfl)
end
def b4.slot(T:b4)(s:Nat):bl:=
 (match dG (s / 8 % 8) with
  |.d0=>T.n5|.d1=>T.cw|.d2=>T.c7|.d3=>T.fu|.d4=>T.fh|.d5=>T.hC|.d6=>T.j9|.d7=>T.nL).get (dG (s % 8))
def Km(s)(L)(T):(ZW s).g L T=T.slot s:=by change(bQ<|dG<|s % 8).s ((slt<|dG<|s / 8 % 8).s T)=_;rw[oN];unfold b4.slot;cases dG (s / 8 % 8)<;>rfl
def CN:∀(n)(L)(T),(Fz n).g L T=L.getD n .any
 |0,L,T=>by cases L<;>rfl
 |1,L,T=>by rcases L with _|⟨a,_|⟨b,L⟩⟩<;>rfl
 |2,L,T=>by rcases L with _|⟨a,_|⟨b,_|⟨c,L⟩⟩⟩<;>rfl
 |n+3,L,T=>by
  have h:(Fz (n+3)).g L T=(Fz n).g (oa (oa (oa L))) T:=by show(match Fz n with|⟨g⟩=>(⟨λL T=>g (oa (oa (oa L))) T⟩:fO)).g L T=_;rfl
  rw[h,CN n];rcases L with _|⟨a,_|⟨b,_|⟨c,L⟩⟩⟩<;>simp
def wx(aa:cE)(es:aO)(ae:dv)(L:cv)(T:b4)(a:Act)(t:Nat):Prop:=
 bk aa ((ki es ae t).g L T) (a.tmps.getD t undef)
def i1(aa:cE)(es:aO)(ae:dv)(L:cv)(T:b4)(a:Act)(x:Operand):Prop:=
 bk aa ((db es ae x).g L T) (a.eval x)
def i1.ac3{aa}{es}{ae}{L}{T}{a}{x:Operand}(h:∀t,x=.tmp t->wx aa es ae L T a t):i1 aa es ae L T a x:=by
 cases x with
 |tmp t=>exact h t rfl
 |const v=>
  unfold i1;show bk aa ((match mr v with|some v=>N4 v|none=>Hi).g L T) v;cases I:mr v with
  |none=>exact CV _
  |some y=>exact Ok I
 |func f=>unfold i1 db;simp only[N4,bk,Act.eval];exact⟨[],[],rfl,cK.nil,cK.nil⟩
 |global g=>unfold i1 db;exact CV _
section
variable{aa:cE}{es:aO}{ae:dv}{L:cv}{T:b4}{a:Act}{P:Program}
def JL:∀{l},(∀x∈l,i1 aa es ae L T a x)->cK aa ((ol es ae l).g L T) (l.map a.eval)
 |[],_=>cK.nil
 |x::l,h=>cK.cons (h x os) (JL λy ap=>h y (by simp [ap]))
def HZ{v b k V}(h:od v b k)(au:bk aa v V)(av:b<=9223372036854775808):∃n c,k n/\n<b/\3<=c/\c<8/\V=.int (jh c) n:=by obtain⟨c,n,rfl,h⟩:=n9 h;have⟨B,h⟩:=eH h;have⟨F,h⟩:=eH h;rw[dn] at B;rw[cZ] at F;simp only[bk] at au;obtain⟨ah,aE,rfl⟩:=au;exists n,c,h,F,B,ah;rw[ke];rcases tn ah with⟨e,_,aN⟩|⟨e,_,aN⟩|⟨e,_,aN⟩|⟨e,_,aN⟩|⟨e,aZ,aN⟩|⟨e,aZ,aN⟩|⟨e,aZ,aN⟩|⟨e,aZ,aN⟩<;>omega
def P4{l i k}(h:vy l i k):∃v,l[i]?=some v/\k v:=by
 have⟨B,F⟩:=Bz h;cases aJ:l.drop i with
 |nil=>rw[aJ] at F;exact bS F
 |cons v r=>
  rw[aJ] at F;refine⟨v,?_,F⟩;have:(l.drop i)[0]?=some v:=by rw[aJ];rfl
  rw[Aa] at this;simpa using this
def adU{op}{gX}{t}{ce ee}{X er}{k}(h:(vh op (cq gX) ce ee).f L T k)(I:bk aa (ce.g L T) X)(ap:bk aa (ee.g L T) er):kb aa k (binOp op t X er) P:=by
 have⟨ce⟩:=ce;have⟨ee⟩:=ee;unfold vh at h;split at h
 .have⟨dz,bN,aZ,g1⟩:=n9 h;have⟨gg,cw,aN,g2⟩:=n9 g1;have⟨B,g3⟩:=eH g2;have⟨F,h⟩:=eH g3;rw[dn] at F;have bq:=cF.1 B;clear g1 g2 g3 B;rw[<-bq] at h;clear bq;simp only at I ap;rw[aZ] at I;rw[aN] at ap;simp only[bk] at I ap;obtain⟨dS,fw,rfl⟩:=I;obtain⟨kO,p5,rfl⟩:=ap;have av:dm gg cw=cw:=ke (by rcases tn kO with⟨_,e,ci⟩|⟨_,e,ci⟩|⟨_,e,ci⟩|⟨_,e,ci⟩|⟨_,e,ci⟩|⟨_,e,ci⟩|⟨_,e,ci⟩|⟨_,e,ci⟩<;>omega);rw[gT] at h;refine .mk h (pm dS (nb _ (xT _))) λw=>?_;rw[av];simp only[binOp,Op.shift];rw[bA Y];simp only[zr,eB];have dC:(jh dz).wrap (dm dz bN*2 ^ min cw (jh dz).bits)=dm dz (Nat.mod (Nat.mul bN (Nat.pow 2 cw)) (cp dz)):=by
   refine tB dS (nb _ (xT _)) ?_;show _=(((bN*2 ^ cw) % cp dz:Nat):Int);rw[B9];rcases Nat.le_total cw (jh dz).bits with hle|hle
   .rw[ws hle,Int.mul_emod,wQ,<-Int.mul_emod]
    push_cast;rfl
   .rw[Nat.min_eq_right hle];have e:((2:Int) ^ (jh dz).bits)=(cp dz:Int):=by rw[<-C8 dS];push_cast;rfl
    rw[e,Int.mul_emod_left];have⟨d,aJ⟩:=Nat.exists_eq_add_of_le hle;have aN:((bN*2 ^ cw:Nat):Int)=(bN*2 ^ d:Nat)*(cp dz:Int):=by rw[aJ,Nat.pow_add,C8 dS];push_cast;rw[Int.mul_comm (cp dz:Int),Int.mul_assoc]
    rw[aN,Int.mul_emod_left]
  rw[dC]
 .have⟨dz,bN,aZ,g1⟩:=n9 h;have⟨gg,cw,aN,g2⟩:=n9 g1;have⟨B,g3⟩:=eH g2;have⟨F,g4⟩:=eH g3;have⟨ah,h⟩:=eH g4;rw[dn] at F;rw[cZ] at ah;have bq:=cF.1 B;clear g1 g2 g3 g4 B;rw[<-bq] at h ah;clear bq;simp only at I ap;rw[aZ] at I;rw[aN] at ap;simp only[bk] at I ap;obtain⟨dS,fw,rfl⟩:=I;obtain⟨kO,p5,rfl⟩:=ap;have av:dm gg cw=cw:=ke (by rcases tn kO with⟨_,e,ci⟩|⟨_,e,ci⟩|⟨_,e,ci⟩|⟨_,e,ci⟩|⟨_,e,ci⟩|⟨_,e,ci⟩|⟨_,e,ci⟩|⟨_,e,ci⟩<;>omega);rw[gT] at h;have aV:Nat.div bN (Nat.pow 2 cw)<cp dz:=t3 (Nat.div_le_self _ _) fw;refine .mk h (pm dS aV) λw=>?_;rw[av,ke ah];simp only[binOp,Op.shift];rw[bA Y];simp only[zr,eB];have dC:((bN:Int).fdiv (2 ^ min cw (jh dz).bits))=dm dz (Nat.div bN (Nat.pow 2 cw)):=by
   have gS:Nat.div bN (Nat.pow 2 cw)<dL dz:=t3 (Nat.div_le_self _ _) ah;rw[ke gS];have jV:((2:Int) ^ min cw (jh dz).bits)=((2 ^ min cw (jh dz).bits:Nat):Int):=by push_cast;rfl
   rw[jV,Int.fdiv_eq_ediv_of_nonneg _ (Int.natCast_nonneg _),<-Int.natCast_ediv];rcases Nat.le_total cw (jh dz).bits with hle|hle
   .rw[ws hle];rfl
   .rw[Nat.min_eq_right hle,C8 dS,Nat.div_eq_of_lt fw];have:bN / 2 ^ cw=0:=Nat.div_eq_of_lt (nV fw (by rw[<-C8 dS];exact Nat.pow_le_pow_right ag hle));show((0:Nat):Int)=((bN / 2 ^ cw:Nat):Int);rw[this]
  rw[dC]
 .have ak:=λ(a b:Nat)(h:(k4 op (cq gX) (cp (cq gX)) (dL (cq gX))).f a b k)=>aoK (aa:=aa) (P:=P) (t:=t) h (rn gX);generalize k4 op (cq gX) (cp (cq gX)) (dL (cq gX))=f at h ak;have⟨f⟩:=f;have num:∀dz bN,ce L T=.int dz bN->(gy (ee L T) λgg b=>a7 (Nat.beq dz (cq gX)) (a7 (Nat.beq gg (cq gX)) (f bN b k) false) false)->kb aa k (binOp op t X er) P:=by intro dz bN aZ h;have⟨gg,cw,aN,h⟩:=n9 h;have⟨B,h⟩:=eH h;have⟨F,h⟩:=eH h;have B:=cF.1 B;have F:=cF.1 F;simp only at I ap;rw[aZ] at I;rw[aN] at ap;simp only[bk] at I ap;obtain⟨dS,fw,rfl⟩:=I;obtain⟨kO,p5,rfl⟩:=ap;rw[B] at fw ⊢;rw[F] at p5 ⊢;exact ak bN cw h fw p5
  cases Fm:Is op with
  |false=>rw[Fm] at h;have⟨dz,bN,aZ,h⟩:=n9 h;exact num dz bN aZ h
  |true=>
   rw[Fm] at h;have dT:op=.rem:=by cases op<;>first|rfl|cases Fm
   rcases Vn h with⟨dz,bN,aZ,h⟩|⟨dz,m,r,aZ,h⟩
   .exact num dz bN aZ h
   .have⟨gg,cw,aN,h⟩:=n9 h;have⟨B,h⟩:=eH h;have⟨F,h⟩:=eH h;have⟨ah,h⟩:=eH h;have⟨aE,h⟩:=eH h;have⟨bt,h⟩:=eH h;have⟨b1,az⟩:=eH h;clear h;have B:=cF.1 B;have F:=cF.1 F;have ah:=dn.1 ah;have aE:=cF.1 aE;have bt:=cZ.1 bt;simp only at I ap;rw[aZ] at I;rw[aN] at ap;simp only[bk] at I ap;obtain⟨n,fw,lB,rfl,pZ⟩:=I;obtain⟨kO,p5,rfl⟩:=ap;subst aE;have so:dz % 8=cq gX:=B;rw[so] at fw lB pZ ⊢;rw[F] at kO p5 ⊢;have gn:dL (cq gX)=cp (cq gX)\/8<=dz:=by
     by_cases fm:8<=dz
     .exact .inr fm
     .refine .inl ?_;have z1:dz % 8=dz:=mZ Y;rw[<-so,z1];rcases tn (Y:dz<8) with⟨jV,e,ci⟩|⟨jV,e,ci⟩|⟨jV,e,ci⟩|⟨jV,e,ci⟩|⟨jV,e,ci⟩|⟨jV,e,ci⟩|⟨jV,e,ci⟩|⟨jV,e,ci⟩<;>omega
    have aB:dm (cq gX) n=n/\n<dL (cq gX):=by
     rcases gn with gn|gn
     .exact⟨ke Y,Y⟩
     .have:=pZ gn;unfold dm at this ⊢;by_cases aV:n<dL (cq gX)
      .exact⟨b3 aV,aV⟩
      .rw[bA aV] at this;omega
    have⟨aB,CT⟩:=aB;rw[aB] at lB;have ad:n % cw=r:=by
     have:((n % cw:Nat):Int)=r:=by rw[B9];exact lB
     exact Int.ofNat.inj this
    have aV:r<cp (cq gX):=by rw[<-ad];exact t3 (Nat.mod_le n cw) fw
    have ae4:r<dL (cq gX):=by rw[<-ad];exact t3 (Nat.mod_le n cw) CT
    have av:dm (cq gX) cw=cw:=ke (cZ.1 b1);refine .mk az (pm (rn gX) aV) λw=>?_;rw[dT,oP _ _ _ _ _ _ _ (by simp) (by simp),aB,av,ke ae4];have:¬((cw:Int)=0):=Y;simp only[Op.intDiv,this,md,eB];rw[<-Int.ofNat_tmod,<-ad]
def toList_mk(l:k9):(⟨l.toArray⟩:ByteArray).toList=l:=by rw[ByteArray.toList_eq]
def QP{l n}(h:l<=1152921504606846976):bk aa (.str l n) (.string ⟨(cL l n).toArray⟩):=by simp only[bk];exact⟨h,trivial⟩
def aoy(x y:k9):(⟨x.toArray⟩:ByteArray)++⟨y.toArray⟩=⟨(x++y).toArray⟩:=by
 have:((⟨x.toArray⟩:ByteArray)++⟨y.toArray⟩).data.toList=(⟨(x++y).toArray⟩:ByteArray).data.toList:=os
 exact ByteArray.ext<|Array.toList_inj.1 this
def aaW(x:k9)(i M):(⟨x.toArray⟩:ByteArray).extract i M=⟨((x.take M).drop i).toArray⟩:=by
 have:((⟨x.toArray⟩:ByteArray).extract i M).data.toList=(⟨((x.take M).drop i).toArray⟩:ByteArray).data.toList:=by simp [List.extract_eq_take_drop,List.drop_take]
 exact ByteArray.ext<|Array.toList_inj.1 this
def BU(x:k9):(⟨x.toArray⟩:ByteArray).size=x.length:=by simp [ByteArray.size]
def aos(x:k9)(i:Nat):(⟨x.toArray⟩:ByteArray)[i]?=x[i]?:=by
 by_cases h:i<x.length
 .have b5:i<(⟨x.toArray⟩:ByteArray).size:=by rw[BU];exact h
  rw[getElem?_pos (⟨x.toArray⟩:ByteArray) i b5,getElem?_pos x i h];rfl
 have b5:¬i<(⟨x.toArray⟩:ByteArray).size:=by rw[BU];exact h
 rw[getElem?_neg (⟨x.toArray⟩:ByteArray) i b5,getElem?_neg x i h]
def ap0{op}{t}{ce ee}{X er}{k}(h:(x6 op ce ee).f L T k)(I:bk aa (ce.g L T) X)(ap:bk aa (ee.g L T) er):kb aa k (binOp op t X er) P:=by
 have⟨ce⟩:=ce;have⟨ee⟩:=ee;have xv:∀{f:Nat->Nat->Nat->Nat->Bool},(hK (ce L T) λl n=>hK (ee L T) λaM cx=>f l n aM cx)->
  ∃l n aM cx,f l n aM cx/\l<=1152921504606846976/\aM<=1152921504606846976/\X=.string ⟨(cL l n).toArray⟩/\er=.string ⟨(cL aM cx).toArray⟩:=by
  intro f aI
  have⟨l,n,aZ,g1⟩:=uC aI
  have⟨aM,cx,aN,g2⟩:=uC g1
  simp only at I ap
  rw[aZ] at I;rw[aN] at ap
  simp only[bk] at I ap
  exact⟨l,n,aM,cx,g2,I.1,ap.1,I.2,ap.2⟩
 have E4:∀l n aM cx,(cL l n==cL aM cx)=zA l n aM cx:=λl n aM cx=>by rw[Bool.eq_iff_iff,xe,Yz]
 unfold x6 at h;simp only at h;split at h
 .obtain⟨l,n,aM,cx,g,B,F,rfl,rfl⟩:=xv h;have⟨ah,g⟩:=eH g;rw[dn] at ah;simp only[gT] at g;refine .mk g (QP ah) λw=>?_;simp only[binOp,Op.stringOp,BU,pP];rw[bA (by simp [IntKind.max,IntKind.signed,IntKind.bits];omega)];rw[eB,aoy,<-Vi];rfl
 .obtain⟨l,n,aM,cx,g,B,F,rfl,rfl⟩:=xv h;rw[ri] at g;refine .mk g (kM _) λw=>?_;simp only[binOp,Op.stringOp,toList_mk,E4,eB]
 .obtain⟨l,n,aM,cx,g,B,F,rfl,rfl⟩:=xv h;rcases ic g with⟨q,g⟩|⟨q,g⟩<;>
  (refine .mk g (kM _) λw=>?_;simp only[binOp,Op.stringOp,toList_mk,E4,eB,q,xp,Aq])
 .obtain⟨l,n,aM,cx,g,B,F,rfl,rfl⟩:=xv h;rw[ri] at g;refine .mk g (kM _) λw=>?_;simp only[binOp,Op.stringOp,toList_mk,Ae,eB]
 .obtain⟨l,n,aM,cx,g,B,F,rfl,rfl⟩:=xv h;rcases ic g with⟨q,g⟩|⟨q,g⟩
  .refine .mk g (kM _) λw=>?_;simp only[binOp,Op.stringOp,toList_mk,E4,<-Ae,eB,q,JV,xp]
  rcases ic g with⟨eh,g⟩|⟨eh,g⟩<;>
  (refine .mk g (kM _) λw=>?_;simp only[binOp,Op.stringOp,toList_mk,E4,<-Ae,eB,q,eh,Gc,xp,Aq])
 .obtain⟨l,n,aM,cx,g,B,F,rfl,rfl⟩:=xv h;rcases ic g with⟨q,g⟩|⟨q,g⟩
  .refine .mk g (kM _) λw=>?_;simp only[binOp,Op.stringOp,toList_mk,E4,<-Ae,eB,q,JV]
  rw[ri] at g;refine .mk g (kM _) λw=>?_;simp only[binOp,Op.stringOp,toList_mk,E4,<-Ae,eB,q,Gc]
 .obtain⟨l,n,aM,cx,g,B,F,rfl,rfl⟩:=xv h;rcases ic g with⟨q,g⟩|⟨q,g⟩<;>
  (refine .mk g (kM _) λw=>?_;simp only[binOp,Op.stringOp,toList_mk,<-Ae,eB,q,xp,Aq])
 exact bS h
def Rh{t}{X er}{b}{w}(h:∀d,(Op.equalIn (d+1) t X er).run P w=.ok b w):(Op.equal t X er).run P w=.ok b w:=h 9999
def afp{op}{t}{ce ee}{X er}{k}(hu:P.underlying t=some .bool)(h:(y2 op ce ee).f L T k)(I:bk aa (ce.g L T) X)(ap:bk aa (ee.g L T) er):kb aa k (binOp op t X er) P:=by
 have⟨ce⟩:=ce;have⟨ee⟩:=ee;have xv:∀{f:Bool->Bool->Bool},(mi (ce L T) λa=>mi (ee L T) λb=>f a b)->∃a b,f a b/\X=.bool a/\er=.bool b:=by intro f aI;have⟨l,aZ,g1⟩:=Ak aI;have⟨aM,aN,g2⟩:=Ak g1;simp only at I ap;rw[aZ] at I;rw[aN] at ap;simp only[bk] at I ap;exact⟨l,aM,g2,I,ap⟩
 have run:∀(a b:Bool)(w:World),(Op.equal t (.bool a) (.bool b)).run P w=.ok (a==b) w:=λa b w=>by refine Rh λd=>?_;simp only[Op.equalIn,eU,hE hu,ff,eB]
 unfold y2 at h;simp only at h;split at h
 .obtain⟨a,b,g,rfl,rfl⟩:=xv h;have:k (.bool (a==b)):=by cases a<;>cases b<;>simpa using g
  refine .mk this (kM _) λw=>?_;simp [binOp,run]
 .obtain⟨a,b,g,rfl,rfl⟩:=xv h;have:k (.bool (!(a==b))):=by cases a<;>cases b<;>simpa using g
  refine .mk this (kM _) λw=>?_;simp [binOp,run]
 exact bS h
end
section
variable{aa:cE}{es:aO}{ae:dv}{L:cv}{T:b4}{a:Act}{P:Program}
def QZ:oJ->TypeDesc->Prop
 |.N,.pointer _=>True
 |.s,.slice _=>True
 |.m,.map _ _=>True
 |.f,.func _ _ _=>True
 |.i,.interface _=>True
 |_,_=>False
def kindOf:oJ->Value->Bool->Prop
 |.N,V,b=>(b=true/\V=.pointer none)\/(b=false/\∃q,V=.pointer (some q))
 |.s,V,b=>(b=true/\V=.slice none 0 0)\/(b=false/\∃q l c,V=.slice (some q) l c)
 |.m,V,b=>(b=true/\V=.map none)\/(b=false/\∃q,V=.map (some q))
 |.f,V,b=>(b=true/\V=.nilFunc)\/(b=false/\∃f x y,V=.func f x y)
 |.i,V,b=>(b=true/\V=.nilIface)\/(b=false/\∃t x,V=.iface t x)
variable{V:Value}{b:Bool}{c:oJ}{ce ee:fO}{k:bl->Bool}{op:BinOp}{x:Operand}
def Xu{t}{d}(hu:P.underlying t=some d)(aJ:QZ c d)(az:kindOf c V b)(w):(Op.equal t V (iB c)).run P w=.ok b w:=by
 refine Rh λn=>?_;cases c<;>cases d<;>(first|(exact aJ.elim)|skip)
 all_goals
  simp only[kindOf] at az
  rcases az with⟨rfl,rfl⟩|⟨rfl,h⟩
  .simp only[Op.equalIn,iB,eU,hE hu,ff,eB,Option.isNone]
  .first
   |(obtain⟨q,rfl⟩:=h;simp only[Op.equalIn,iB,eU,hE hu,ff,eB])
   |(obtain⟨q,eh,rfl⟩:=h;simp only[Op.equalIn,iB,eU,hE hu,ff,eB])
   |(obtain⟨q,eh,sQ,rfl⟩:=h;simp only[Op.equalIn,iB,eU,hE hu,ff,eB])
def WE{t}{d}(hu:P.underlying t=some d)(aJ:QZ c d)(az:kindOf c V b)(w):(Op.equal t (iB c) V).run P w=.ok b w:=by
 refine Rh λn=>?_;cases c<;>cases d<;>(first|(exact aJ.elim)|skip)
 all_goals
  simp only[kindOf] at az
  rcases az with⟨rfl,rfl⟩|⟨rfl,h⟩
  .simp only[Op.equalIn,iB,eU,hE hu,ff,eB,Option.isNone]
  .first
   |(obtain⟨q,rfl⟩:=h;simp only[Op.equalIn,iB,eU,hE hu,ff,eB,Option.isNone])
   |(obtain⟨q,eh,rfl⟩:=h;simp only[Op.equalIn,iB,eU,hE hu,ff,eB,Option.isNone])
   |(obtain⟨q,eh,sQ,rfl⟩:=h;simp only[Op.equalIn,iB,eU,hE hu,ff,eB,Option.isNone])
def NS{c}{t}{V}{b}(az:kindOf c V b):(binOp .eql t V (iB c)=do pure (.bool (<-Op.equal t V (iB c))))/\(binOp .neq t V (iB c)=do pure (.bool (!(<-Op.equal t V (iB c)))))/\(binOp .eql t (iB c) V=do pure (.bool (<-Op.equal t (iB c) V)))/\(binOp .neq t (iB c) V=do pure (.bool (!(<-Op.equal t (iB c) V)))):=by
 cases c<;>simp only[kindOf] at az<;>rcases az with⟨_,rfl⟩|⟨_,h⟩<;>
  first
  |exact⟨rfl,rfl,rfl,rfl⟩
  |(obtain⟨q,rfl⟩:=h;exact⟨rfl,rfl,rfl,rfl⟩)
  |(obtain⟨q,eh,rfl⟩:=h;exact⟨rfl,rfl,rfl,rfl⟩)
  |(obtain⟨q,eh,sQ,rfl⟩:=h;exact⟨rfl,rfl,rfl,rfl⟩)
def WR(az:kindOf c V b):∀l,V≠.agg l:=by intro l e;subst e;cases c<;>simp [kindOf] at az
def M9{eq}(h:(uA eq c ce).f L T k)(au:bk aa (ce.g L T) V):∃b,kindOf c V b/\k (.bool (eq==b)):=by
 have⟨ce⟩:=ce;simp only at au;cases c<;>cases eq<;>simp only[uA] at h
 .rcases acW h with⟨e,h⟩|⟨⟨oF,dS,fw,lB,e⟩,h⟩<;>rw[e] at au<;>simp only[bk,iB] at au
  .exact⟨true,.inl ⟨rfl,au⟩,h⟩
  .have⟨_,_,_,au⟩:=au;exact⟨false,.inr ⟨rfl,_,au⟩,h⟩
 .rcases acW h with⟨e,h⟩|⟨⟨oF,dS,fw,lB,e⟩,h⟩<;>rw[e] at au<;>simp only[bk,iB] at au
  .exact⟨true,.inl ⟨rfl,au⟩,h⟩
  .have⟨_,_,_,au⟩:=au;exact⟨false,.inr ⟨rfl,_,au⟩,h⟩
 .rcases ZO h with⟨e,h⟩|⟨⟨oF,dS,fw,lB,pZ,KA,e⟩,h⟩<;>rw[e] at au<;>simp only[bk,iB] at au
  .exact⟨true,.inl ⟨rfl,au⟩,h⟩
  .have⟨_,_,_,au,_⟩:=au;exact⟨false,.inr ⟨rfl,_,_,_,au⟩,h⟩
 .rcases ZO h with⟨e,h⟩|⟨⟨oF,dS,fw,lB,pZ,KA,e⟩,h⟩<;>rw[e] at au<;>simp only[bk,iB] at au
  .exact⟨true,.inl ⟨rfl,au⟩,h⟩
  .have⟨_,_,_,au,_⟩:=au;exact⟨false,.inr ⟨rfl,_,_,_,au⟩,h⟩
 .rcases Y9 h with⟨e,h⟩|⟨⟨oF,e⟩,h⟩<;>rw[e] at au<;>simp only[bk,iB] at au
  .exact⟨true,.inl ⟨rfl,au⟩,h⟩
  .have⟨_,_,_,au⟩:=au;exact⟨false,.inr ⟨rfl,_,au⟩,h⟩
 .rcases Y9 h with⟨e,h⟩|⟨⟨oF,e⟩,h⟩<;>rw[e] at au<;>simp only[bk,iB] at au
  .exact⟨true,.inl ⟨rfl,au⟩,h⟩
  .have⟨_,_,_,au⟩:=au;exact⟨false,.inr ⟨rfl,_,au⟩,h⟩
 .rcases WG h with⟨e,h⟩|⟨⟨oF,dS,fw,e⟩,h⟩<;>rw[e] at au<;>simp only[bk,iB] at au
  .exact⟨true,.inl ⟨rfl,au⟩,h⟩
  .have⟨_,_,au,_⟩:=au;exact⟨false,.inr ⟨rfl,_,_,_,au⟩,h⟩
 .rcases WG h with⟨e,h⟩|⟨⟨oF,dS,fw,e⟩,h⟩<;>rw[e] at au<;>simp only[bk,iB] at au
  .exact⟨true,.inl ⟨rfl,au⟩,h⟩
  .have⟨_,_,au,_⟩:=au;exact⟨false,.inr ⟨rfl,_,_,_,au⟩,h⟩
 .rcases YT h with⟨e,h⟩|⟨⟨oF,dS,e⟩,h⟩<;>rw[e] at au<;>simp only[bk,iB] at au
  .exact⟨true,.inl ⟨rfl,au⟩,h⟩
  .have⟨_,au,_⟩:=au;exact⟨false,.inr ⟨rfl,_,_,au⟩,h⟩
 .rcases YT h with⟨e,h⟩|⟨⟨oF,dS,e⟩,h⟩<;>rw[e] at au<;>simp only[bk,iB] at au
  .exact⟨true,.inl ⟨rfl,au⟩,h⟩
  .have⟨_,au,_⟩:=au;exact⟨false,.inr ⟨rfl,_,_,au⟩,h⟩
def NQ(h:Ao c x)(a:Act):a.eval x=iB c/\∃v,x=.const v:=by
 cases x with
 |const v=>
  refine⟨?_,v,rfl⟩;simp only[Ao] at h;split at h
  .rename_i fo aw;have:=Ok (aa:=λ_=>none) aw;simp only[bk] at this;have e:c=fo:=by simpa using h
   rw[e];exact this
  .exact bS h
 |tmp t=>exact bS h
 |func f=>exact bS h
 |global g=>exact bS h
def alB{t:TypeId}{bP y bc}(B:∀l,bP≠.agg l)(F:bP=.nilIface->(∃v,x=.const v)\/(∃v,y=.const v))(w:World):(eqGuard op t x y bP bc).run P w=.ok () w:=by
 cases op<;>first
 |rfl
 |(cases bP with
  |agg l=>exact absurd rfl (B l)
  |nilIface=>
   cases bc<;>try rfl
   rcases F rfl with⟨v,rfl⟩|⟨v,rfl⟩
   .rfl
   .cases x<;>rfl
  |_=>cases bc<;>rfl)
def kb.guarded{k}{op}{t}{x y:Operand}{bP bc}(h:kb aa k (binOp op t bP bc) P)(B:∀l,bP≠.agg l)(F:bP=.nilIface->(∃v,x=.const v)\/(∃v,y=.const v)):kb aa k (do eqGuard op t x y bP bc;binOp op t bP bc) P:=by have⟨v,V,ah,aE,bt⟩:=h;refine⟨v,V,ah,aE,λw=>?_⟩;rw[eU,alB B F,ff];exact bt w
def G2{op}{c}{t}{d}{x y}{ce ee}{k}(hu:P.underlying t=some d)(aJ:QZ c d)(h:(uL op c x y ce ee).f L T k)(I:bk aa (ce.g L T) (a.eval x))(ap:bk aa (ee.g L T) (a.eval y)):kb aa k (do eqGuard op t x y (a.eval x) (a.eval y);binOp op t (a.eval x) (a.eval y)) P:=by
 unfold uL at h;split at h
 .rename_i aB;have⟨e,v,au⟩:=NQ aB a;have⟨b,az,h⟩:=M9 h I;refine kb.guarded ?_ (WR az) λ_=>.inr ⟨v,au⟩;refine .mk h (kM _) λw=>?_;rw[e,(NS az).1,eU,Xu hu aJ az,ff];cases b<;>rfl
 .rename_i aB _;have⟨e,v,au⟩:=NQ aB a;have⟨b,az,h⟩:=M9 h ap;refine kb.guarded ?_ (by rw[e];cases c<;>simp [iB]) λ_=>.inl ⟨v,au⟩;refine .mk h (kM _) λw=>?_;rw[e,(NS az).2.2.1,eU,WE hu aJ az,ff];cases b<;>rfl
 .rename_i aB;have⟨e,v,au⟩:=NQ aB a;have⟨b,az,h⟩:=M9 h I;refine kb.guarded ?_ (WR az) λ_=>.inr ⟨v,au⟩;refine .mk h (kM _) λw=>?_;rw[e,(NS az).2.1,eU,Xu hu aJ az,ff];cases b<;>rfl
 .rename_i aB _;have⟨e,v,au⟩:=NQ aB a;have⟨b,az,h⟩:=M9 h ap;refine kb.guarded ?_ (by rw[e];cases c<;>simp [iB]) λ_=>.inl ⟨v,au⟩;refine .mk h (kM _) λw=>?_;rw[e,(NS az).2.2.2,eU,WE hu aJ az,ff];cases b<;>rfl
 .exact bS h
def af0{c}(h:(vh op c ce ee).f L T k):(∃c n,ce.g L T=.int c n)\/∃c m r,ce.g L T=.p1 c m r:=by
 have⟨ce⟩:=ce;have⟨ee⟩:=ee;unfold vh at h;split at h
 .have⟨dz,bN,aZ,_⟩:=n9 h;exact .inl ⟨dz,bN,aZ⟩
 .have⟨dz,bN,aZ,_⟩:=n9 h;exact .inl ⟨dz,bN,aZ⟩
 .generalize k4 op c (cp c) (dL c)=f at h;have⟨f⟩:=f;cases Fm:Is op with
  |false=>rw[Fm] at h;have⟨dz,bN,aZ,_⟩:=n9 h;exact .inl ⟨dz,bN,aZ⟩
  |true=>
   rw[Fm] at h;rcases Vn h with⟨dz,bN,aZ,_⟩|⟨dz,m,r,aZ,_⟩
   .exact .inl ⟨dz,bN,aZ⟩
   .exact .inr ⟨dz,m,r,aZ⟩
def aik(h:(x6 op ce ee).f L T k):∃c n,ce.g L T=.str c n:=by have⟨ce⟩:=ce;have⟨ee⟩:=ee;unfold x6 at h;simp only at h;split at h<;>first|(exact bS h)|(have⟨dz,bN,aZ,_⟩:=uC h;exact⟨dz,bN,aZ⟩)
def amO(h:(y2 op ce ee).f L T k):∃c,ce.g L T=.bool c:=by have⟨ce⟩:=ce;have⟨ee⟩:=ee;unfold y2 at h;simp only at h;split at h<;>first|(exact bS h)|(have⟨dz,aZ,_⟩:=Ak h;exact⟨dz,aZ⟩)
def ap5{op}{t}{x y}{ce ee}{k}(h:(CL P op t x y ce ee).f L T k)(I:bk aa (ce.g L T) (a.eval x))(ap:bk aa (ee.g L T) (a.eval y)):kb aa k (do eqGuard op t x y (a.eval x) (a.eval y);binOp op t (a.eval x) (a.eval y)) P:=by
 unfold CL at h;split at h
 .rcases af0 h with⟨c,n,e⟩|⟨c,m,r,e⟩
  .have iU:=I;rw[e] at iU;simp only[bk] at iU;refine(adU h I ap).guarded ?_ ?_<;>rw[iU.2.2]<;>simp
  .have iU:=I;rw[e] at iU;simp only[bk] at iU;have⟨n,_,_,ch,_⟩:=iU;refine(adU h I ap).guarded ?_ ?_<;>rw[ch]<;>simp
 .have⟨c,n,e⟩:=aik h;have iU:=I;rw[e] at iU;simp only[bk] at iU;refine(ap0 h I ap).guarded ?_ ?_<;>rw[iU.2]<;>simp
 .rename_i hu;have⟨c,e⟩:=amO h;have iU:=I;rw[e] at iU;simp only[bk] at iU;refine(afp hu h I ap).guarded ?_ ?_<;>rw[iU]<;>simp
 .rename_i hu;exact G2 (c:=.N) hu trivial h I ap
 .rename_i hu;exact G2 (c:=.s) hu trivial h I ap
 .rename_i hu;exact G2 (c:=.m) hu trivial h I ap
 .rename_i hu;exact G2 (c:=.f) hu trivial h I ap
 .rename_i hu;exact G2 (c:=.i) hu trivial h I ap
 .exact bS h
def anU{op}{ce}{X}{k}(h:(DA op ce).f L T k)(I:bk aa (ce.g L T) X):kb aa k (Op.unary op X) P:=by
 have⟨ce⟩:=ce;simp only at I;cases op<;>simp only[DA] at h
 .have⟨c,n,e,h⟩:=n9 h;rw[e] at I;simp only[bk] at I;obtain⟨dS,fw,rfl⟩:=I;rw[gT] at h;refine .mk h (pm dS (nb _ (xT _))) λw=>?_;simp only[Op.unary,Op.intArith,eB];have e:(jh c).wrap (0 - dm c n)=dm c (Nat.mod (Nat.sub (cp c) n) (cp c)):=tB dS (nb _ (xT _)) (by rw[Int.sub_emod,wQ,<-Int.sub_emod];show _=(((cp c - n) % cp c:Nat):Int);rw[B9];have e:((cp c - n:Nat):Int)=(0 - (n:Int))+cp c:=Y;rw[e,Int.add_emod_right]);rw[e]
 .exact bS h
 .have⟨b,e,h⟩:=Ak h;rw[e] at I;simp only[bk] at I;subst I;have:k (.bool (!b))=true:=by cases b<;>exact h
  exact .mk this (kM _) λw=>by simp [Op.unary]
 .exact bS h
def akO{c fo}(h:c<8)(b5:fo<8)(hle:cp fo<=cp c):(cp fo:Int) ∣ (cp c):=by
 rcases tn h with⟨_,B,_⟩|⟨_,B,_⟩|⟨_,B,_⟩|⟨_,B,_⟩|⟨_,B,_⟩|⟨_,B,_⟩|⟨_,B,_⟩|⟨_,B,_⟩<;>
 rcases tn b5 with⟨_,F,_⟩|⟨_,F,_⟩|⟨_,F,_⟩|⟨_,F,_⟩|⟨_,F,_⟩|⟨_,F,_⟩|⟨_,F,_⟩|⟨_,F,_⟩<;>
 (rw[B,F] at hle;rw[B,F];omega)
def agV{s d}{ce}{X}{k}(h:(Ci P s d ce).f L T k)(I:bk aa (ce.g L T) X):kb aa k (convert s d X) P:=by
 have⟨ce⟩:=ce;simp only at I;unfold Ci at h;simp only at h;split at h
 .rename_i dr c3 ak aJ;split at h
  .rename_i hle;rw[dn] at hle;have⟨c,n,e,g1⟩:=n9 h;have⟨g2,g3⟩:=eH g1;have aZ:=cF.1 g2;clear h g1 g2;subst aZ;rw[e] at I;simp only[bk] at I;obtain⟨dS,fw,rfl⟩:=I;rw[gT] at g3;refine .mk g3 (pm (rn c3) (nb _ (xT _))) λw=>?_;simp only[convert,eU,hE ak,hE aJ,ff,Conv.intToInt,eB];have:=tB (rn c3) (nb n (xT (cq c3))) (x:=dm (cq dr) n) (by have aJ:=akO dS (rn c3) hle;rw[<-Int.emod_emod_of_dvd _ aJ,wQ,Int.emod_emod_of_dvd _ aJ,B9]);rw[JE] at this ⊢;rw[this];rfl
  .rename_i hle;rcases Vn h with⟨c,n,e,g1⟩|⟨c,m,r,e,g1⟩
   .have⟨g2,g3⟩:=eH g1;have⟨g4,g5⟩:=eH g3;have aZ:=cF.1 g2;clear h g1 g2 g3;subst aZ;rw[cZ] at g4;rw[e] at I;simp only[bk] at I;obtain⟨dS,fw,rfl⟩:=I;have aV:n<cp (cq c3):=Nat.lt_trans fw (Tg hle);refine .mk g5 (pm (rn c3) aV) λw=>?_;simp only[convert,eU,hE ak,hE aJ,ff,Conv.intToInt,eB];have:=tB (rn c3) aV (x:=dm (cq dr) n) (by rw[ke g4];exact uP Y Y);rw[JE] at this ⊢;rw[this]
   .have⟨g2,g3⟩:=eH g1;have⟨g4,g5⟩:=eH g3;have aZ:=cF.1 g2;clear h g1 g2 g3;subst aZ;have g4:=dn.1 g4;rw[e] at I;simp only[bk] at I;obtain⟨n,fw,lB,rfl,pZ⟩:=I;have z1:cq dr % 8=cq dr:=mZ (rn dr);rw[z1] at fw lB ⊢;have hle:=Tg hle;have gn:dL (cq dr)=cp (cq dr):=by rcases tn (rn dr) with⟨jV,e,ci⟩|⟨jV,e,ci⟩|⟨jV,e,ci⟩|⟨jV,e,ci⟩|⟨jV,e,ci⟩|⟨jV,e,ci⟩|⟨jV,e,ci⟩|⟨jV,e,ci⟩<;>omega
    have aB:dm (cq dr) n=n:=ke Y;have bf:n<dL (cq c3):=by
     rcases tn (rn dr) with⟨jV,e,ci⟩|⟨jV,e,ci⟩|⟨jV,e,ci⟩|⟨jV,e,ci⟩|⟨jV,e,ci⟩|⟨jV,e,ci⟩|⟨jV,e,ci⟩|⟨jV,e,ci⟩<;>
     rcases tn (rn c3) with⟨uH,f,oL⟩|⟨uH,f,oL⟩|⟨uH,f,oL⟩|⟨uH,f,oL⟩|⟨uH,f,oL⟩|⟨uH,f,oL⟩|⟨uH,f,oL⟩|⟨uH,f,oL⟩<;>omega
    have aV:n<cp (cq c3):=nV bf (Jr (rn c3));rw[aB] at lB ⊢;refine .mk (V:=.int c3 n) g5 ?_ λw=>?_
    .simp only[bk];have uR:(8+cq c3) % 8=cq c3:=by have:=rn c3;omega
     rw[uR];exact⟨n,aV,by rw[ke bf];exact lB,by rw[ke bf,JE],λ_=>by rw[ke bf];omega⟩
    .simp only[convert,eU,hE ak,hE aJ,ff,Conv.intToInt,eB];have:=tB (rn c3) aV (x:=(n:Int)) (uP Y Y);rw[JE,ke bf] at this;rw[this]
 .rename_i ak aJ;have⟨l,n,e,h⟩:=uC h;rw[e] at I;have lq:=I;simp only[bk] at lq;refine .mk h I λw=>?_;rw[lq.2];simp only[convert,eU,hE ak,hE aJ,ff,eB]
 .exact bS h
end
section
variable{aa:cE}{es:aO}{ae:dv}{L:cv}{T:b4}{a:Act}{P:Program}
def extract_toArray(l:lh)(i n):(List.toArray l).extract i (i+n)=List.toArray ((l.drop i).take n):=by simp [List.extract_eq_take_drop]
variable{d:Nat}
def VE{aT k l em}{t}(h:(wH P t aT).f (l.drop d) k)(K:cK aa l em)(aw:∀x∈l,x.lw):kb aa k (part t (List.toArray em) (d+aT)) P:=by
 unfold wH at h;split at h
 .rename_i n aD ak;have⟨B,h⟩:=Bz h;have⟨F,h⟩:=Iq h;rw[List.drop_drop] at h F;refine .mk h (V:=.agg (List.toArray ((em.drop (d+aT)).take n))) ?_ λw=>?_
  .simp only[bk];refine⟨_,rfl,(K.drop _).take _,by rw[jC];omega,λx I=>aw x ?_⟩;exact GA (Mh I)
  .simp only[part,eU,Ns aD,ff,rj ak,nI,eB,extract_toArray]
 .rename_i n aD ak;have⟨v,B,h⟩:=P4 h;rw[Aa] at B;have⟨V,F,ah⟩:=K.get B;refine .mk h ah λw=>?_;simp [part,Ns aD,F]
 .exact bS h
def anm{t}{f}{ce}{X}{k}(h:(Cu P t f ce).f L T k)(I:bk aa (ce.g L T) X):kb aa k (Instr.field t X f) P:=by
 obtain⟨ce⟩:=ce;simp only at I;unfold Cu at h;split at h
 .rename_i cz hu;split at h
  .rename_i fd aI;obtain⟨n,l,e,h⟩:=aah h;rw[e] at I;simp only[bk] at I;obtain⟨em,rfl,B,F,ah⟩:=I;obtain⟨v,V,aE,bt,b1⟩:=VE (d:=0) (l:=l) (by simpa using h) B ah;refine .mk aE bt λw=>?_;rw[jq] at b1;simp [Instr.field,hE hu,aI,asAgg,b1]
  .exact bS h
 .exact bS h
def vF(b D n):(⟨b,D,none⟩:Addr).add n=⟨b,D+n,none⟩:=by
 unfold Addr.add;split
 .rename_i h;subst h;rfl
 .rfl
def alf{t}{f}{ce}{X}{k}(h:(Bu P t f ce).f L T k)(I:bk aa (ce.g L T) X):kb aa k (Instr.fieldAt t X f) P:=by
 have⟨ce⟩:=ce;simp only at I;unfold Bu at h;split at h
 .rename_i cz hu;split at h
  .rename_i fd aI;split at h
   .rename_i m br ak;cases br;have⟨i,r,s,z,e,h⟩:=NO h;rw[e] at I;simp only[bk] at I;obtain⟨b,ca,B,rfl⟩:=I;rw[gT] at h;refine .mk h (V:=.pointer (some ⟨b,r*z+(s+fd.offset),none⟩)) (by simp only[bk];exact⟨b,ca,B,rfl⟩) λw=>?_;simp [Instr.fieldAt,hE hu,aI,Instr.sureAddr,fieldPlace,rj ak,vF,tI]
   .exact bS h
  .exact bS h
 .exact bS h
def Fk(k)(n)(w):(asIntOf (.int k n)).run P w=.ok (k,n) w:=rfl
def aiM{t}{ce nB}{X bv}{k}(h:(Bo P t ce nB).f L T k)(I:bk aa (ce.g L T) X)(aH:bk aa (nB.g L T) bv):kb aa k (Instr.index t X bv) P:=by
 have⟨ce⟩:=ce;have⟨nB⟩:=nB;simp only at I aH;unfold Bo at h;simp only at h;split at h
 .rename_i hu;have⟨l,n,e,h⟩:=uC h;rw[e] at I;simp only[bk] at I;obtain⟨B,rfl⟩:=I;obtain⟨M,c,h,F,ah,aE,rfl⟩:=HZ h aH Y;rw[gT] at h;have av:Nat.land (Nat.shiftRight n (Nat.mul 8 M)) 255<256:=t3 Nat.and_le_right ag;refine .mk h (pm (c:=4) ag (by simpa [cp] using av)) λw=>?_;simp only[Instr.index,eU,Fk,ff,hE hu];rw[b3 Y];simp only[zr,aos,SJ M l n F,eB];rw[ke (by simpa [dL] using av)];have:(UInt8.ofNat (Nat.land (Nat.shiftRight n (Nat.mul 8 M)) 255)).toNat=Nat.land (Nat.shiftRight n (Nat.mul 8 M)) 255:=by simp only[AX];exact mZ av
  rw[this];rfl
 .rename_i len e hu;split at h
  .rename_i N s hp ak K;rw[cZ] at K;have⟨n,l,Hy,h⟩:=aah h;rw[Hy] at I;simp only[bk] at I;obtain⟨em,rfl,B,F,ah⟩:=I;obtain⟨M,c,h,g2,g3,g4,rfl⟩:=HZ h aH Y;have⟨_,h⟩:=Bz h;have aod:(wH P e 0).f (l.drop (Nat.mul M s)) k=true:=by rw[hp];exact h
   have⟨v,V,bq,aS,bU⟩:=VE aod B ah;refine .mk bq aS λw=>?_;rw[sb] at bU;simp only[Instr.index,eU,Fk,ff,hE hu];rw[b3 ⟨Y,Y⟩];simp only[eU,rj ak,ff,zr];exact bU w
  .exact bS h
 .exact bS h
def ajZ{t}{ce nB}{X bv}{k}(h:(CK P t ce nB).f L T k)(I:bk aa (ce.g L T) X)(aH:bk aa (nB.g L T) bv):kb aa k (Instr.indexAt t X bv) P:=by
 have⟨ce⟩:=ce;have⟨nB⟩:=nB;simp only at I aH;unfold CK at h;simp only at h;split at h
 .rename_i e hu;split at h
  .rename_i m ak;have⟨i,dE,l,c,u,z,Hy,h⟩:=ad6 h;rw[Hy] at I;simp only[bk] at I;obtain⟨b,ca,B,rfl,F,ah,aE⟩:=I;obtain⟨M,fo,h,g2,g3,g4,rfl⟩:=HZ h aH Y;have⟨g5,h⟩:=eH h;have g5:=cF.1 g5;rw[gT] at h;refine .mk h (V:=.pointer (some ⟨b,(dE+M)*z+0,none⟩)) (by simp only[bk];exact⟨b,ca,B,rfl⟩) λw=>?_;simp only[Instr.indexAt,eU,Fk,ff,hE hu,eB];rw[b3 ⟨Y,Y⟩];simp only[eU,rj ak,ff,zr,eB,vF];rw[g5,lE];rfl
  .exact bS h
 .rename_i len e hu;split at h
  .rename_i m ak K;rw[cZ] at K;have⟨i,r,s,z,Hy,h⟩:=NO h;rw[Hy] at I;simp only[bk] at I;obtain⟨b,ca,B,rfl⟩:=I;obtain⟨M,fo,h,g2,g3,g4,rfl⟩:=HZ h aH Y;rw[gT] at h;refine .mk h (V:=.pointer (some ⟨b,r*z+(s+M*(m+1)),none⟩)) (by simp only[bk];exact⟨b,ca,B,rfl⟩) λw=>?_;simp only[Instr.indexAt,eU,Fk,ff,hE hu,Instr.sureAddr,eB];rw[b3 ⟨Y,Y⟩];simp only[eU,rj ak,ff,zr,eB,vF,tI]
  .exact bS h
 .exact bS h
def DP{x k}(h:(v7 es ae x).f L T d k)(I:∀y,x=some y->i1 aa es ae L T a y):∃n,k n/\((x.map a.eval=none/\n=d)\/∃c,c<8/\n<2147483648/\x.map a.eval=some (.int (jh c) n)):=by
 cases x with
 |none=>exact⟨d,h,.inl ⟨rfl,rfl⟩⟩
 |some y=>have⟨n,c,B,F,ah,aE,bt⟩:=HZ (b:=2147483648) (v:=(db es ae y).g L T) h (I y rfl) ag;exact⟨n,B,.inr ⟨c,aE,F,by simp [bt]⟩⟩
def K3{c i y:Nat}{aqE}(h:i<=y)(w):(Instr.sliceBound (.int (jh c) i) y aqE).run P w=.ok i w:=by simp only[Instr.sliceBound,eU,Fk,ff];rw[b3 ⟨Y,Y⟩];simp
def Qa{ala}{len cap i M:Nat}{g8 aH:Option Value}(K:(g8=none/\i=0)\/∃c,g8=some (.int (jh c) i))(bf:(aH=none/\M=len)\/((∃c,aH=some (.int (jh c) M))/\M<=cap))(wF:i<=M)(w):(Instr.sliceBounds ala len cap g8 aH none).run P w=.ok (i,M,cap) w:=by
 unfold Instr.sliceBounds;rcases bf with⟨rfl,rfl⟩|⟨⟨c,rfl⟩,bb⟩<;>rcases K with⟨rfl,rfl⟩|⟨fo,rfl⟩
 .simp only[eU,eB,ff]
 .simp only[eU,eB,ff,K3 wF]
 .simp only[eU,eB,ff,K3 bb]
 .simp only[eU,eB,ff,K3 bb,K3 wF]
def apL{t}{ce}{g8 aH}{X}{k}(h:(CH P t ce (v7 es ae g8) (v7 es ae aH)).f L T k)(I:bk aa (ce.g L T) X)(B5:∀y,g8=some y->i1 aa es ae L T a y)(CP:∀y,aH=some y->i1 aa es ae L T a y):kb aa k (Instr.sliceAt t X (g8.map a.eval) (aH.map a.eval) none) P:=by
 have⟨ce⟩:=ce;simp only at I;unfold CH at h;simp only at h;split at h
 .rename_i hu;have⟨l,n,e,h⟩:=uC h;rw[e] at I;simp only[bk] at I;obtain⟨B,rfl⟩:=I;have⟨M,h,bb⟩:=DP h CP;have⟨i,h,xM⟩:=DP h B5;have⟨g1,h⟩:=eH h;have⟨g2,h⟩:=eH h;rw[dn] at g1 g2;simp only[gT] at h;refine .mk h (QP (by show M - i<=1152921504606846976;omega)) λw=>?_;have av:(Instr.sliceBounds false l l (g8.map a.eval) (aH.map a.eval) none).run P w=.ok (i,M,l) w:=by
   refine Qa ?_ ?_ g2 w
   .rcases xM with⟨q,eh⟩|⟨c,_,_,q⟩
    .exact .inl ⟨q,eh⟩
    .exact .inr ⟨c,q⟩
   .rcases bb with⟨q,eh⟩|⟨c,_,_,q⟩
    .exact .inl ⟨q,eh⟩
    .exact .inr ⟨⟨c,q⟩,g1⟩
  simp only[Instr.sliceAt,Instr.slice,eU,hE hu,ff,Option.isSome,BU,pP,n1,md,eB];rw[av];simp only[ff,aaW];have:((cL l n).take M).drop i=cL (Nat.sub M i) (Nat.shiftRight n (Nat.mul 8 i)):=by have F:Nat.shiftRight n (Nat.mul 8 i)=n>>>(8*i):=rfl;have ah:Nat.sub M i=M - i:=rfl;rw[F,ah,Pm i M n g2,<-Jw M l n g1]
  rw[this]
 .rename_i el hu;split at h
  .rename_i m ak;rcases Le h with⟨e,h⟩|⟨n5,dE,l,c,u,z,e,h⟩
   .rw[e] at I;simp only[bk,iB] at I;subst I;have⟨M,h,bb⟩:=DP h CP;have⟨i,h,xM⟩:=DP h B5;have⟨g1,h⟩:=eH h;have⟨g2,h⟩:=eH h;have g1:=cF.1 g1;have g2:=cF.1 g2;subst g1 g2;refine .mk h (V:=.slice none 0 0) (by simp only[bk,iB]) λw=>?_;have av:(Instr.sliceBounds true 0 0 (g8.map a.eval) (aH.map a.eval) none).run P w=.ok (0,0,0) w:=by
     refine Qa ?_ ?_ (ez _) w
     .rcases xM with⟨q,eh⟩|⟨c,_,_,q⟩
      .exact .inl ⟨q,eh⟩
      .exact .inr ⟨c,q⟩
     .rcases bb with⟨q,eh⟩|⟨c,_,_,q⟩
      .exact .inl ⟨q,eh⟩
      .exact .inr ⟨⟨c,q⟩,ez _⟩
    simp [Instr.sliceAt,Instr.slice,hE hu,av,rj ak]
   .rw[e] at I;simp only[bk] at I;obtain⟨b,ca,B,rfl,F,ah,aE⟩:=I;have⟨Ir,h⟩:=eH h;have Ir:=cF.1 Ir;have⟨M,h,bb⟩:=DP h CP;have⟨i,h,xM⟩:=DP h B5;have⟨g2,h⟩:=eH h;rw[dn] at g2;have av:∀cap,M<=cap->∀w,(Instr.sliceBounds true l cap (g8.map a.eval) (aH.map a.eval) none).run P w=.ok (i,M,cap) w:=by
     intro cap lK w;refine Qa ?_ ?_ g2 w
     .rcases xM with⟨q,eh⟩|⟨c,_,_,q⟩
      .exact .inl ⟨q,eh⟩
      .exact .inr ⟨c,q⟩
     .rcases bb with⟨q,eh⟩|⟨c,_,_,q⟩
      .exact .inl ⟨q,eh⟩
      .exact .inr ⟨⟨c,q⟩,lK⟩
    have run:∀cap,M<=cap->∀w,(Instr.sliceAt t (.slice (some ⟨b,dE*z,none⟩) l cap) (g8.map a.eval) (aH.map a.eval) none).run P w=
     .ok (.slice (some ⟨b,if cap=i then dE*z else(dE+i)*z,none⟩) (M - i) (cap - i)) w:=by
     intro cap lK w
     simp only[Instr.sliceAt,Instr.slice,eU,hE hu,ff,av cap lK,rj ak,eB]
     by_cases ax:cap=i
     .simp [ax]
     .simp [ax,vF,lE,Ir]
    rcases ic h with⟨Q4,h⟩|⟨Q4,h⟩
    .subst Q4;simp only[nI] at ah aE ⊢;have⟨g1,h⟩:=eH h;rw[dn] at g1;rcases ic h with⟨g3,h⟩|⟨g3,h⟩
     .rw[cZ] at g3;simp only[gT] at h;refine .mk h (V:=.slice (some ⟨b,(dE+i)*z,none⟩) (M - i) (ca - (c+i))) ?_ λw=>?_
      .simp only[bk];exact⟨b,ca,B,rfl,by show M - i<=_;omega,by show M - i<=ca - (c+i);omega,by show c+i<=ca;omega⟩
      .rw[run _ Y,bA Y,Nat.sub_sub]
     .have g3:=Rj g3;rcases ic h with⟨g4,h⟩|⟨g4,h⟩
      .have g4:=cF.1 g4;subst g4;have:M=0:=Y;subst this;refine .mk h (V:=.slice (some ⟨b,dE*z,none⟩) 0 (ca - c)) ?_ λw=>?_
       .simp only[bk];exact⟨b,ca,B,rfl,Y,mz _,aE⟩
       .rw[run _ Y];simp
      .exact .mk h (by simp only[bk]) λw=>run _ Y w
    .subst Q4;simp only[n1,md] at ah aE ⊢;have⟨g1,h⟩:=eH h;rw[dn] at g1;rcases ic h with⟨g3,h⟩|⟨g3,h⟩
     .rw[cZ] at g3;simp only[gT] at h;refine .mk h (V:=.slice (some ⟨b,(dE+i)*z,none⟩) (M - i) (c - i)) ?_ λw=>?_
      .simp only[bk];exact⟨b,ca,B,rfl,by show M - i<=_;omega,by show M - i<=c - i;omega,by show c - i<=2147483647;omega⟩
      .rw[run _ g1,bA Y]
     .rename_i bt;clear bt;have g3:=Rj g3;have aZ:M=i:=Y;have aN:c=i:=Y;have hI:=h;clear h;subst aZ aN;refine .mk hI (V:=.slice (some ⟨b,dE*z,none⟩) 0 0) ?_ λw=>?_
      .simp only[bk];exact⟨b,ca,B,rfl,Y,mz _,by simp⟩
      .rw[run _ (ez _)];simp
  .exact bS h
 .exact bS h
def ais{i}{ce}{X}{k}(h:(J3 ce i).f L T k)(I:bk aa (ce.g L T) X):kb aa k (Instr.extract X i) P:=by have⟨ce⟩:=ce;simp only at I;have⟨l,e,h⟩:=ang h;rw[e] at I;simp only[bk] at I;obtain⟨em,rfl,B⟩:=I;have⟨v,F,h⟩:=P4 h;have⟨V,ah,aE⟩:=B.get F;exact .mk h aE λw=>by simp [Instr.extract,ah]
def ajz{t}{ce}{X}{k}(h:(In P t ce).f L T k)(I:bk aa (ce.g L T) X):kb aa k (Instr.makeInterface t X) P:=by
 have⟨ce⟩:=ce;simp only at I;unfold In at h;simp only at h;split at h
 .exact bS h
 .rename_i d aJ hu;refine .mk h (V:=.iface t X) (by simp only[bk];exact⟨X,rfl,I⟩) λw=>?_;simp only[Instr.makeInterface,eU,hE hu,ff];cases d<;>first|rfl|(exact absurd rfl (aJ _))
 .exact bS h
def amS{t NA}{ok}{ce}{X}{k}(h:(I2 P t ok ce).f L T k)(I:bk aa (ce.g L T) X):kb aa k (Instr.typeAssert X NA t ok) P:=by
 have⟨ce⟩:=ce;simp only at I;unfold I2 at h;simp only at h;split at h
 .exact bS h
 .rename_i d aJ hu;split at h
  .rename_i z bO;have⟨gq,lF,sH⟩:=Sr bO;have uY:=Ok (aa:=aa) lF;have no:bk aa (.eJ [z,.bool false]) (.tuple #[gq,.bool false]):=by simp only[bk];exact⟨[gq,.bool false],rfl,cK.cons uY (cK.cons (kM _) cK.nil)⟩
   rcases anN h with⟨e,h⟩|⟨u,v,e,h⟩
   .rw[e] at I;simp only[bk,iB] at I;subst I;refine .mk h no λw=>?_;simp only[Instr.typeAssert,eU,hE hu,ff];cases d<;>first|(exact absurd rfl (aJ _))|simp [sH]
   .rw[e] at I;simp only[bk] at I;obtain⟨V,rfl,eZ⟩:=I;rcases ic h with⟨g,h⟩|⟨g,h⟩
    .have g:=cF.1 g;have hI:=h;clear h;subst g;refine .mk hI (V:=.tuple #[V,.bool true]) (by simp only[bk];exact⟨[V,.bool true],rfl,cK.cons eZ (cK.cons (kM _) cK.nil)⟩) λw=>?_;simp only[Instr.typeAssert,eU,hE hu,ff];cases d<;>first|(exact absurd rfl (aJ _))|simp
    .have g:=ts g;refine .mk h no λw=>?_;simp only[Instr.typeAssert,eU,hE hu,ff];cases d<;>first|(exact absurd rfl (aJ _))|simp [g,sH]
  .have⟨u,v,e,h⟩:=aet h;rw[e] at I;simp only[bk] at I;obtain⟨V,rfl,eZ⟩:=I;have⟨g,h⟩:=eH h;have g:=cF.1 g;have hI:=h;clear h;subst g;refine .mk hI eZ λw=>?_;simp only[Instr.typeAssert,eU,hE hu,ff];cases d<;>first|(exact absurd rfl (aJ _))|simp
  .exact bS h
 .exact bS h
def amP{t}{bK}{ce}{X}{k}(h:(Bq P t ce).f L T k)(I:bk aa (ce.g L T) X):kb aa k (Builtin.len_ #[t] bK #[X]) P:=by
 have⟨ce⟩:=ce;simp only at I;unfold Bq at h;simp only at h;split at h
 .rename_i hu;have⟨l,n,e,h⟩:=uC h;rw[e] at I;simp only[bk] at I;obtain⟨B,rfl⟩:=I;refine .mk h (xm Y) λw=>?_;simp [Builtin.len_,hE hu,BU,pP,goInt]
 .rename_i el hu;rcases Le h with⟨e,h⟩|⟨n5,dE,l,c,u,z,e,h⟩
  .rw[e] at I;simp only[bk,iB] at I;subst I;refine .mk h (xm Y) λw=>?_;simp [Builtin.len_,hE hu,goInt]
  .rw[e] at I;simp only[bk] at I;obtain⟨b,ca,B,rfl,F,ah,aE⟩:=I;refine .mk h (xm Y) λw=>?_;simp [Builtin.len_,hE hu,goInt]
 .rename_i n el hu;split at h
  .rename_i aB;rw[cZ] at aB;refine .mk h (xm Y) λw=>?_;simp [Builtin.len_,hE hu,goInt]
  .exact bS h
 .exact bS h
end
end Go.Ev
