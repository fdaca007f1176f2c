/- Part of the proof of PrinterLines. -/
import Derived.Below
import Derived.Lib.ItoaLen
import Derived.Lib.Join
import Derived.Test.YtddaefckjmdfoaaGreatDoorX3
set_option linter.all false
namespace Go.Tx
open Go Go.Ev Go.RowKit
abbrev O:=List bl->bd->Option (bl×bd)
noncomputable def VZ(D:O):Ep:=⟨λargs H k=>match D args H with
 |some r=>k r.1 r.2
 |none=>false⟩
noncomputable def A6(T:Nat->Option O)(f:Nat):Option Ep:=match T f with
 |some D=>some (VZ D)
 |none=>none
noncomputable def zo(T:Nat->Option O)(f:Nat):Option e0:=match T f with
 |some _=>some ⟨λ_ _=>false⟩
 |none=>none
noncomputable def pj(T:Nat->Option O):Nat->cG:=Cx J9 iZ (zo T) (A6 T)
def am4(T):Good (pj T) (zo T):=by
 intro f aI m args H k;have I:A6 T f=none:=by
  unfold zo at aI;unfold A6;cases q:T f with
  |none=>rfl
  |some D=>rw[q] at aI;cases aI
 unfold pj Cx;rw[OT,I]
variable{H:bd}{P:Program}{T:Nat->Option O}{w a8 bI:World}{aa:cE}
def ahw{D v aq f args}(gY:T f=some D)(ay:D args H=some (v,aq)):∀m,1<=m->∀k,pj T m f args H k=k (.val v) aq:=by
 intro m hm k;obtain⟨m,rfl⟩:∃n,m=n+1:=⟨m - 1,Y⟩;have I:A6 T f=some (VZ D):=by unfold A6;rw[gY]
 unfold pj Cx;rw[OT,I];show(match D args H with|some r=>k (.val r.1) r.2|none=>false)=_;rw[ay]
def bj.told{T}{f}{D}(gY:T f=some D){X:List Nat}{args:List a1}{A}{bZ}(h:∀(U)(Z)(H)(eE:List bl),bL U Z A H->eW U Z A args eE->∃r bw v aq bh bV,bZ r bw/\D eE H=some (v,aq)/\bL bh bV bw aq/\eQ X U Z A H bh bV bw aq/\bp bh r v/\∀s D,look A s=some D->bV s=Z s):bj (pj T) X f args A bZ:=by intro U Z H eE aW aD;obtain⟨r,bw,v,aq,bh,bV,B,F,ah,aE,bt,b1⟩:=h U Z H eE aW aD;exact⟨r,bw,v,aq,bh,bV,B,⟨1,ahw gY F⟩,ah,aE,bt,b1⟩
def bj.y0{T}{f}{D}(gY:T f=some D){X:List Nat}{args:List a1}{A}{bZ}(h:∀(U)(Z)(H)(eE:List bl),bL U Z A H->eW U Z A args eE->∃r v,bZ r A/\D eE H=some (v,H)/\bp U r v):bj (pj T) X f args A bZ:=
 .told gY λU Z H eE aW aD=>by obtain⟨r,v,B,F,ah⟩:=h U Z H eE aW aD;exact⟨r,A,v,H,U,Z,B,F,aW,eQ.refl U Z A H,ah,λ_ _ _=>rfl⟩
def tF(P:Program)(bI:World)(f:Nat)(D:O):Prop:=∃fn,P.funcs[f]?=some fn/\fn.body.isSome=true/\∀args H v ct,D args H=some (v,ct)->∀(aa:cE)(w:World)(g0:List Value),cK aa args g0->gQ bI aa H w->
 Calls P f (List.toArray g0) w λe a8=>∃V bD,e=.returned V/\bk bD v V/\Rel bD ct a8/\Step aa H w bD ct a8
def arY(T):BB P bI (zo T):=by
 intro f e ar args k h;unfold zo at ar;cases q:T f with
 |none=>rw[q] at ar;cases ar
 |some D=>rw[q] at ar;cases ar;cases h
def asT(h:∀f D,T f=some D->tF P bI f D):acz P bI (A6 T):=by
 intro f e ar args H k az;unfold A6 at ar;cases q:T f with
 |none=>rw[q] at ar;cases ar
 |some D=>
  rw[q] at ar;cases ar;obtain⟨fn,B,F,ah⟩:=h f D q;have az:(match D args H with|some r=>k r.1 r.2|none=>false)=true:=az;cases aS:D args H with
  |none=>rw[aS] at az;cases az
  |some r=>rw[aS] at az;refine⟨fn,B,F,λaa w g0 cM R=>(ah args H r.1 r.2 aS aa w g0 cM R).mono λe a8 bf=>?_⟩;obtain⟨V,bD,g1,g2,g3,g4⟩:=bf;exact⟨V,bD,r.1,r.2,g1,az,g2,g3,g4⟩
def Rel.below(R:Rel aa H w)(av:Below w.heap.size w a8):Rel aa H a8:=by
 have lt:∀b x,w.heap[b]?=some x->b<w.heap.size:=λb x h=>by
  rcases l7 b w.heap.size with g|g
  .exact g
  .rw[CO g] at h;cases h
 refine⟨R.next,R.pH,λa aD=>?_,R.inj⟩;have ay:=R.obj a aD;cases q:H.get a with
 |none=>trivial
 |dead=>trivial
 |cells am n z el u dK=>rw[q] at ay;obtain⟨b,ca,c,bS,B,F,ah⟩:=ay;exact⟨b,ca,c,bS,B,by rw[av.block b (lt b _ F)];exact F,ah⟩
 |map es sI=>rw[q] at ay;obtain⟨b,ca,xw,B,F,ah⟩:=ay;exact⟨b,ca,xw,B,by rw[av.block b (lt b _ F)];exact F,ah⟩
def Step.below(av:Below w.heap.size w a8):Step aa H w aa H a8:=
 ⟨cE.le_refl aa,λ_ _=>rfl,ez _,av.size,λb h _=>av.block b h,λ_ h=>.inr h,λ_ _ h=>h,av.tape,av.os,av.output⟩
def ww:List UInt8->Nat
 |[]=>0
 |b::l=>b.toNat+256*ww l
def Pt:∀s,cL s.length (ww s)=s
 |[]=>rfl
 |b::l=>by
  have h:=b.toNat_lt;show UInt8.ofNat (ww (b::l) % 256)::cL l.length (ww (b::l) / 256)=b::l;have aZ:ww (b::l) % 256=b.toNat:=by show(b.toNat+256*ww l) % 256=_;omega
  have aN:ww (b::l) / 256=ww l:=by show(b.toNat+256*ww l) / 256=_;omega
  rw[aZ,aN,Pt l,UInt8.ofNat_toNat]
def ny(s:List UInt8):bl:=.str s.length (ww s)
def zB{U}(s:List UInt8):bp U (.str s) (ny s):=by unfold ny;simp only[bp];exact⟨_,rfl,Pt s⟩
def BX{s}(h:s.length<=1152921504606846976):bk aa (ny s) (.string ⟨s.toArray⟩):=by unfold ny;simp only[bk,Pt];exact⟨h,trivial⟩
end Go.Tx
namespace Go.Tx
open Go Go.Ev Go.RowKit
noncomputable def K5:O
 |[.int 3 x,.int 3 n],H=>if 0<n/\n<9223372036854775808 then some (.int 3 (dm 3 x % (n:Int)).toNat,H) else none
 |_,_=>none
noncomputable def KW:O
 |[.int 3 x],H=>some (ny (Lib.itoa (dm 3 (x % 18446744073709551616))),H)
 |_,_=>none
noncomputable def Nu:O
 |[.int 3 x,.int 3 10],H=>some (ny (Lib.itoa (dm 3 (x % 18446744073709551616))),H)
 |_,_=>none
noncomputable def u7(z:Int):bl:=if z= -1 then .int 3 18446744073709551615 else .int 3 z.toNat
noncomputable def H9:O
 |[.str l n,.str aM cx],H=>if l<4294967281 then some (u7 (Lib.index (cL l n) (cL aM cx)),H) else none
 |_,_=>none
noncomputable def Gx:O
 |[.str l n,.int 4 b],H=>if l<4294967281/\b<256 then some (u7 (Lib.indexByte (cL l n) (UInt8.ofNat b)),H) else none
 |_,_=>none
noncomputable def Nm:O
 |[],H=>some (.bool true,H)
 |_,_=>none
open Classical in
noncomputable def KN(W:Value)(cy:Nat):O
 |[.pw V],H=>if V=W then some (.bool (Nat.ble cy 700),H) else none
 |_,_=>none
section
variable{T:Nat->Option O}
variable{f:Nat}
def aka(gY:T f=some K5)(x n)(cb:0<n)(B:n<9223372036854775808):bj (pj T) [] f [.J (.int 3 x),.J (.int 3 n)] [] λv A=>A=[]/\∃r,v=.int 3 r/\r<n:=
 .y0 gY λU Z H eE aW aD=>by
  obtain⟨v,l,rfl,au,w,aM,rfl,bx,rfl⟩:=aD;have au:v=.int 3 x:=by simpa only[cd,cN,bp] using au
  have bx:w=.int 3 n:=by simpa only[cd,cN,bp] using bx
  subst au bx;have F:=IF (dm 3 x) (Y:(n:Int)≠0);have ah:=IE (dm 3 x) (Y:(0:Int)<n);refine⟨.int 3 (dm 3 x % (n:Int)).toNat,.int 3 (dm 3 x % (n:Int)).toNat,⟨rfl,_,rfl,Y⟩,?_,by simp only[bp]⟩;show(if 0<n/\n<9223372036854775808 then some (bl.int 3 (dm 3 x % (n:Int)).toNat,H) else none)=_;rw[b3 ⟨cb,B⟩]
def Tf:∀(k u),0<k->u<10 ^ k->Lib.nDigits u<=k
 |k+1,u,_,h=>by
  by_cases hI:u<10
  .rw[Lib.nDigits_small hI];omega
  .rw[Lib.nDigits_big hI];have az:0<k:=by
    rcases Nat.eq_zero_or_pos k with rfl|az
    .simp at h;omega
    .exact az
   have:=Tf k (u / 10) az (by rw[Nat.pow_succ] at h;omega);omega
def aeu(u):fe (Lib.decDigits u)=0:=by
 induction u using Nat.strongRecOn with
 |ind u bB=>
  unfold Lib.decDigits;have one:∀d,d<10->fe [UInt8.ofNat (48+d)]=0:=λd aJ=>by unfold fe;rw[List.count_eq_zero];simp only[iF];intro e;have:=mJ UInt8.toNat e;simp [UInt8.toNat_ofNat] at this;omega
  split
  .exact one u Y
  .unfold fe at bB one ⊢;rw[List.count_append,bB (u / 10) Y,one (u % 10) Y]
theorem Oe(x):(Lib.itoa (dm 3 (x % 18446744073709551616))).length<=20/\fe (Lib.itoa (dm 3 (x % 18446744073709551616)))=0:=by
 have I:x % 18446744073709551616<18446744073709551616:=Nat.mod_lt _ ag;generalize x % 18446744073709551616=y at I;have ak: -9223372036854775808<=dm 3 y/\dm 3 y<=9223372036854775807:=by unfold dm dL cp;simp;split<;>omega
 generalize dm 3 y=z at ak;unfold Lib.itoa;split
 .constructor
  .rw[List.length_cons,Lib.decDigits_length];have:=Tf 19 z.natAbs ag Y;omega
  .have:=aeu z.natAbs;unfold fe at this ⊢;rw[List.count_cons_of_ne ag];exact this
 .constructor
  .rw[Lib.decDigits_length];have:=Tf 19 z.toNat ag Y;omega
  .exact aeu _
def anW(gY:T f=some KW)(x):bj (pj T) [] f [.J (.int 3 x)] [] λv A=>A=[]/\∃s,v=.str s/\s.length<=20/\fe s=0:=
 .y0 gY λU Z H eE aW aD=>by
  obtain⟨v,l,rfl,au,rfl⟩:=aD;have au:v=.int 3 x:=by simpa only[cd,cN,bp] using au
  subst au;exact⟨.str _,_,⟨rfl,_,rfl,Oe x⟩,rfl,zB _⟩
def am6(gY:T f=some Nu)(x):bj (pj T) [] f [.J (.int 3 x),.J (.int 3 10)] [] λv A=>A=[]/\∃s,v=.str s/\s.length<=20/\fe s=0:=
 .y0 gY λU Z H eE aW aD=>by
  obtain⟨v,l,rfl,au,w,aM,rfl,bx,rfl⟩:=aD;have au:v=.int 3 x:=by simpa only[cd,cN,bp] using au
  have bx:w=.int 3 10:=by simpa only[cd,cN,bp] using bx
  subst au bx;exact⟨.str _,_,⟨rfl,_,rfl,Oe x⟩,rfl,zB _⟩
theorem UJ(N):∀s,(Lib.index s N= -1/\¬N<:+:s)\/∃i:Nat,Lib.index s N=i/\i<=s.length/\N<+:s.drop i/\∀M,M<i->¬N<+:s.drop M
 |[]=>by
  have hu:Lib.index [] N=if N.isEmpty then 0 else -1:=rfl
  cases N with
  |nil=>exact .inr ⟨0,hu,Nat.le_refl _,List.nil_prefix,λM bb=>Y⟩
  |cons a N=>exact .inl ⟨hu,λh=>by have:=h.length_le;simp at this⟩
 |b::t=>by
  have hu:Lib.index (b::t) N=if N.isPrefixOf (b::t) then 0 else if Lib.index t N== -1 then -1 else Lib.index t N+1:=rfl
  by_cases hp:N<+:(b::t)
  .rw[if_pos (List.isPrefixOf_iff_prefix.2 hp)] at hu;exact .inr ⟨0,hu,Nat.zero_le _,hp,λM bb=>Y⟩
  .rw[if_neg (λh=>hp (List.isPrefixOf_iff_prefix.1 h))] at hu;rcases UJ N t with⟨B,F⟩|⟨i,B,F,ah,aE⟩
   .rw[B] at hu;refine .inl ⟨hu,λh=>?_⟩;rcases List.infix_cons_iff.1 h with h|h
    .exact hp h
    .exact F h
   .rw[if_neg (by rw[B,beq_iff_eq];omega),B] at hu;refine .inr ⟨i+1,by rw[hu];omega,by rw[List.length_cons];omega,ah,λM bb=>?_⟩;cases M with
    |zero=>exact hp
    |succ M=>exact aE M Y
def Rw:u7 (-1)=.int 3 18446744073709551615:=b3 rfl
def adb(i:Nat):u7 (i)=.int 3 i:=by unfold u7;rw[bA Y,zr]
def ajy(gY:T f=some H9)(s N:List UInt8)(ak:s.length<1000000000)(hp:N.length<1000000000):bj (pj T) [] f [.J (.str s),.J (.str N)] [] λv A=>A=[]/\((¬N<:+:s/\v=.int 3 18446744073709551615)\/∃i,v=.int 3 i/\i+N.length<=s.length/\N<+:s.drop i/\∀M,M<i->¬N<+:s.drop M):=
 .y0 gY λU Z H eE aW aD=>by
  obtain⟨v,l,rfl,au,w,aM,rfl,bx,rfl⟩:=aD;obtain⟨n,rfl,aZ⟩:∃n,v=.str s.length n/\cL s.length n=s:=by simpa only[cd,cN,bp] using au
  obtain⟨m,rfl,aN⟩:∃n,w=.str N.length n/\cL N.length n=N:=by simpa only[cd,cN,bp] using bx
  have ay:∀z,Lib.index s N=z->H9 [.str s.length n,.str N.length m] H=some (u7 z,H):=λz bO=>by show(if s.length<4294967281 then some (u7 (Lib.index (cL s.length n) (cL N.length m)),H) else none)=_;rw[b3 Y,aZ,aN,bO]
  rcases UJ N s with⟨B,F⟩|⟨i,B,F,ah,aE⟩
  .exact⟨.int 3 18446744073709551615,_,⟨rfl,.inl ⟨F,rfl⟩⟩,ay _ B,by rw[Rw];simp only[bp]⟩
  .refine⟨.int 3 i,_,⟨rfl,.inr ⟨i,rfl,?_,ah,aE⟩⟩,ay _ B,by rw[adb];simp only[bp]⟩;have:=ah.length_le;rw[lu] at this;omega
theorem PQ(c):∀s,(Lib.indexByte s c= -1/\c∉s)\/∃i:Nat,Lib.indexByte s c=i/\i<s.length/\s[i]?=some c/\c∉s.take i
 |[]=>.inl ⟨rfl,by simp⟩
 |b::t=>by
  have hu:Lib.indexByte (b::t) c=if b==c then 0 else if Lib.indexByte t c== -1 then -1 else Lib.indexByte t c+1:=rfl
  by_cases av:b=c
  .subst av;exact .inr ⟨0,by rw[hu];simp,by simp,rfl,by simp⟩
  .rw[if_neg (by simpa using av)] at hu;rcases PQ c t with⟨B,F⟩|⟨i,B,F,ah,aE⟩
   .rw[B] at hu;exact .inl ⟨hu,λh=>by rcases List.mem_cons.1 h with h|h;exact av h.symm;exact F h⟩
   .rw[if_neg (by rw[B,beq_iff_eq];omega),B] at hu;refine .inr ⟨i+1,by rw[hu];omega,by rw[List.length_cons];omega,ah,?_⟩;rw[List.take_succ_cons];exact λh=>by rcases List.mem_cons.1 h with h|h;exact av h.symm;exact aE h
def an9(gY:T f=some Gx)(s:List UInt8)(c)(ak:s.length<1000000000):bj (pj T) [] f [.J (.str s),.J (.int 4 c.toNat)] [] λv A=>A=[]/\((c∉s/\v=.int 3 18446744073709551615)\/∃i,v=.int 3 i/\i<s.length/\s[i]?=some c/\c∉s.take i):=
 .y0 gY λU Z H eE aW aD=>by
  obtain⟨v,l,rfl,au,w,aM,rfl,bx,rfl⟩:=aD;obtain⟨n,rfl,aZ⟩:∃n,v=.str s.length n/\cL s.length n=s:=by simpa only[cd,cN,bp] using au
  have bx:w=.int 4 c.toNat:=by simpa only[cd,cN,bp] using bx
  subst bx;have ay:∀z,Lib.indexByte s c=z->Gx [.str s.length n,.int 4 c.toNat] H=some (u7 z,H):=λz bO=>by show(if s.length<4294967281/\c.toNat<256 then some (u7 (Lib.indexByte (cL s.length n) (UInt8.ofNat c.toNat)),H) else none)=_;rw[b3 ⟨Y,c.toNat_lt⟩,aZ,UInt8.ofNat_toNat,bO]
  rcases PQ c s with⟨B,F⟩|⟨i,B,F⟩
  .exact⟨.int 3 18446744073709551615,_,⟨rfl,.inl ⟨F,rfl⟩⟩,ay _ B,by rw[Rw];simp only[bp]⟩
  .exact⟨.int 3 i,_,⟨rfl,.inr ⟨i,rfl,F⟩⟩,ay _ B,by rw[adb];simp only[bp]⟩
def aiP(gY:T f=some Nm):bj (pj T) [] f [] [] λv A=>A=[]/\v=.bool true:=
 .y0 gY λU Z H eE aW aD=>by obtain rfl:eE=[]:=aD;exact⟨.bool true,_,⟨rfl,rfl⟩,rfl,by simp only[bp]⟩
def aga{W cy}(gY:T f=some (KN W cy))(g):bj (pj T) [] f [.J (.op g W)] [] λv A=>A=[]/\v=.bool (Nat.ble cy 700):=
 .y0 gY λU Z H eE aW aD=>by
  obtain⟨v,l,rfl,au,rfl⟩:=aD;have au:v=.pw W:=by simpa only[cd,cN,bp] using au
  subst au;exact⟨.bool _,_,⟨rfl,rfl⟩,b3 rfl,by simp only[bp]⟩
end
end Go.Tx
namespace Go.Tx
open Go Go.Ev Go.RowKit
open Classical in
noncomputable def Bk(W:Value):gB->Option Nat
 |.cells am 1 2 66 false false=>match am.row 0 with
  |[.pw V,.int 3 k]=>if V=W then some k else none
  |_=>none
 |_=>none
noncomputable def Jo(W:Value)(k:Nat):gB:=.cells (.j3 (λ_=>[.pw W,.int 3 k]) 1) 1 2 66 false false
noncomputable def Ma(W:Value)(cy:Nat):O
 |[.ptr a 0 0 2],H=>match Bk W (H.get a) with
  |some k=>if k<=cy/\cy<9223372036854775808 then some (.bool (Nat.blt k cy),H) else none
  |none=>none
 |_,_=>none
noncomputable def HY(W:Value)(bY:List Int):O
 |[.ptr a 0 0 2,.int 3 n],H=>match Bk W (H.get a) with
  |some k=>if 0<n/\n<9223372036854775808/\k<=bY.length/\bY.length<=100000 then(match bY[k]? with
   |some x=>some (.int 3 (x % (n:Int)).toNat,H.put a (Jo W (k+1)))
   |none=>some (.int 3 0,H)) else none
  |none=>none
 |_,_=>none
noncomputable def JF:O
 |[.ptr a 0 0 2],H=>match H.get a with
  |.cells am 1 2 210 false false=>match am.row 0 with
   |[.nil .N,v]=>some (.eJ [],H.put a (.cells (.j3 (λ_=>[.ptr a 0 0 2,v]) 1) 1 2 210 false false))
   |[.ptr bF 0 0 2,v]=>if bF=a then some (.eJ [],H) else none
   |_=>none
  |_=>none
 |_,_=>none
def wA(am:Ev.Rows)(n:Nat):List UInt8:=(List.range n).map λi=>match am.row i with
 |[.int 4 x]=>UInt8.ofNat x
 |_=>0
open Classical in
noncomputable def BT:O
 |[.ptr a 0 0 2],H=>match H.get a with
  |.cells am 1 2 210 false false=>match am.row 0 with
   |[_,.nil .s]=>some (ny [],H)
   |[_,.slice a2 0 len 0 true 1]=>match H.get a2 with
    |.cells lm n 1 5 true false=>if n=len/\0<len/\a2≠a/\∀i,i<len->∃x,x<256/\lm.row i=[.int 4 x] then some (ny (wA lm len),H.put a2 .dead) else none
    |_=>none
   |_=>none
  |_=>none
 |_,_=>none
def pi(am:Ev.Rows)(i n:Nat):List (List UInt8):=(List.range n).map λM=>match am.row (i+M) with
 |[.str l m]=>cL l m
 |_=>[]
open Classical in
noncomputable def D3:O
 |[.nil .s,.str _ _],H=>some (ny [],H)
 |[.slice a i len c u z,.str bQ A8],H=>if len=0 then some (ny [],H) else match H.get a with
  |.cells am n 1 el fa false=>if z=1/\i+len<=n/\(∀M,M<len->∃l m,am.row (i+M)=[.str l m])/\(ie (cL bQ A8) (pi am i len)).length<1099511627776 then some (ny (ie (cL bQ A8) (pi am i len)),H) else none
  |_=>none
 |_,_=>none
def Hb{U}{Z}{A}{aZ aN}{l:List bl}(h:fl U Z A [aZ,aN] l):∃v1 v2,l=[v1,v2]/\cN U Z A aZ v1/\cN U Z A aN v2:=by obtain⟨v1,df,rfl,B,v2,cH,rfl,F,rfl⟩:=h;exact⟨v1,v2,rfl,B,F⟩
variable{D:eS}{s:Nat}
def rm:look [(s,D)] s=some D:=by simp only[look,fY rfl]
def zJ{t x}(h:look [(s,D)] t=some x):t=s/\x=D:=by
 simp only[look] at h;cases q:Nat.beq s t with
 |true=>rw[q] at h;cases h;exact⟨(cF.1 q).symm,rfl⟩
 |false=>rw[q] at h;cases h
def Wu{bs}:kr [(s,D)] s bs=[(s,bs)]:=by simp only[kr,fY rfl]
def NP{U}{Z}{s el z}{aF}{v}(h:cd U Z [(s,.box el z aF)] (.bH s 0) v):v=.ptr (Z s) 0 0 z:=h el z aF rm
section
variable{T:Nat->Option O}
open Classical in
def adM{U}{Z}{A:be}{H}{g}{ab}{a}(h:bL U Z [(1000,dH g ab a)] H):Bk ab.W (H.get (Z 1000))=some a:=by
 obtain⟨am,B,F,ah,aE,bt⟩:=h.obj 1000 _ rm;obtain⟨v1,v2,b1,ep,fm⟩:=Hb bt;have ep:v1=.pw ab.W:=by simpa only[cN,bp] using ep
 have fm:v2=.int 3 a:=by simpa only[cN,bp] using fm
 subst ep fm;rw[B];show(match am.row 0 with|[.pw V,.int 3 k]=>if V=ab.W then some k else none|_=>none)=_;rw[b1];exact b3 rfl
def ah2{f}{ab}(gY:T f=some (Ma ab.W ab.length))(jG:ab.length<=700)(g a)(aD:a<=ab.length):bj (pj T) [] f [.bH 1000 0] [(1000,dH g ab a)] λv A=>A=[(1000,dH g ab a)]/\v=.bool (Nat.blt a ab.length):=
 .y0 gY λU Z H eE aW B7=>by obtain⟨v,l,rfl,au,rfl⟩:=B7;rw[NP au];refine⟨.bool _,_,⟨rfl,rfl⟩,?_,by simp only[bp];rfl⟩;show(match Bk ab.W (H.get (Z 1000)) with|some k=>if k<=ab.length/\ab.length<9223372036854775808 then some (bl.bool (Nat.blt k ab.length),H) else none|none=>none)=_;rw[adM (A:=[]) aW];exact b3 ⟨aD,Y⟩
def akx{f}{ab}{bY}(gY:T f=some (HY ab.W bY))(I:bY.length=ab.length)(jG:ab.length<=700)(g a n)(aD:a<=ab.length)(cb:0<n)(aB:n<9223372036854775808):bj (pj T) [] f [.bH 1000 0,.J (.int 3 n)] [(1000,dH g ab a)] λv A=>(∃r,v=.int 3 r/\r<n)/\∃a,a<=ab.length/\A=[(1000,dH g ab a)]:=
 .told gY λU Z H eE aW B7=>by
  obtain⟨v,l,rfl,au,w,aM,rfl,bx,rfl⟩:=B7;have bx:w=.int 3 n:=by simpa only[cd,cN,bp] using bx
  subst bx;rw[NP au];have aw:0<n/\n<9223372036854775808/\a<=bY.length/\bY.length<=100000:=⟨cb,aB,Y,Y⟩;have ay:HY ab.W bY [.ptr (Z 1000) 0 0 2,.int 3 n] H=(match bY[a]? with|some x=>some (bl.int 3 (x % (n:Int)).toNat,H.put (Z 1000) (Jo ab.W (a+1)))|none=>some (.int 3 0,H)):=by show(match Bk ab.W (H.get (Z 1000)) with|some k=>if 0<n/\n<9223372036854775808/\k<=bY.length/\bY.length<=100000 then(match bY[k]? with|some x=>some (bl.int 3 (x % (n:Int)).toNat,H.put (Z 1000) (Jo ab.W (k+1)))|none=>some (.int 3 0,H)) else none|none=>none)=_;rw[adM (A:=[]) aW];exact b3 aw
  cases q:bY[a]? with
  |none=>rw[q] at ay;exact⟨.int 3 0,_,_,H,U,Z,⟨⟨0,rfl,cb⟩,a,aD,rfl⟩,ay,aW,eQ.refl _ _ _ _,by simp only[bp],λ_ _ _=>rfl⟩
  |some x=>
   rw[q] at ay;have aV:a<bY.length:=by
    rcases l7 a bY.length with h|h
    .exact h
    .rw[qU h] at q;cases q
   have F:=IF x (Y:(n:Int)≠0);have ah:=IE x (Y:(0:Int)<n);have e:=Wu (s:=1000) (D:=dH g ab a) (bs:=dH g ab (a+1));have ak:=yT (fB:=.bE [.J (.op g ab.W),.J (.int 3 (a+1))]) (rm (s:=1000) (D:=dH g ab a));have nz:=aW.v5 (bs:=dH g ab (a+1)) (iq:=Jo ab.W (a+1)) rm rfl rfl ak ⟨.j3 (λ_=>[.pw ab.W,.int 3 (a+1)]) 1,by rw[bd.nG _ _ _ _ eN eN,b3 rfl];rfl,ez 1,ag,rfl,by show fl _ _ _ [.J (.op g ab.W),.J (.int 3 (a+1))] [.pw ab.W,.int 3 (a+1)];exact⟨_,_,rfl,by simp only[cN,bp],_,_,rfl,by simp only[cN,bp],rfl⟩⟩;have aU:=eQ.v5 (X:=[]) (U:=U) (Z:=Z) (H:=H) (bs:=dH g ab (a+1)) (iq:=Jo ab.W (a+1)) (rm (s:=1000) (D:=dH g ab a)) rfl rfl;rw[e] at nz aU;exact⟨.int 3 (x % (n:Int)).toNat,_,_,_,U,Z,⟨⟨_,rfl,Y⟩,a+1,Y,rfl⟩,ay,nz,aU,by simp only[bp],λ_ _ _=>rfl⟩
end
end Go.Tx
namespace Go.Tx
open Go Go.Ev Go.RowKit
def Vj(sep:List UInt8):∀l:List (List UInt8),ie sep l=Lib.join l sep
 |[]=>rfl
 |[a]=>by rw[Lib.join_one];rfl
 |a::b::l=>by have B:=Vj sep (b::l);rw[Lib.join_cons] at B ⊢;show a++(sep++ie sep (b::l))=_;rw[B];simp [Lib.joinTail]
section
variable{T:Nat->Option O}
variable{f z:Nat}{am:Ev.Rows}{U:dO}
def ai2(gY:T f=some JF)(a b)(aD:a=.J (.nil .N)\/a=.bH 1000 0)(av:b=.bT\/∃t,b=.J t):bj (pj T) [] f [.bH 1000 0] [(1000,.box 210 2 (.bE [a,b]))] λv A=>A=[(1000,.box 210 2 (.bE [.bH 1000 0,b]))]:=
 .told gY λU Z H eE aW B7=>by
  obtain⟨v,l,rfl,au,rfl⟩:=B7;rw[NP au];obtain⟨am,B,F,ah,aE,bt⟩:=aW.obj 1000 _ rm;obtain⟨v1,v2,b1,ep,fm⟩:=Hb bt;have dC:∀D,(match am.row 0 with|[.nil .N,v]=>some (bl.eJ [],H.put (Z 1000) (.cells (.j3 (λ_=>[.ptr (Z 1000) 0 0 2,v]) 1) 1 2 210 false false))|[.ptr bF 0 0 2,v]=>if bF=Z 1000 then some (.eJ [],H) else none|_=>none)=D->JF [.ptr (Z 1000) 0 0 2] H=D:=λD h=>by show(match H.get (Z 1000) with|.cells am 1 2 210 false false=>_|_=>none)=D;rw[B];exact h
  rcases aD with rfl|rfl
  .have ep:v1=.nil .N:=by simpa [cN,bp] using ep
   subst ep;have ak:=yT (fB:=.bE [.bH 1000 0,b]) (rm (s:=1000) (D:=.box 210 2 (.bE [.J (.nil .N),b])));have e:=Wu (s:=1000) (D:=.box 210 2 (.bE [.J (.nil .N),b])) (bs:=.box 210 2 (.bE [.bH 1000 0,b]));have nz:=aW.v5 (bs:=.box 210 2 (.bE [.bH 1000 0,b])) (iq:=.cells (.j3 (λ_=>[.ptr (Z 1000) 0 0 2,v2]) 1) 1 2 210 false false) rm rfl rfl ak ⟨.j3 (λ_=>[.ptr (Z 1000) 0 0 2,v2]) 1,by rw[bd.nG _ _ _ _ eN eN,b3 rfl],ez 1,ag,rfl,by
    show fl _ _ _ [.bH 1000 0,b] [.ptr (Z 1000) 0 0 2,v2];refine⟨_,_,rfl,λel z aF K=>?_,_,_,rfl,?_,rfl⟩
    .rw[e] at K;have:=(zJ K).2;cases this;rfl
    .rcases av with rfl|⟨t,rfl⟩
     .exact fm
     .exact fm⟩
   have aU:=eQ.v5 (X:=[]) (U:=U) (Z:=Z) (H:=H) (bs:=.box 210 2 (.bE [.bH 1000 0,b])) (iq:=.cells (.j3 (λ_=>[.ptr (Z 1000) 0 0 2,v2]) 1) 1 2 210 false false) (rm (s:=1000) (D:=.box 210 2 (.bE [.J (.nil .N),b]))) rfl rfl;rw[e] at nz aU;exact⟨.eJ [],_,_,_,U,Z,rfl,dC _ (by rw[b1]),nz,aU,by simp only[bp];exact⟨[],rfl,rfl⟩,λ_ _ _=>rfl⟩
  .have ep:v1=.ptr (Z 1000) 0 0 2:=ep 210 2 _ rm;subst ep;exact⟨.eJ [],_,_,H,U,Z,rfl,dC _ (by rw[b1];exact b3 rfl),aW,eQ.refl _ _ _ _,by simp only[bp];exact⟨[],rfl,rfl⟩,λ_ _ _=>rfl⟩
def Vz:∀{t:List UInt8}{i},fI U z am i (hG t)->∀M (h:M<t.length),z=1/\am.row (i+M)=[.int 4 t[M].toNat]
 |b::t,i,h,0,_=>by simp only[hG,fI,cJ,bp] at h;obtain⟨B,⟨v,l,F,rfl,rfl⟩,_⟩:=h;exact⟨B.symm,F⟩
 |b::t,i,h,M+1,bb=>by simp only[hG,fI] at h;have:=Vz h.2.2 M (by simpa using bb);rw[show i+(M+1)=i+1+M by omega];simpa using this
def anB{t}(h:∀M (h:M<t.length),am.row M=[.int 4 t[M].toNat]):wA am t.length=t:=by unfold wA;refine List.ext_getElem (by simp) λM B F=>?_;rw[List.getElem_map,List.getElem_range,h M F];exact UInt8.ofNat_toNat
open Classical in
def ah9(gY:T f=some BT)(a b)(t)(aD:a=.J (.nil .N)\/a=.bH 1000 0)(av:b=.bT/\t=[]\/b=.J (.aQ 11 (hG t))):bj (pj T) [5] f [.bH 1000 0] [(1000,.box 210 2 (.bE [a,b]))] λv A=>A=[(1000,.box 210 2 (.bE [a,.J .undef]))]/\v=.str t:=
 .told gY λU Z H eE aW B7=>by
  obtain⟨v,l,rfl,au,rfl⟩:=B7;rw[NP au];obtain⟨am,B,F,ah,aE,bt⟩:=aW.obj 1000 _ rm;obtain⟨v1,v2,b1,ep,fm⟩:=Hb bt;have aV:=aW.lt 1000 _ rm rfl;have dC:∀D,(match am.row 0 with
   |[_,.nil .s]=>some (ny [],H)
   |[_,.slice a2 0 len 0 true 1]=>match H.get a2 with
    |.cells lm n 1 5 true false=>if n=len/\0<len/\a2≠Z 1000/\∀i,i<len->∃x,x<256/\lm.row i=[bl.int 4 x] then some (ny (wA lm len),H.put a2 .dead) else none
    |_=>none
   |_=>none)=D->BT [.ptr (Z 1000) 0 0 2] H=D:=λD h=>by
   show(match H.get (Z 1000) with|.cells am 1 2 210 false false=>_|_=>none)=D
   rw[B];exact h
  have aeq:∀(bh:dO)(aq:bd),aq.get (Z 1000)=H.get (Z 1000)->aq.next=H.next->bh (Z 1000)=none->(∀x D,bh x=some D->aq.get x=D/\x<aq.next)->bL bh Z [(1000,.box 210 2 (.bE [a,.J .undef]))] aq:=λbh aq g1 g2 g3 g4=>by
   refine⟨g4,λs D K ad=>?_,λs cP D bs K hJ _ _ _=>(zJ K).1.trans (zJ hJ).1.symm,λs D K=>?_⟩
   .obtain⟨rfl,rfl⟩:=zJ K;exact⟨by rw[g2];exact aV.1,g3⟩
   .obtain⟨rfl,rfl⟩:=zJ K;refine⟨am,by rw[g1];exact B,F,ah,rfl,?_⟩;rw[b1];refine⟨_,_,rfl,?_,_,_,rfl,by simp only[cN,bp],rfl⟩;rcases aD with rfl|rfl
    .simpa only[cN,bp] using ep
    .intro el z aF K;have:=(zJ K).2;cases this;exact ep 210 2 _ rm
  have nil:t=[]->v2=.nil .s->∃r bw v aq bh bV,(bw=[(1000,eS.box 210 2 (.bE [a,.J .undef]))]/\r=b2.str t)/\BT [.ptr (Z 1000) 0 0 2] H=some (v,aq)/\bL bh bV bw aq/\eQ [5] U Z [(1000,.box 210 2 (.bE [a,b]))] H bh bV bw aq/\bp bh r v/\∀s D,look [(1000,eS.box 210 2 (.bE [a,b]))] s=some D->bV s=Z s:=λal S3=>by subst al S3;refine⟨.str [],_,_,H,U,Z,⟨rfl,rfl⟩,dC _ (by rw[b1]),aeq U H rfl rfl aV.2 aW.gf,⟨λ_ _ h _=>h,ez _,λ_ _ _ _=>rfl,λ_ _ h=>.inl h,λs D K ad=>.inr ?_⟩,zB [],λ_ _ _=>rfl⟩;obtain⟨rfl,rfl⟩:=zJ K;exact⟨1000,_,rm,rfl,rfl,λh=>by cases h⟩
  rcases av with⟨rfl,rfl⟩|rfl
  .exact nil rfl fm
  .simp only[cN,bp] at fm;rcases fm with⟨g1,g2⟩|⟨a2,i,c,u,z,lm,n,el,fa,dK,rfl,g2,g3,g4,g5,g6,gA,j4⟩
   .have al:t=[]:=by cases t with|nil=>rfl|cons x t=>cases g1
    rcases g2 with g2|⟨g2,_⟩
    .exact nil al g2
    .cases g2
   .obtain⟨dB,rfl,rfl,rfl,rfl,rfl,rfl,bO⟩:=j4 trivial;have K:(hG t).length=t.length:=Ob t;have cb:0<t.length:=by
     cases t with
     |nil=>exact absurd rfl dB
     |cons x t=>simp
    have av:=Vz g6;obtain rfl:=(av 0 cb).1;have gA:el=5:=gA;subst gA;have uy:H.get a2=.cells lm (hG t).length 1 5 true false:=(aW.gf a2 _ g2).1;have zD:a2≠Z 1000:=λe=>by rw[e,aV.2] at g2;cases g2
    have hq:∀M (h:M<t.length),lm.row M=[.int 4 t[M].toNat]:=λM h=>by have:=(av M h).2;rwa [jq] at this
    have ay:BT [.ptr (Z 1000) 0 0 2] H=some (ny t,H.put a2 .dead):=by refine dC _ ?_;rw[b1];show(match H.get a2 with|.cells lm n 1 5 true false=>if n=(hG t).length/\0<(hG t).length/\a2≠Z 1000/\∀i,i<(hG t).length->∃x,x<256/\lm.row i=[bl.int 4 x] then some (ny (wA lm (hG t).length),H.put a2 .dead) else none|_=>none)=_;rw[uy];show(if(hG t).length=(hG t).length/\0<(hG t).length/\a2≠Z 1000/\∀i,i<(hG t).length->∃x,x<256/\lm.row i=[bl.int 4 x] then some (ny (wA lm (hG t).length),H.put a2 .dead) else none)=_;rw[K,b3 ⟨rfl,cb,zD,λM bb=>⟨_,UInt8.toNat_lt _,hq M bb⟩⟩,anB hq]
    refine⟨.str t,_,_,_,λx=>if x=a2 then none else U x,Z,⟨rfl,rfl⟩,ay,aeq _ _ ?_ rfl ?_ ?_,⟨λx D I hm=>?_,ez _,λx I ak hm=>?_,λx D I=>?_,λs D K ad=>.inr ?_⟩,zB t,λ_ _ _=>rfl⟩
    .rw[bd.nG _ _ _ _ eN eN,bA (λe=>zD e.symm)]
    .show(if Z 1000=a2 then none else U (Z 1000))=none;rw[bA (λe=>zD e.symm)];exact aV.2
    .intro x D I;replace I:(if x=a2 then none else U x)=some D:=I;split at I
     .cases I
     .rename_i e;have:=aW.gf x D I;rw[bd.nG _ _ _ _ eN eN,bA e];exact this
    .show(if x=a2 then none else U x)=some D;rw[bA ?_]
     .exact I
     .rintro rfl;rw[g2] at I;cases I;cases hm
    .rw[bd.nG _ _ _ _ eN eN,bA ?_];rintro rfl;have:=hm _ g2;cases this
    .replace I:(if x=a2 then none else U x)=some D:=I;split at I
     .cases I
     .exact .inl I
    .obtain⟨rfl,rfl⟩:=zJ K;exact⟨1000,_,rm,rfl,rfl,λh=>by cases h⟩
def aaR:∀{l:List (List UInt8)}{i},fI U z am i (l.map λs=>[.str s])->∀M (h:M<l.length),z=1/\∃m,am.row (i+M)=[.str l[M].length m]/\cL l[M].length m=l[M]
 |b::t,i,h,0,_=>by simp only[fA,fI,cJ,bp] at h;obtain⟨B,⟨v,l,F,⟨m,rfl,ah⟩,rfl⟩,_⟩:=h;exact⟨B.symm,m,F,ah⟩
 |b::t,i,h,M+1,bb=>by simp only[fA,fI] at h;have:=aaR h.2.2 M (by simpa using bb);rw[show i+(M+1)=i+1+M by omega];simpa using this
def agh{l i}(h:∀M (h:M<l.length),∃m,am.row (i+M)=[.str l[M].length m]/\cL l[M].length m=l[M]):pi am i l.length=l:=by unfold pi;refine List.ext_getElem (by simp) λM B F=>?_;obtain⟨m,ah,aE⟩:=h M F;rw[List.getElem_map,List.getElem_range,ah];exact aE
open Classical in
def apP(gY:T f=some D3)(g)(l:List (List UInt8))(sep:List UInt8)(K:l.length<1000000000)(bb:(ie sep l).length<1099511627776):bj (pj T) [] f [.J (.aQ g (l.map λs=>[.str s])),.J (.str sep)] [] λv A=>A=[]/\v=.str (ie sep l):=
 .y0 gY λU Z H eE aW aD=>by
  obtain⟨v,kj,rfl,au,w,aM,rfl,bx,rfl⟩:=aD;obtain⟨m,rfl,aN⟩:∃n,w=.str sep.length n/\cL sep.length n=sep:=by simpa only[cd,cN,bp] using bx
  have au:bp U (.aQ g (l.map λs=>[.str s])) v:=au;simp only[bp] at au;rcases au with⟨g1,g2⟩|⟨a,i,c,u,z,am,n,el,fa,dK,rfl,g2,g3,g4,⟨g5,rfl⟩,g6,gA,j4⟩
  .have:l=[]:=by cases l with|nil=>rfl|cons x l=>cases g1
   subst this;rcases g2 with rfl|⟨_,a,i,c,u,z,rfl⟩
   .exact⟨.str [],_,⟨rfl,rfl⟩,rfl,zB []⟩
   .exact⟨.str [],ny [],⟨rfl,rfl⟩,(by simp [D3]),zB []⟩
  .by_cases cb:l=[]
   .subst cb;exact⟨.str [],ny [],⟨rfl,rfl⟩,(by simp [D3]),zB []⟩
   .have hp:0<l.length:=by cases l with|nil=>exact absurd rfl cb|cons x l=>simp
    have ak:=aaR g6;obtain rfl:=(ak 0 hp).1;have ad:=agh λM h=>(ak M h).2;rw[dt] at g3 ⊢;have uy:=(aW.gf a _ g2).1;refine⟨.str (ie sep l),ny (ie sep l),⟨rfl,rfl⟩,?_,zB _⟩;show(if l.length=0 then some (ny [],H) else match H.get a with
     |.cells am n 1 el fa false=>if 1=1/\i+l.length<=n/\(∀M,M<l.length->∃l m,am.row (i+M)=[.str l m])/\(ie (cL sep.length m) (pi am i l.length)).length<1099511627776 then some (ny (ie (cL sep.length m) (pi am i l.length)),H) else none
     |_=>none)=_
    rw[bA Y,uy];show(if 1=1/\i+l.length<=n/\(∀M,M<l.length->∃l m,am.row (i+M)=[.str l m])/\(ie (cL sep.length m) (pi am i l.length)).length<1099511627776 then some (ny (ie (cL sep.length m) (pi am i l.length)),H) else none)=_;rw[ad,aN,b3 ⟨rfl,g3,λM h=>by obtain⟨m,h,_⟩:=(ak M h).2;exact⟨_,m,h⟩,bb⟩]
end
end Go.Tx
namespace Go.Tx
open Go Go.Ev Go.RowKit
def AK:List (Nat×O)->Nat->Option O
 |[],_=>none
 |(a,D)::l,f=>match Nat.beq a f with
  |true=>some D
  |false=>AK l f
def adh:∀{l}{f},cr f (l.map Prod.fst)=false->AK l f=none
 |[],_,_=>rfl
 |(a,D)::l,f,h=>by
  simp only[fA,cr] at h;unfold AK;cases q:Nat.beq a f with
  |true=>rw[q] at h;cases h
  |false=>rw[q] at h;exact adh h
noncomputable abbrev told(W:Value)(cy:Nat)(bY:List Int):List (Nat×O):=[(20,K5),(58,KW),(97,Nu),(214,D3),(313,H9),(264,Gx),(261,JF),(178,BT),(5,Nm),(4,KN W cy),(8,HY W bY),(19,Ma W cy)]
def agm(W)(cy)(bY)(I:cy<=700->bY.length=cy):Env (pj (AK (told W cy bY))) (zo (AK (told W cy bY))) ⟨W,cy⟩ where
 g:=am4 _
 e f aI:=by have h:AK (told W cy bY) f=none:=adh aI;unfold zo;rw[h]
 mod:=aka rfl
 itoa:=anW rfl
 Re:=am6 rfl
 join:=apP rfl
 index:=ajy rfl
 indexB:=an9 rfl
 Tr:=ai2 rfl
 str:=ah9 rfl
 GM:=aiP rfl
 LW:=aga rfl
 left h:=ah2 (ab:=⟨W,cy⟩) rfl h
 next h:=akx (ab:=⟨W,cy⟩) rfl (I h) h
end Go.Tx
namespace Go.Tx
open Go Go.Ev Go.RowKit
section
variable{P:Program}{bI:World}{f:Nat}
abbrev OI(bI w:World):Prop:=∀i,i<bI.heap.size->w.heap[i]?=bI.heap[i]?
abbrev Has(P:Program)(f:Nat):Prop:=∃fn,P.funcs[f]?=some fn/\fn.body.isSome=true
variable{H:bd}{V W:Value}{a b k ca:Nat}{iq:gB}{w a8:World}{z:Int}{aa:cE}
def T4(cb:0<=z)(B:z<9223372036854775808):bk aa (.int 3 z.toNat) (.int .i64 z):=by have:=xm (aa:=aa) (Y:z.toNat<9223372036854775808);rwa [Int.toNat_of_nonneg cb] at this
def arU(aI:Has P f)(gn:∀(x m)(w),0<m->m<9223372036854775808->Calls P f #[.int .i64 x,.int .i64 m] w λe a8=>e=.returned (.int .i64 (x % m))/\a8=w):tF P bI f K5:=by
 obtain⟨fn,B,F⟩:=aI;refine⟨fn,B,F,λargs H v ct ay aa w g0 cM R=>?_⟩;unfold K5 at ay;split at ay
 .rename_i x n;split at ay
  .rename_i aw;cases ay;obtain⟨X,L,rfl,ch,cM⟩:=cM.cons_inv;obtain⟨er,L,rfl,i0,cM⟩:=cM.cons_inv;simp only[cK] at cM;subst cM;simp only[bk] at ch i0;obtain⟨_,_,rfl⟩:=ch;obtain⟨_,_,rfl⟩:=i0;rw[show dm 3 n=(n:Int) from ke (show n<9223372036854775808 from aw.2)];have ah:=IF (dm 3 x) (Y:(n:Int)≠0);have aE:=IE (dm 3 x) (Y:(0:Int)<n);refine(gn _ _ w Y Y).mono λe a8 bf=>?_;obtain⟨rfl,rfl⟩:=bf;exact⟨_,aa,rfl,T4 ah Y,R.rel,Step.refl _ _ _⟩
  .cases ay
 .cases ay
def Wg{x}(I:x<18446744073709551616): -9223372036854775808<=dm 3 x/\dm 3 x<=9223372036854775807:=by unfold dm dL cp;simp;split<;>omega
def aq4(aI:Has P f)(iR:∀(n)(w),-9223372036854775808<=n->n<=9223372036854775807->OI bI w->Calls P f #[.int .i64 n] w λe a8=>e=.returned (.string ⟨(Lib.itoa n).toArray⟩)/\Below w.heap.size w a8):tF P bI f KW:=by
 obtain⟨fn,B,F⟩:=aI;refine⟨fn,B,F,λargs H v ct ay aa w g0 cM R=>?_⟩;unfold KW at ay;split at ay
 .rename_i x;cases ay;obtain⟨X,L,rfl,ch,cM⟩:=cM.cons_inv;simp only[cK] at cM;subst cM;simp only[bk] at ch;obtain⟨_,I,rfl⟩:=ch;have I:x<18446744073709551616:=I;have ad:=Wg I;have K:=(Oe x).1;rw[mZ I] at K ⊢;refine(iR _ w ad.1 ad.2 R.jr.same).mono λe a8 bf=>?_;obtain⟨rfl,av⟩:=bf;exact⟨_,aa,rfl,BX Y,Rel.below R.rel av,Step.below av⟩
 .cases ay
def arf(aI:Has P f)(iR:∀(n)(w),-9223372036854775808<=n->n<=9223372036854775807->OI bI w->Calls P f #[.int .i64 n,.int .i64 10] w λe a8=>e=.returned (.string ⟨(Lib.itoa n).toArray⟩)/\Below w.heap.size w a8):tF P bI f Nu:=by
 obtain⟨fn,B,F⟩:=aI;refine⟨fn,B,F,λargs H v ct ay aa w g0 cM R=>?_⟩;unfold Nu at ay;split at ay
 .rename_i x;cases ay;obtain⟨X,L,rfl,ch,cM⟩:=cM.cons_inv;obtain⟨er,L,rfl,i0,cM⟩:=cM.cons_inv;simp only[cK] at cM;subst cM;simp only[bk] at ch i0;obtain⟨_,I,rfl⟩:=ch;obtain⟨_,_,rfl⟩:=i0;have I:x<18446744073709551616:=I;have ad:=Wg I;have K:=(Oe x).1;rw[mZ I] at K ⊢;refine(iR _ w ad.1 ad.2 R.jr.same).mono λe a8 bf=>?_;obtain⟨rfl,av⟩:=bf;exact⟨_,aa,rfl,BX Y,Rel.below R.rel av,Step.below av⟩
 .cases ay
def Me(cb:z= -1\/0<=z)(B:z<9223372036854775808):bk aa (u7 z) (.int .i64 z):=by
 rcases cb with rfl|cb
 .rw[Rw];exact U8
 .unfold u7;rw[bA Y];exact T4 cb B
def FH{l n}(h:bk aa (.str l n) V):l<=1152921504606846976/\V=.string ⟨(cL l n).toArray⟩:=by simpa only[bk] using h
def SW(l n):(cL l n).length=l:=pP l n
def ar5(aI:Has P f)(Ke:∀(s sub)(w),s.size<4294967281->OI bI w->Calls P f #[.string s,.string sub] w λe a8=>e=.returned (.int .i64 (Lib.index s.data.toList sub.data.toList))/\a8=w):tF P bI f H9:=by
 obtain⟨fn,B,F⟩:=aI;refine⟨fn,B,F,λargs H v ct ay aa w g0 cM R=>?_⟩;unfold H9 at ay;split at ay
 .rename_i l n aM cx;split at ay
  .rename_i aw;cases ay;obtain⟨X,L,rfl,ch,cM⟩:=cM.cons_inv;obtain⟨er,L,rfl,i0,cM⟩:=cM.cons_inv;simp only[cK] at cM;subst cM;obtain⟨K,rfl⟩:=FH ch;obtain⟨hJ,rfl⟩:=FH i0;refine(Ke ⟨(cL l n).toArray⟩ ⟨(cL aM cx).toArray⟩ w (by show(cL l n).toArray.size<_;rw[mN,SW];exact aw) R.jr.same).mono λe a8 bf=>?_;obtain⟨rfl,rfl⟩:=bf;refine⟨_,aa,rfl,?_,R.rel,Step.refl _ _ _⟩;rcases UJ (cL aM cx) (cL l n) with⟨g1,_⟩|⟨i,g1,g2,_⟩
   .exact Me (.inl g1) (by show Lib.index (cL l n) (cL aM cx)<_;omega)
   .rw[SW] at g2;exact Me (.inr (by show 0<=Lib.index (cL l n) (cL aM cx);omega)) (by show Lib.index (cL l n) (cL aM cx)<_;omega)
  .cases ay
 .cases ay
def ar8(aI:Has P f)(im:∀(s)(c)(w),Calls P f #[.string s,.int .u8 c] w λe a8=>e=.returned (.int .i64 (Lib.indexByte s.data.toList c.toNat.toUInt8))/\a8=w):tF P bI f Gx:=by
 obtain⟨fn,B,F⟩:=aI;refine⟨fn,B,F,λargs H v ct ay aa w g0 cM R=>?_⟩;unfold Gx at ay;split at ay
 .rename_i l n b;split at ay
  .rename_i aw;cases ay;obtain⟨X,L,rfl,ch,cM⟩:=cM.cons_inv;obtain⟨er,L,rfl,i0,cM⟩:=cM.cons_inv;simp only[cK] at cM;subst cM;obtain⟨K,rfl⟩:=FH ch;simp only[bk] at i0;obtain⟨_,_,rfl⟩:=i0;rw[show dm 4 b=(b:Int) from ke aw.2];refine(im _ _ w).mono λe a8 bf=>?_;obtain⟨rfl,rfl⟩:=bf;refine⟨_,aa,rfl,?_,R.rel,Step.refl _ _ _⟩;have IX:((b:Int).toNat).toUInt8=UInt8.ofNat b:=rfl;rw[IX];rcases PQ (UInt8.ofNat b) (cL l n) with⟨g1,_⟩|⟨i,g1,g2,_⟩
   .exact Me (.inl g1) (by show Lib.indexByte (cL l n) _<_;omega)
   .rw[SW] at g2;exact Me (.inr (by show 0<=Lib.indexByte (cL l n) _;omega)) (by show Lib.indexByte (cL l n) _<_;omega)
  .cases ay
 .cases ay
def ar0(aI:Has P f)(cM:∀(aa)(H)(w),gQ bI aa H w->Calls P f #[] w λe a8=>e=.returned (.bool true)/\Rel aa H a8/\Step aa H w aa H a8):tF P bI f Nm:=by
 obtain⟨fn,B,F⟩:=aI;refine⟨fn,B,F,λargs H v ct ay aa w g0 XO R=>?_⟩;unfold Nm at ay;split at ay
 .cases ay;simp only[cK] at XO;subst XO;refine(cM aa H w R).mono λe a8 bf=>?_;obtain⟨rfl,ah,aE⟩:=bf;exact⟨_,aa,rfl,by simp only[bk],ah,aE⟩
 .cases ay
open Classical in
def arZ(aI:Has P f){W}{cy:Nat}(cn:∀w,Calls P f #[W] w λe a8=>e=.returned (.bool (decide ((cy:Int)<=700)))/\a8=w):tF P bI f (KN W cy):=by
 obtain⟨fn,B,F⟩:=aI;refine⟨fn,B,F,λargs H v ct ay aa w g0 cM R=>?_⟩;unfold KN at ay;split at ay
 .rename_i V;split at ay
  .rename_i aw;subst aw;cases ay;obtain⟨X,L,rfl,ch,cM⟩:=cM.cons_inv;simp only[cK] at cM;subst cM;simp only[bk] at ch;obtain⟨rfl,_⟩:=ch;refine(cn w).mono λe a8 bf=>?_;obtain⟨rfl,rfl⟩:=bf;refine⟨_,aa,rfl,?_,R.rel,Step.refl _ _ _⟩;simp only[bk];congr 1;rw[Bool.eq_iff_iff,FX,Nat.ble_eq];omega
  .cases ay
 .cases ay
def EI{am el N q}(R:Rel aa H w)(br:H.get a=.cells am 1 2 el false false)(ad:am.row 0=[N,q])(av:aa a=some (b,ca)):∃rM tt,w.heap[b]?=some (.cells #[rM,tt] el (0,0))/\bk aa N rM/\bk aa q tt/\N.lw/\q.lw:=by
 have ay:=R.obj a eN;rw[br] at ay;obtain⟨dA,fs,c,bS,cQ,eL,jU,nR,qR,qJ,mU⟩:=ay;rw[av] at cQ;cases cQ;have jU:=jU rfl;subst jU;simp only[n1,md] at mU;obtain⟨X,dS,fw,lB,pZ⟩:=qJ 0 Y;rw[ad] at dS lB;obtain⟨JC,vc,rfl,AU,dS⟩:=dS.cons_inv;obtain⟨YF,h9,rfl,kO,dS⟩:=dS.cons_inv;simp only[cK] at dS;subst dS;have aw:c= #[JC,YF]:=by
  apply Array.ext';apply IL;intro M;have gL:c.toList.length=2:=by simpa using mU
  by_cases bb:M<2
  .have:=pZ M bb;simp only[Aw,jq] at this;rw[x3,this]
  .rw[qU Y,qU (by simp;omega)]
 subst aw;exact⟨JC,YF,eL,AU,kO,lB N (by simp),lB q (by simp)⟩
def adB{aa}{w}{a el b ca}{N q}{rM tt}(av:aa a=some (b,ca))(bx:w.heap[b]?=some (.cells #[rM,tt] el (0,0)))(B:bk aa N rM)(F:bk aa q tt)(dz:N.lw)(gg:q.lw):ng aa w a (.cells (.j3 (λ_=>[N,q]) 1) 1 2 el false false):=by
 refine⟨b,ca,_,(0,0),av,bx,λ_=>rfl,Y,ez 1,?_,rfl⟩;intro M bb;have:M=0:=Y;subst this;refine⟨[rM,tt],cK.cons B (cK.cons F cK.nil),rfl,λx I=>?_,λM bb=>?_⟩
 .rcases fS.1 I with rfl|I
  .exact dz
  .rw[iF.1 I];exact gg
 .rw[Aw,jq,<-x3]
structure IT(b:Nat)(w a8:World):Prop where
 size:a8.heap.size=w.heap.size
 same:∀k,k≠b->a8.heap[k]?=w.heap[k]?
 tape:a8.tape=w.tape
 os:a8.os=w.os
 output:a8.output=w.output
def Rel.Ce(R:Rel aa H w)(av:aa a=some (b,ca))(K:(H.get a).live)(al:IT b w a8)(ay:ng aa a8 a iq)(hJ:iq.live->True):Rel aa (H.put a iq) a8:=by
 have VC:∀x,((H.put a iq).get x).live=true->(H.get x).live=true:=λx I=>by
  rw[bd.nG _ _ _ _ eN eN] at I;split at I
  .rename_i e;rw[e];exact K
  .exact I
 refine⟨R.next,R.pH,λx I=>?_,λx y I ap B F=>R.inj x y I ap (VC x B) (VC y F)⟩;rw[bd.nG _ _ _ _ eN eN];split
 .rename_i e;rw[e];exact ay
 .rename_i e;have ay:=R.obj x I;have ne:∀dA fs,(H.get x).live=true->aa x=some (dA,fs)->dA≠b:=λdA fs B F ah=>by subst ah;exact e (R.inj x a eN eN B K dA fs ca F av)
  cases q:H.get x with
  |none=>trivial
  |dead=>trivial
  |cells am n z el u dK=>rw[q] at ay ne;obtain⟨dA,fs,c,bS,B,F,ah⟩:=ay;exact⟨dA,fs,c,bS,B,by rw[al.same dA (ne dA fs rfl B)];exact F,ah⟩
  |map es sI=>rw[q] at ay ne;obtain⟨dA,fs,xw,B,F,ah⟩:=ay;exact⟨dA,fs,xw,B,by rw[al.same dA (ne dA fs rfl B)];exact F,ah⟩
def Step.Ce(av:aa a=some (b,ca))(K:(H.get a).live)(al:IT b w a8):Step aa H w aa (H.put a iq) a8:=by
 refine⟨cE.le_refl aa,λ_ _=>rfl,ez _,by rw[al.size];exact ez _,λk az aB=>al.same k λe=>aB ⟨a,eN,K,ca,by rw[e];exact av⟩,λk ⟨x,B,F,ah⟩=>.inr ⟨x,B,?_,ah⟩,λx I aJ=>?_,al.tape,al.os,al.output⟩
 .rw[bd.nG _ _ _ _ eN eN] at F;split at F
  .rename_i e;rw[e];exact K
  .exact F
 .rw[bd.nG _ _ _ _ eN eN];split
  .rename_i e;rw[e,K] at aJ;cases aJ
  .exact aJ
def Jq{s z}(h:bk aa (.ptr a 0 s z) V):∃b ca,aa a=some (b,ca)/\V=.pointer (some ⟨b,s,none⟩):=by simp only[bk] at h;obtain⟨b,ca,B,F⟩:=h;exact⟨b,ca,B,by rw[F];simp⟩
open Classical in
def YO{D}(h:Bk W D=some k):∃am,D=.cells am 1 2 66 false false/\am.row 0=[.pw W,.int 3 k]:=by
 unfold Bk at h;split at h
 .rename_i am;split at h
  .rename_i V c8 ad;split at h
   .rename_i e;cases h;exact⟨am,rfl,by rw[ad,e]⟩
   .cases h
  .cases h
 .cases h
def SF(h:bk aa (.int 3 k) V)(az:k<9223372036854775808):V=.int .i64 (k):=by simp only[bk] at h;obtain⟨_,_,rfl⟩:=h;rw[show dm 3 k=(k:Int) from ke az];rfl
def Y5(h:bk aa (.pw W) V):V=W/\W.oneCell'/\W.cells= #[W]:=by simpa only[bk] using h
def aru(aI:Has P f){W}{cy:Nat}(cn:∀(b)(i)(w),w.cell? ⟨b,0,none⟩=some W->w.cell? ⟨b,1,none⟩=some (.int .i64 i)->Calls P f #[.pointer (some ⟨b,0,none⟩)] w λe a8=>e=.returned (.bool (decide (i<(cy:Int))))/\Below w.heap.size w a8):tF P bI f (Ma W cy):=by
 obtain⟨fn,B,F⟩:=aI;refine⟨fn,B,F,λargs H v ct ay aa w g0 cM R=>?_⟩;unfold Ma at ay;split at ay
 .rename_i a;split at ay
  .rename_i k az;split at ay
   .rename_i aw;cases ay;obtain⟨X,L,rfl,ch,cM⟩:=cM.cons_inv;simp only[cK] at cM;subst cM;obtain⟨b,ca,av,rfl⟩:=Jq ch;obtain⟨am,br,ad⟩:=YO az;obtain⟨rM,tt,bx,v1,v2,_⟩:=EI R.rel br ad av;obtain⟨rfl,_⟩:=Y5 v1;obtain rfl:=SF v2 Y;refine(cn b k w (by unfold World.cell?;rw[bx];rfl) (by unfold World.cell?;rw[bx];rfl)).mono λe a8 bf=>?_;obtain⟨rfl,qz⟩:=bf;refine⟨_,aa,rfl,?_,Rel.below R.rel qz,Step.below qz⟩;simp only[bk];congr 1;rw[Bool.eq_iff_iff,FX,Bh];omega
   .cases ay
  .cases ay
 .cases ay
def ari(aI:Has P f){W:Value}{bY:List Int}(jG:∀(b k n:Nat)(w:World),w.heap[b]?=some (.cells #[W,.int .i64 k] 66 (0,0))->k<=bY.length->bY.length<=100000->OI bI w->bI.heap.size<=b->0<n->n<9223372036854775808->Calls P f #[.pointer (some ⟨b,0,none⟩),.int .i64 n] w λe a8=>match bY[k]? with
 |some x=>e=.returned (.int .i64 (x % (n:Int)))/\IT b w a8/\a8.heap[b]?=some (.cells #[W,.int .i64 ((k+1:Nat):Int)] 66 (0,0))
 |none=>e=.returned (.int .i64 0)/\Below w.heap.size w a8):tF P bI f (HY W bY):=by
 obtain⟨fn,B,F⟩:=aI
 refine⟨fn,B,F,λargs H v ct ay aa w g0 cM R=>?_⟩
 unfold HY at ay
 split at ay
 .rename_i a n;split at ay
  .rename_i k az;split at ay
   .rename_i aw;obtain⟨X,L,rfl,ch,cM⟩:=cM.cons_inv;obtain⟨er,L,rfl,i0,cM⟩:=cM.cons_inv;simp only[cK] at cM;subst cM;obtain⟨b,ca,av,rfl⟩:=Jq ch;obtain rfl:=SF i0 aw.2.1;obtain⟨am,br,ad⟩:=YO az;obtain⟨rM,tt,bx,v1,v2,dz,gg⟩:=EI R.rel br ad av;have ag6:=v1;obtain⟨rfl,vT,yr⟩:=Y5 v1;obtain rfl:=SF v2 Y;have K:(H.get a).live=true:=by rw[br];rfl
    have jd:=R.jr.zj b ⟨a,eN,K,ca,av⟩;refine(jG b k n w bx aw.2.2.1 aw.2.2.2 R.jr.same jd aw.1 aw.2.1).mono λe a8 bf=>?_;cases q:bY[k]? with
    |some x=>rw[q] at ay bf;cases ay;obtain⟨rfl,al,S0⟩:=bf;have ah:=IF x (Y:(n:Int)≠0);have aE:=IE x (Y:(0:Int)<n);exact⟨_,aa,rfl,T4 ah Y,Rel.Ce R.rel av K al (adB av S0 ag6 (xm Y) rfl rfl) λ_=>trivial,Step.Ce av K al⟩
    |none=>rw[q] at ay bf;cases ay;obtain⟨rfl,qz⟩:=bf;exact⟨_,aa,rfl,xm Y,Rel.below R.rel qz,Step.below qz⟩
   .cases ay
  .cases ay
 .cases ay
end
end Go.Tx
