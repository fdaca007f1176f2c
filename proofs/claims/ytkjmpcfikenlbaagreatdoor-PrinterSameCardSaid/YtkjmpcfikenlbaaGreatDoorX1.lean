/- A part. -/
import Derived.Test.YtkjmpcfikenlbaaGreatDoorX0
set_option linter.all false
namespace Go.Tx
open Go Go.Ev
def KC(e)(k):EF e k=k e:=by cases e<;>rfl
def Eg(f):∀(l)(k),xd f l k=k (l.map f)
 |[],k=>rfl
 |e::l,k=>by simp[xd,KC,Eg f l]
def amc(f)(e)(k):R9 f e k=k (dF f e):=by cases e<;>simp only[R9,KC,Eg,dF]
def yP(f):∀(l)(k),k2 f l k=k (l.map (dF f))
 |[],k=>rfl
 |e::l,k=>by simp[k2,amc,yP f l]
def My(f):∀(A)(k),BR f A k=k (gh f A)
 |[],k=>rfl
 |(s,.box ak z (.bS l))::r,k=>by simp[BR,Eg,My f r,gh,g8]
 |(s,.box ak z (.cb l))::r,k=>by simp[BR,My f r,gh,g8]
 |(s,.bF ak z Q u)::r,k=>by simp[BR,My f r,gh,g8]
def yC:∀(l)(k),tH l k=k l
 |[],k=>rfl
 |a::l,k=>by simp[tH,yC l]
def Br{α}:∀(l:List α)(k:List α->Prop),lA l k=k l
 |[],k=>rfl
 |a::l,k=>by simp[lA,Br l]
def Dt:∀(l)(n)(k),zo l n k=k (jv l n)
 |[],n,k=>by cases n<;>rfl
 |a::l,0,k=>rfl
 |a::l,n+1,k=>by simp[zo,Dt l n,jv]
def Gj:∀(l)(n)(k),AQ l n k=k (q1 l n)
 |[],n,k=>by cases n<;>rfl
 |a::l,0,k=>rfl
 |a::l,n+1,k=>by simp[AQ,Gj l n,q1]
def H6(l):∀(n i)(k),DA l i n k=k (l2 l i n)
 |0,i,k=>rfl
 |n+1,i,k=>by simp[DA,Gj,H6 l n,l2]
def AU:∀(l)(n)(v)(k),yN l n v k=k (j9 l n v)
 |[],n,v,k=>by cases n<;>rfl
 |a::l,0,v,k=>rfl
 |a::l,n+1,v,k=>by simp[yN,AU l n,j9]
def KL:∀(l)(n)(b)(k),BH l n b k=k (su l n b)
 |[],n,v,k=>by cases n<;>rfl
 |a::l,0,v,k=>rfl
 |a::l,n+1,v,k=>by simp[BH,KL l n,su]
def BZ{α}:∀(n)(l:List α)(k:List α->Prop),vP n l k=k (l.take n)
 |0,l,k=>by simp_all[vP]
 |n+1,[],k=>by simp_all[vP]
 |n+1,a::l,k=>by simp[vP,BZ n l]
def A5{α}:∀(n)(l:List α)(k:List α->Prop),uM n l k=k (l.drop n)
 |0,l,k=>by simp_all[uM]
 |n+1,[],k=>by simp_all[uM]
 |n+1,a::l,k=>by simp[uM,A5 n l]
def u6{α}:∀(l m:List α)(k:List α->Prop),oJ l m k=k (l++m)
 |[],m,k=>rfl
 |a::l,m,k=>by simp[oJ,u6 l m]
def FC:∀(l)(k),xZ l k=k (l.map .J)
 |[],k=>rfl
 |a::l,k=>by simp[xZ,FC l]
def u5:∀(A)(t)(B)(k),s6 A t B k=k (kO A t B)
 |[],t,B,k=>rfl
 |(s,bH)::l,t,B,k=>by
  simp[s6,kO];cases Nat.beq s t with
  |true=>rfl|false=>simp[u5 l]
def Rm:∀(A)(t)(k),G9 A t k=k (rem A t)
 |[],t,k=>rfl
 |(s,bH)::l,t,k=>by
  simp[G9,rem];cases Nat.beq s t with
  |true=>simp[Rm l]|false=>simp[Rm l]
def zd:∀(A)(aU)(k),v6 A aU k=k (keeps A aU)
 |[],aU,k=>rfl
 |(s,bH)::l,aU,k=>by
  simp[v6,keeps];cases cn s aU with
  |true=>simp[zd l]|false=>simp[zd l]
def Oh:∀(A)(aU)(k),CG A aU k=k (kh A aU)
 |[],aU,k=>rfl
 |(s,bH)::l,aU,k=>by
  simp[CG,kh];cases cn s aU with
  |true=>simp[Oh l]|false=>simp[Oh l]
def c8.on(S:c8)(k:AA):Prop:=k S.L S.E S.A
def acB(f)(L E)(A)(k):OH f L E A k=((c8.mk L E A).map f).on k:=by simp[OH,yP,My];rfl
def zb(aU)(L E)(A)(k):tU aU L E A k=((c8.mk L E A).fZ aU).on k:=by
 cases aU with
 |nil=>rfl|cons a aU=>simp[tU,Oh,zd,acB];rfl
def aaM(s)(L E)(A)(k):Ni s L E A k=((c8.mk L E A).kill s).on k:=by simp[Ni,Rm,acB];rfl
def aaH(d)(B)(k):LP d B k=k (g8 (e1 d) B):=by
 cases B with
 |box ak z aJ=>cases aJ<;>simp only[LP,Eg,g8]
 |bF=>rfl
def Bn(s)(B)(L E)(A)(k):nr s B L E A k=((c8.mk L E A).put s B).on k:=by simp[nr,aaM];rfl
def abP{X}{t}{k}(h:NO X t k):k (jo X t):=by
 have dv:∀{t:b9},HE X t k->k (jo X t):=by rintro t (⟨D,F⟩|⟨D,F⟩)<;>(unfold jo;simp_all)
 cases t with
 |undef=>exact h|bool b=>exact h|int c n=>exact h|str s=>exact h|nil c=>exact h|aH g r=>exact dv h|hy g r B=>exact dv h|fn f x y=>exact dv h|agg l=>exact dv h|gy l=>exact dv h|op g W=>exact dv h
def aet{X}:∀{l}{k},Ix X l k->k (l.map (jo X))
 |[],k,h=>h
 |t::l,k,h=>by have D:=abP h;exact aet (l:=l) (k:=λl=>k (jo X t::l)) D
def Yj{X}{e}{k}(h:NI X e k):k (i5 X e):=by
 cases e with
 |J t=>exact abP h|_=>exact h
def IY{X}:∀{l}{k},yV X l k->k (l.map (i5 X))
 |[],k,h=>h
 |t::l,k,h=>by have D:=Yj h;exact IY (l:=l) (k:=λl=>k (i5 X t::l)) D
def aoC{X}{e}{k}(h:UI X e k):k (dF (i5 X) e):=by
 cases e with
 |J t=>exact Yj (e:=.J t) (k:=k) h|agg l=>exact IY (l:=l) (k:=λl=>k (.agg l)) h|fn f x y=>have D:=IY (l:=x) (k:=λl=>yV X y λcV=>k (.fn f l cV)) h;exact IY (l:=y) (k:=λcV=>k (.fn f (x.map (i5 X)) cV)) D|_=>exact h
def Ui{X}:∀{l}{k},E3 X l k->k (l.map (dF (i5 X)))
 |[],k,h=>h
 |t::l,k,h=>by have D:=aoC h;exact Ui (l:=l) (k:=λl=>k (dF (i5 X) t::l)) D
def aby{X}:∀{l:di},eD X l=false->l.map (jo X)=l
 |[],_=>rfl
 |t::l,h=>by have⟨D,F⟩:=sX h;rw[gg,aby F,jo,D]
def RQ{X}:∀{l:g4},h7 X l=false->l.map (λr=>r.map (jo X))=l
 |[],_=>rfl
 |t::l,h=>by have⟨D,F⟩:=sX h;rw[gg,RQ F,aby D]
def Xt{X}{B}{k}(h:S5 X B k):k (p4 X B):=by
 cases B with
 |box ak z aJ=>cases aJ with
  |cb l=>exact aet h|bS l=>exact IY h
 |bF ak z Q u=>have⟨D,F⟩:=h;show k (.bF ak z (Q.map λr=>r.map (jo X)) u);rw[RQ D];grind
def Ws{X}:∀{A}{k},Da X A k->k (qB X A)
 |[],k,h=>h
 |(s,B)::l,k,h=>by have D:=Xt h;exact Ws (A:=l) (k:=λr=>k ((s,p4 X B)::r)) D
def Nb{X}{L E}{A}{k}(h:ia X L E A k):((c8.mk L E A).bJ X).on k:=by
 cases X with
 |nil=>exact h|cons a X=>have D:=Ui h;have F:=Ui D;exact Ws F
variable{a9:aO}{bb a b f h n:Nat}{i p v x:a2}{k:a2->Prop}{l:di}{op:BinOp}{parts:List (Prod Nat a2)}
def j0{b}{x y}(D:b=true->x)(br:b=false->y):lY b x y:=by cases b with|true=>exact .yes rfl (D rfl)|false=>exact .no rfl (br rfl)
def ajj{E A body}(bv:Nat->bK->bf->Prop)(br:∃m,bv m E A)(ap:∀m ba E A,bv m E A->(∀i7 fe bE,i7<m->bv i7 fe bE->ba fe bE)->body ba E A):∃n,eE body n E A:=by
 have:∀n m E A,m<n->bv m E A->eE body n E A:=by
  intro n;induction n with
  |zero=>simp_all|succ n bQ=>intro m E A h aN;exact ap m _ E A aN λi7 fe bE cz DV=>bQ i7 fe bE I DV
 have⟨m,br⟩:=br;exact⟨m+1,this _ m E A I br⟩
def bU.imp{C}{X}{f}{args}{A}{b8 ov}(h:bU C X f args A b8)(a0:∀v A,b8 v A->ov v A):bU C X f args A ov:=by intro U Z H fV a4 aC;have⟨r,bE,v,az,bm,b2,D,F⟩:=h U Z H fV a4 aC;exact⟨r,bE,v,az,bm,b2,a0 _ _ D,F⟩
def ff:Nat->Nat->Option qq:=λ_ _=>some ⟨[],[],[],[]⟩
def afo(bn)(k):acR bn k=k (cv bn):=by cases bn<;>rfl
def Ph(bn)(k):Kd bn k=k (cv bn) (cF (cv bn)) (eK (cv bn)):=by cases bn<;>rfl
def aei:∀(l n),tQ.BM l n=ez l n
 |0,n=>rfl
 |l+1,n=>by show UInt8.ofNat (n % 256)::tQ.BM l (n / 256)=UInt8.ofNat (n % 256)::ez l (n / 256);rw[aei l]
def Qr(bn):eK (cv bn)<=cF (cv bn):=by cases bn<;>decide
def tL{α}{B:Option α}{k}(h:qQ B k):∃v,B=some v/\k v:=by
 cases B with
 |none=>exact h.elim|some v=>exact⟨v,rfl,h⟩
def Zp(n)(k):∀l,Oj n k l=k n
 |[]=>rfl
 |a::l=>by
  unfold Oj;cases q:Nat.beq a n with
  |true=>simp_all|false=>exact Zp n k l
def UY(n)(k):O3 n k=k n:=Zp n k lits
def arw(b)(k):X3 b k=k b:=by cases b<;>rfl
def XG(e)(k):Mh e k=k e:=by
 unfold Mh;split
 .rw[UY,UY]
 .rw[Br]
 .rw[arw]
 .rw[KC]
def L5:∀(l:List a2)(k:List a2->Prop),Gu l k=k l
 |[],k=>rfl
 |e::l,k=>by simp[Gu,XG,L5 l]
def aia(e)(k):LY e k=k e:=by
 unfold LY;split
 .rw[L5]
 .rw[XG]
def apv{v:Value}{k:a2->Prop}(h:Ld v k):k (match mP v with|some v=>Cx v|none=>.J .undef):=by
 have sg:(match mP v with|some v=>LY (Cx v) k|none=>k (.J .undef))->k (match mP v with|some v=>Cx v|none=>.J .undef):=by
  intro h;cases aI:mP v with
  |none=>simp_all|some w=>simp_all[aia]
 cases v with
 |int bn n=>cases n with
  |ofNat m=>
   simp[Ld]at h;cases hm:Nat.blt m (eK (cv bn))with
   |false=>simp_all
   |true=>
    rw[hm]at h;simp[afo,UY]at h;have be:=dg.1 hm;have ag:q9 (cv bn) (Int.ofNat m)=m:=by have:=Qr bn;show((m:Int) % (cF (cv bn):Int)).toNat=m;rw[u0 I I];rfl
    have ap:eM (cv bn) m=(m:Int):=by unfold eM;simp_all
    have:mP (.int bn (.ofNat m))=some (.int (cv bn) m):=by show(if eM (cv bn) (q9 (cv bn) (Int.ofNat m))=Int.ofNat m then some (bp.int (cv bn) (q9 (cv bn) (Int.ofNat m)))else none)=_;simp_all
    rw[this];exact h
  |negSucc m=>exact sg h
 |bool b=>exact h
 |string s=>
  simp only[Ld]at h;cases hm:Nat.ble s.data.toList.length 1152921504606846976 with
  |false=>simp_all
  |true=>
   rw[hm]at h;have:mP (.string s)=some (.str s.data.toList.length (yt s.data.toList)):=by show(match Nat.ble s.data.toList.length 1152921504606846976 with|true=>some (bp.str s.data.toList.length (yt s.data.toList))|false=>none)=_;rw[hm]
   rw[this];have h:k (.J (.str s.data.toList)):=by
    cases q:Nat.ble s.data.toList.length 40 with
    |true=>rw[q]at h;simp_all[Br]|false=>simp_all
   show k (.J (.str (tQ.BM s.data.toList.length (yt s.data.toList))));rw[aei,Ut];exact h
 |_=>exact sg h
section
variable{P:dK}{es:List Nat}{ah:List (Option Nat)}{L E:List a2}{A:bf}
def iM{x}(h:hH es ah L E x k):k (ey es ah ⟨L,E,A⟩ x):=by
 cases x with
 |tmp t=>
  unfold hH at h;unfold ey;simp at h ⊢;cases bq:j2 t ah with
  |some i=>simp_all[Dt]
  |none=>
   rw[bq]at h;cases aN:jB t es with
   |some i=>simp_all[Dt]|none=>simp_all
 |const v=>exact apv h|func f=>exact h|global g=>exact h
def xY:∀{l}{k:List a2->Prop},wX es ah L E l k->k (l.map (ey es ah ⟨L,E,A⟩))
 |[],k,h=>h
 |x::l,k,h=>by have D:=iM (A:=A) h;exact xY (l:=l) (k:=λl=>k (ey es ah ⟨L,E,A⟩ x::l)) D
def Ky:∀{l}{k},D2 es ah L E l k->k (rg es ah ⟨L,E,A⟩ l)
 |[],k,h=>h
 |(i,x)::l,k,h=>by have D:=iM (A:=A) h;exact Ky (l:=l) (k:=λl=>k ((i,ey es ah ⟨L,E,A⟩ x)::l)) D
def DG{c k}(h:vm c v k):∃n,v=.J (.int c n)/\k n:=by
 cases v with
 |J t=>cases t with
  |int fF n=>
   simp only[vm]at h;cases aQ:Nat.beq fF c<;>simp_all
  |_=>exact h.elim
 |_=>exact h.elim
def Gi(c n):rs c (.J (.int c n))=some n:=by show(match Nat.beq c c with|true=>some n|false=>none)=some n;simp_all
def adR(gU:bb=2*h)(aC:a<h)(aB:b<h):eA h bb a b=Nat.blt a b:=by subst gU;unfold eA;rw[show Nat.mod (Nat.add h a) (2*h)=h+a from qM (by grind),show Nat.mod (Nat.add h b) (2*h)=h+b from qM (by grind)];rw[Bool.eq_iff_iff,dg,dg];omega
def Vb(gU:bb=2*h)(aC:a<h)(aB:b<h):eo h bb a b=Nat.ble a b:=by subst gU;unfold eo;rw[show Nat.mod (Nat.add h a) (2*h)=h+a from qM (by grind),show Nat.mod (Nat.add h b) (2*h)=h+b from qM (by grind)];rw[Bool.eq_iff_iff,dT,dT];omega
def O5(bn)(h:Nat.beq (eK (cv bn)) (cF (cv bn))=false):cF (cv bn)=2*eK (cv bn):=by revert h;cases bn<;>decide
def apT{bn}(h:CS op (cv bn) (cF (cv bn)) (eK (cv bn)) a b k):∃t,yn op (cv bn) a b=some t/\k (.J t):=by
 have num:∀{p:Prop}{x y:Nat}{k:Nat->Prop},uj p x y k->(p->y=x)->k y:=by
  rintro p x y k (⟨D,F⟩|F) bq
  all_goals simp_all
 have lt:∀{p:Prop}{x y:Bool}{k:Bool->Prop},q2 p x y k->(p->y=x)->k y:=by
  rintro p x y k (⟨D,F⟩|F) bq
  all_goals simp_all
 cases op with
 |add=>exact⟨_,rfl,num h λbq=>qM bq⟩
 |sub=>refine⟨_,rfl,num h λbq=>?_⟩;show(cF (cv bn)+a - b) % cF (cv bn)=a - b;rw[show cF (cv bn)+a - b=(a - b)+cF (cv bn) by omega,Nat.add_mod_right,qM I]
 |mul=>exact⟨_,rfl,num h λbq=>qM bq⟩
 |quo=>obtain⟨⟨D,F,aq⟩,aL⟩:=h;refine⟨_,?_,aL⟩;show(match Nat.blt a (eK (cv bn))&&Nat.blt b (eK (cv bn))&& !Nat.beq b 0 with|true=>_|false=>_)=_;rw[dg.2 D,dg.2 F,show Nat.beq b 0=false from u1 I];rfl
 |rem=>obtain⟨⟨D,F,aq⟩,aL⟩:=h;refine⟨_,?_,aL⟩;show(match Nat.blt a (eK (cv bn))&&Nat.blt b (eK (cv bn))&& !Nat.beq b 0 with|true=>_|false=>_)=_;rw[dg.2 D,dg.2 F,show Nat.beq b 0=false from u1 I];rfl
 |and=>exact⟨_,rfl,h⟩|or=>exact⟨_,rfl,h⟩|xor=>exact⟨_,rfl,h⟩|eql=>exact⟨_,rfl,h⟩|neq=>exact⟨_,rfl,h⟩
 |lss=>
  simp[CS,yn]at h ⊢;cases a0:Nat.beq (eK (cv bn)) (cF (cv bn))with
  |true=>simp_all|false=>rw[a0]at h;exact⟨_,rfl,lt h λbq=>adR (O5 bn a0) bq.1 bq.2⟩
 |gtr=>
  simp[CS,yn]at h ⊢;cases a0:Nat.beq (eK (cv bn)) (cF (cv bn))with
  |true=>simp_all|false=>rw[a0]at h;exact⟨_,rfl,lt h λbq=>adR (O5 bn a0) bq.1 bq.2⟩
 |leq=>
  simp[CS,yn]at h ⊢;cases a0:Nat.beq (eK (cv bn)) (cF (cv bn))with
  |true=>simp_all|false=>rw[a0]at h;exact⟨_,rfl,lt h λbq=>Vb (O5 bn a0) bq.1 bq.2⟩
 |geq=>
  simp[CS,yn]at h ⊢;cases a0:Nat.beq (eK (cv bn)) (cF (cv bn))with
  |true=>simp_all|false=>rw[a0]at h;exact⟨_,rfl,lt h λbq=>Vb (O5 bn a0) bq.1 bq.2⟩
 |_=>exact h.elim
def aoD{a b}(h:aaL op a b k):∃t,Mj op a b=some t/\k (.J t):=by
 cases op with
 |add=>obtain⟨D,F⟩:=h;refine⟨_,?_,F⟩;show(match Nat.ble (a.length+b.length) Oa with|true=>_|false=>_)=_;rw[show Nat.ble (a.length+b.length) Oa=true from dT.2 D]
 |eql=>exact⟨_,rfl,h⟩|neq=>exact⟨_,rfl,h⟩|lss=>exact⟨_,rfl,h⟩|gtr=>exact⟨_,rfl,h⟩|leq=>exact⟨_,rfl,h⟩|geq=>exact⟨_,rfl,h⟩|_=>exact h.elim
def aqn{a b}(h:aeW op a b k):∃t,Pw op a b=some t/\k (.J t):=by
 cases op with
 |eql=>exact⟨_,rfl,h⟩|neq=>exact⟨_,rfl,h⟩|_=>exact h.elim
def mI{α nh}{a:Option α}{x}{f:α->Option nh}(h:a=some x):cD a f=f x:=by rw[h];rfl
def C1{α fH nh}{a:Option α}{b:Option fH}{x}{y}{f:α->fH->Option nh}(h:a=some x)(cz:b=some y):dp a b f=f x y:=by rw[h,cz];rfl
def akw{op}{t}{x y}{kB kq}{k}(h:T9 P A op t x y kB kq k):∃e,rp P A op t x y kB kq=some e/\k e:=by
 unfold T9 at h;split at h
 .rename_i bn hu;have rV:∀E8,(E8≠.shl)->(E8≠.shr)->(Kd bn λc bb a1=>vm c kB λa=>vm c kq λb=>CS E8 c bb a1 a b k)->∃e,rp P A E8 t x y kB kq=some e/\k e:=by intro E8 c4 cl cz;rw[Ph]at cz;obtain⟨a,aP,aq⟩:=DG cz;obtain⟨b,a3,aL⟩:=DG aq;obtain⟨a6,D,F⟩:=apT aL;subst aP a3;refine⟨_,?_,F⟩;unfold rp;rw[hu];cases E8<;>first|(exact absurd rfl c4)|(exact absurd rfl cl)|(simp only[Gi,dp,D,xo,cD])
  cases op<;>first|exact tL h|simp_all
 .rename_i hu;split at h
  .obtain⟨a6,D,F⟩:=aoD h;refine⟨_,?_,F⟩;unfold rp;rw[hu];simp[vX,Um,dp,Rt,Kr,U7,V4,Uh,R6,V0,Qj,VV,MG,L1,DU,g1,qd,Ae,D,xo,cD]
  simp_all
 .rename_i hu;split at h
  .obtain⟨a6,D,F⟩:=aqn h;refine⟨_,?_,F⟩;unfold rp;rw[hu];simp[pj,PE,dp,SL,Kr,U7,V4,Uh,R6,V0,Qj,VV,MG,L1,DU,g1,qd,Ae,D,xo,cD]
  simp_all
 .exact tL h
def apA{op}{x}{k}(h:PB op x k):∃e,JR op x=some e/\k e:=by
 cases op with
 |not=>
  unfold PB at h;simp only at h;split at h
  .exact⟨_,rfl,h⟩
  simp_all
 |_=>exact tL h
def afC{s d}(h:UE P s d x k):∃e,EY P s d x=some e/\k e:=by
 unfold UE at h;split at h
 .rename_i bn Tk D F;rw[Ph,Ph]at h;obtain⟨n,aP,aq⟩:=DG h;subst aP;unfold EY;rw[D,F];simp[Gi,cD];cases a0:Nat.ble (cF (cv Tk)) (cF (cv bn))with
  |true=>
   simp only[a0]at aq;rcases aq with⟨aq,aL⟩|aL
   .simp_all[qM]
   simp_all
  |false=>simp only[a0]at aq;obtain⟨aq,aL⟩:=aq;simp only[dg.2 aq];simp_all
 .rename_i D F;split at h
  .unfold EY;rw[D,F];exact⟨_,rfl,h⟩
  simp_all
 simp_all
def MC{k}(h:EI v b k):∃n,idx v b=some n/\k n/\n<b:=by
 cases v with
 |J t=>cases t with
  |int c n=>
   simp[EI]at h;cases aQ:Nat.ble 3 c with
   |false=>simp_all
   |true=>rw[aQ]at h;obtain⟨D,F⟩:=h;refine⟨n,?_,F,D⟩;show(match Nat.ble 3 c&&Nat.blt n b with|true=>some n|false=>none)=some n;rw[aQ,dg.2 D];rfl
  |_=>exact h.elim
 |_=>exact h.elim
def ae4(h:gC l n):l2 (pQ (.agg l)) 0 n=l:=by have:=Cw h;subst this;exact Oo l
def aai(aD:n=1->False)(Y:gC l n):nS A (.J (.agg l)) n=some (l.map .J):=by
 have e:=ae4 Y
 match n,aD with
 |0,_=>show(match gC l 0 with|true=>some ((l2 (pQ (.agg l)) 0 0).map a2.J)|false=>none)=_;grind
 |1,aD=>simp_all
 |n+2,_=>show(match gC l (n+2)with|true=>some ((l2 (pQ (.agg l)) 0 (n+2)).map a2.J)|false=>none)=_;grind
def Ov{k}(h:E6 A v n k):∃c,nS A v n=some c/\k c:=by
 unfold E6 at h;split at h
 .split at h
  .grind[nS]
  .grind[nS]
  .exact⟨_,rfl,h⟩
  .grind[nS]
  .grind[nS]
  simp_all
 .rename_i aD;split at h
  .grind[nS]
  .rename_i l;cases Y:gC l n with
   |false=>simp_all|true=>simp_all[FC,aai]
  simp_all
def Sn(a b)(k):Im a b k=k (a+b):=by
 cases a with
 |zero=>simp[Im]|succ a=>rfl
end
section
variable{P:dK}{es:List Nat}{ah:List (Option Nat)}{L E:List a2}{A:bf}
def YB{aR l}{t}(h:L7 P t aR l k):∃e,At P t aR l=some e/\k e:=by
 unfold L7 at h;unfold At;split at h
 .rename_i n D F;rw[D,F];simp;cases a0:Nat.ble (aR+n) l.length with
  |true=>simp_all[A5,BZ]|false=>simp_all
 .rename_i n D F;rw[D,F];cases a0:Nat.blt aR l.length with
  |true=>simp_all[Dt]|false=>simp_all
 simp_all
def ak9{t}(h:VS P t f x k):∃e,IH P t f x=some e/\k e:=by
 unfold VS at h;unfold IH;split at h
 .rename_i cK D;rw[D];simp only;split at h
  .rename_i fd F;rw[F];simp only;split at h
   .exact YB h
   .rename_i l;split at h
    .rename_i n aq;rw[aq];cases Y:gC l n with
     |false=>simp_all
     |true=>rw[Y]at h;simp only[FC]at h;show ∃e,(match gC l n with|true=>At P fd.type fd.offset ((l2 (pQ (.agg l)) 0 n).map .J)|false=>none)=_/\_;simp_all[ae4,YB]
    simp_all
   simp_all
  simp_all
 simp_all
def apl{t}(h:SQ P A t f x k):∃e,Ii P A t f x=some e/\k e:=by
 unfold SQ at h;unfold Ii;split at h
 .rename_i cK D;rw[D];simp only;split at h
  .rename_i _ _ ka B _ _ _ _ F;rw[F];simp only;split at h
   .rename_i m aq;rw[aq];split at h
    .rename_i s aR;simp;cases aB:t5 A s with
     |true=>simp_all[Sn]|false=>simp_all
    .rename_i s r aR;simp;cases aB:nW A s with
     |true=>simp_all[Sn]|false=>simp_all
    .simp[Sn]at h;exact⟨_,rfl,h⟩
    simp_all
   simp_all
  simp_all
 simp_all
def aqN{t}(h:PC P t x i k):∃e,Ij P t x i=some e/\k e:=by
 unfold PC at h;unfold Ij;split at h
 .rename_i D;rw[D];simp only;split at h
  .rename_i s;obtain⟨n,F,⟨b,aq,aL⟩,_⟩:=MC h;refine⟨_,?_,aL⟩;show cD (idx i s.length) (λj=>match s[j]? with|some b=>some (a2.J (.int 4 b.toNat))|none=>none)=_;simp_all[mI]
  simp_all
 simp_all
def afs{t}(h:US P t A x i k):∃e,HA P t A x i=some e/\k e:=by
 unfold US at h;unfold HA;split at h
 .rename_i e D;rw[D];simp only;split at h
  .rename_i m F;rw[F];split at h
   .rename_i g Q;obtain⟨n,aq,⟨r,aL,bO⟩,_⟩:=MC h;cases Y:gC r (m+1)with
    |false=>simp_all
    |true=>rw[Y]at bO;refine⟨_,?_,bO⟩;show cD (idx i Q.length) (λj=>match gC (fT Q j) (m+1)with|true=>some (a2.J (.hy (4*(g / 2)+1) (fT Q j) 0))|false=>none)=_;rw[mI aq,aL,Y]
   .rename_i s;simp only;split at h
    .rename_i ak z Q u Y;rw[Y];simp;cases cA:Nat.beq z (m+1)with
     |false=>simp_all
     |true=>rw[cA]at h;obtain⟨n,aq,aL,_⟩:=MC h;exact⟨_,mI aq,aL⟩
    simp_all
   simp_all
  simp_all
 simp_all
def Of{d x k}(h:Ih es ah L E d x k):∃n,uE es ah ⟨L,E,A⟩ d x=some n/\k n:=by
 cases x with
 |none=>exact⟨_,rfl,h⟩
 |some x=>have D:=iM (A:=A) h;obtain⟨n,F,aq,_⟩:=MC D;exact⟨n,F,aq⟩
def pe(i):Nat.blt i i=false:=by
 cases q:Nat.blt i i<;>simp_all
def amU{hU aN}{t}(h:Wb P es ah L E t x hU aN k):∃e,KW P t x (uE es ah ⟨L,E,A⟩ 0 hU) (λd=>uE es ah ⟨L,E,A⟩ d aN)=some e/\k e:=by
 unfold Wb at h;unfold KW;split at h
 .rename_i D;rw[D];simp only;split at h
  .rename_i s;obtain⟨i,F,aq⟩:=Of (A:=A) h;obtain⟨j,aL,⟨bO,cr⟩,fK⟩:=Of (A:=A) aq;refine⟨_,?_,fK⟩;show dp (uE es ah ⟨L,E,A⟩ 0 hU) (uE es ah ⟨L,E,A⟩ s.length aN) (λi j=>match Nat.ble j s.length&&Nat.ble i j with|true=>some (a2.J (.str ((s.drop i).take (j - i))))|false=>none)=_;rw[C1 F aL,dT.2 bO,dT.2 cr];rfl
  simp_all
 .rename_i e D;rw[D];simp only;split at h
  .rename_i g Q;simp only[rL,jJ,wv];split at h
   .rename_i m F;rw[F];obtain⟨r,aq,aL⟩:=h;cases Y:gC r (m+1)with
    |false=>simp_all
    |true=>
     rw[Y]at aL;obtain⟨i,bO,cr⟩:=Of (A:=A) aL;obtain⟨j,fK,hI⟩:=Of (A:=A) cr;have dv:∀e,(match Nat.ble j Q.length&&Nat.ble i j with
      |true=>match Nat.blt i j with
       |true=>some (a2.J (.aH (2*(g / 2)) ((Q.drop i).take (j - i))))|false=>some (.J (.aH 0 []))
      |false=>none)=some e->(match gC (fT Q 0) (m+1)with
     |true=>dp (uE es ah ⟨L,E,A⟩ 0 hU) (uE es ah ⟨L,E,A⟩ Q.length aN) λi j=>match Nat.ble j Q.length&&Nat.ble i j with
      |true=>match Nat.blt i j with
       |true=>some (a2.J (.aH (2*(g / 2)) ((Q.drop i).take (j - i))))|false=>some (.J (.aH 0 []))
      |false=>none
     |false=>none)=some e:=by simp_all[C1]
     rcases hI with⟨aj,an,aM⟩|⟨aj,an,aM⟩|⟨AI,aj,an,aM⟩
     .exact⟨_,dv _ (by rw[dT.2 an,dT.2 (Nat.le_of_lt aj),dg.2 aj];rfl),aM⟩
     .subst aj an;exact⟨_,dv _ (by rfl),aM⟩
     .subst aj;exact⟨_,dv _ (by rw[dT.2 an,dT.2 (fI i),show Nat.blt i i=false from pe i];rfl),aM⟩
   simp_all
  simp_all
 simp_all
def PX:∀{cK}{i}{z:List a2}{k:List a2->Prop},KF P A parts i cK z k->∃l,ui P A parts i cK z=some l/\k l
 |[],i,[],k,h=>⟨_,rfl,h⟩|[],i,_::_,k,h=>h.elim
 |fd::cK,i,z,k,h=>by
  unfold KF at h;unfold ui;split at h
  .rename_i s D;rw[D];simp only;split at h
   .rename_i g F aq;obtain⟨c,aL,bO⟩:=Ov h;simp[A5]at bO;obtain⟨q,cr,fK⟩:=PX bO;rw[u6]at fK;rw[F,aq];exact⟨_,C1 aL cr,fK⟩
   .rename_i F aq;simp[A5,BZ]at h;obtain⟨q,cr,fK⟩:=PX h;rw[u6]at fK;rw[F,aq];exact⟨_,mI cr,fK⟩
   simp_all
  simp_all
def am4{t}(h:P0 P A t parts k):∃e,Km P A t parts=some e/\k e:=by
 unfold P0 at h;unfold Km;split at h
 .rename_i cK D;rw[D];simp only;split at h
  .rename_i n l F aq;rw[F,aq];simp[L5]at h ⊢;obtain⟨q,cr,fK⟩:=PX h;exact⟨_,mI cr,fK⟩
  simp_all
 simp_all
def ag6{t}(h:Qi P t A x k):∃e,Iq P t A x=some e/\k e:=by
 unfold Qi at h;unfold Iq;split at h
 .rename_i D;rw[D];split at h
  .exact⟨_,rfl,h⟩
  simp_all
 .rename_i D;rw[D];split at h
  .simp_all
  .exact⟨_,rfl,h⟩
  all_goals grind
 simp_all
def adx(aC:a<9223372036854775808)(aB:b<9223372036854775808):py a b=Nat.blt a b:=by unfold py;rw[show Nat.mod (Nat.add a 9223372036854775808) 18446744073709551616=a+9223372036854775808 from qM (by grind),show Nat.mod (Nat.add b 9223372036854775808) 18446744073709551616=b+9223372036854775808 from qM (by grind)];rw[Bool.eq_iff_iff,dg,dg];omega
def amC{bS : Bool}{a b : Nat}(aC : a < 9223372036854775808)(aB : b < 9223372036854775808) : LR bS a b = (match bS with | true => max a b | false => min a b) := by
  cases bS with
  | true =>
    show IV (py a b) b a = max a b
    rw [adx aC aB]
    cases q : Nat.blt a b with
    | true => have := dg.1 q; show b = _; omega
    | false => have : ¬ a < b := λh => by rw [dg.2 h]at q; cases q
               show a = _; omega
  | false =>
    show IV (py b a) b a = min a b
    rw [adx aB aC]
    cases q : Nat.blt b a with
    | true => have := dg.1 q; show b = _; omega
    | false => have : ¬ b < a := λh => by rw [dg.2 h]at q; cases q
               show a = _; omega
def RL{bS}:∀{l:List a2}{k},LS bS l k->∃n,EL bS l=some n/\k n
 |[],k,h=>h.elim
 |[x],k,h=>by obtain⟨n,e,D⟩:=DG h;subst e;exact⟨n,Gi 3 n,D⟩
 |x::y::l,k,h=>by
  obtain⟨a,e,D⟩:=DG h;subst e;obtain⟨b,F,aq⟩:=RL D;refine⟨_,C1 (Gi 3 a) F,?_⟩;rcases aq with⟨aL,bO⟩|bO
  .rw[amC aL.1 aL.2];grind
  grind
def anE(q:Bool)(a b:a2):Od (.J (.bool q)) a b=(match pj a,pj b with
 |some x,some y=>some (.J (.bool (match q with|true=>x|false=>y)))
 |_,_=>match q with
  |true=>some a
  |false=>some b):=rfl
def arb{c a b}(h:Tu c a b k):∃e,Od c a b=some e/\k e:=by
 unfold Tu at h;split at h
 .rename_i q;rw[anE];split at h
  .rcases h with⟨a0,h⟩|⟨a0,h⟩<;>subst a0<;>exact⟨_,rfl,h⟩
  grind
 simp_all
def af4{l:List b9}{i:Nat}:I3 (.J (.gy l)) i=match Nat.blt i l.length with|true=>some (.J (q1 l i))|false=>none:=rfl
def abd{op}(h:Oi P es ah L E A op k):∃e,vx P es ah ⟨L,E,A⟩ op=some e/\k e:=by
 unfold Oi at h;split at h
 .exact⟨_,rfl,iM h⟩
 .exact⟨_,rfl,iM h⟩
 .exact arb (iM (A:=A) (iM (A:=A) (iM (A:=A) h)))
 .exact am4 (Ky (A:=A) h)
 .have D:=iM (A:=A) h;grind[vx]
 .exact akw (iM (A:=A) (iM (A:=A) h))
 .exact apA (iM (A:=A) h)
 .exact afC (iM (A:=A) h)
 .rename_i f b5 cV;have D:=xY (A:=A) (xY (A:=A) h);rw[Uu,Uu]at D;cases q:(b5.toList.all (atom ∘ ey es ah ⟨L,E,A⟩)&&cV.toList.all (atom ∘ ey es ah ⟨L,E,A⟩))with
  |true=>rw[q]at D;refine⟨_,?_,D⟩;show(match b5.toList.all (atom ∘ ey es ah ⟨L,E,A⟩)&&cV.toList.all (atom ∘ ey es ah ⟨L,E,A⟩)with|true=>_|false=>_)=_;rw[q]
  |false=>grind
 .exact amU (iM (A:=A) h)
 .exact apl (iM (A:=A) h)
 .exact ak9 (iM (A:=A) h)
 .exact afs (iM (A:=A) (iM (A:=A) h))
 .exact aqN (iM (A:=A) (iM (A:=A) h))
 .rename_i x i;have D:=iM (A:=A) h;show ∃e,I3 (ey es ah ⟨L,E,A⟩ x) i=some e/\k e;revert D;generalize ey es ah ⟨L,E,A⟩ x=v;intro D;split at D
  .rename_i l;rw[af4];cases q:Nat.blt i l.length with
   |true=>simp_all[Gj]|false=>simp_all
  simp_all
 .rename_i c;split at h
  .rename_i t x D F aq;obtain⟨e,aL,bO⟩:=ag6 (iM (A:=A) h);simp_all[vx]
  .rename_i t l D;obtain⟨e,aL,bO⟩:=RL (xY (A:=A) h);simp_all[vx,mI]
  .rename_i t l D;obtain⟨e,aL,bO⟩:=RL (xY (A:=A) h);simp_all[vx,mI]
  simp_all
 simp_all
end
def lp{C}{α}{B:Option α}{k}{x}(h:B=some x)(ar:k x):hG (dH C) B k:=by subst h;exact ar
section
variable{C:Nat->cE}{bo:kH}{P:dK}{es:aO}{ah:dM}{L E:bK}{A:bf}
def Sb{t}(h:Ib P t A p k):∃e,wI P t A p=some e/\k e:=by
 unfold Ib at h;unfold wI;split at h
 .rename_i n D F;rw[D,F];simp only;split at h
  .rename_i s aR;simp only;split at h
   .rename_i ak z l Y;rw[Y];simp;cases q:(Nat.beq aR 0&&Nat.beq n z)with
    |true=>simp_all
    |false=>
     rw[q]at h;cases aX:Nat.ble (aR+n) z with
     |true=>simp_all[H6]|false=>simp_all
   .rename_i ak z l Y;rw[Y];simp;cases aX:Nat.ble (aR+n) l.length with
    |true=>simp_all[A5,BZ]|false=>simp_all
   simp_all
  .rename_i g r aR;simp[wd,ux];cases q:(Nat.beq aR 0&&gC r n)with
   |true=>rw[q]at h;exact⟨_,rfl,h⟩
   |false=>
    rw[q]at h;cases aX:Nat.ble (aR+n) r.length with
    |true=>rw[aX]at h;simp only[H6]at h;exact⟨_,rfl,h⟩|false=>simp_all
  .rename_i s r aR;simp only;split at h
   .rename_i ak z Q u Y;rw[Y];have⟨aJ,aq,aL⟩:=h;simp[aq];cases q:(Nat.beq aR 0&&Nat.beq n z)with
    |true=>simp_all
    |false=>
     rw[q]at aL;cases aX:Nat.ble (aR+n) z with
     |true=>simp_all[H6]|false=>simp_all
   simp_all
  simp_all
 .rename_i D F;rw[D,F];simp only;split at h
  .rename_i s aR;simp only;split at h
   .rename_i ak z l Y;rw[Y];simp;cases q:Nat.blt aR z with
    |true=>simp_all[Gj]|false=>simp_all
   .rename_i ak z l Y;rw[Y];simp;cases aX:Nat.blt aR l.length with
    |true=>simp_all[Dt]|false=>simp_all
   simp_all
  .rename_i g r aR;simp[wd,ux];cases q:Nat.blt aR r.length with
   |true=>rw[q]at h;simp only[Gj]at h;exact⟨_,rfl,h⟩|false=>simp_all
  .rename_i s r aR;simp only;split at h
   .rename_i ak z Q u Y;rw[Y];have⟨aJ,aq,aL⟩:=h;simp[aq];cases q:Nat.blt aR z with
    |true=>simp_all[Gj]|false=>simp_all
   simp_all
  simp_all
 simp_all
def ah0(z)(r)(k):U2 z r k=k (F6 z r):=by
 cases r with
 |cb l=>simp_all[U2,H6,FC,F6]|bS l=>rfl
def an1(l)(aR)(c)(k):Qm l aR c k=k (LK l aR c):=by simp_all[Qm,BZ,A5,u6,LK]
def XC(l:di)(n):xi n (.agg l)=gC l n:=rfl
def TV{α:Type}(a:Option α)(f:Nat->di->α){l:di}(z:Nat):(z=1->False)->gC l z=true->(match z with
 |1=>a
 |z=>match xi z (.agg l)with
  |true=>some (f z (pQ (.agg l)))
  |false=>none)=some (f z l):=by
 simp_all[XC,pQ]
def afQ{t:b9}{n}{k:di->Prop}(h:SH t n k):∃c,HN t n=some c/\k c:=by
 unfold SH at h;unfold HN;split at h
 .grind
 .rename_i cA;split at h
  .rename_i l;cases aX:gC l n with
   |true=>rw[aX]at h;exact⟨_,TV (match oN (.agg l)with|true=>some [.agg l]|false=>none) (λ_ l=>l) n cA aX,h⟩
   |false=>simp_all
  simp_all
def agd{k}{t}(h:U3 P t A p v k):∃bE,BY P t ⟨L,E,A⟩ p v=some bE/\k bE:=by
 unfold U3 at h;unfold BY;split at h
 .rename_i m D;rw[D];simp only;split at h
  .rename_i s aR;simp only;split at h
   .rename_i ak z aJ Y;rw[Y];simp;cases q:(Nat.beq aR 0&&Nat.beq (m+1) z)with
    |true=>
     rw[q]at h;simp at h ⊢;split at h
     .rename_i a6;simp;split at h
      .cases aX:oN a6 with
       |true=>simp_all[u5]|false=>simp_all
      .rename_i cA;split at h
       .rename_i l;cases aX:gC l z with
        |true=>rw[aX]at h;simp[u5]at h;exact⟨_,TV (match oN (.agg l)with|true=>some (kO A s (.box ak 1 (.cb [.agg l])))|false=>none) (λz l=>kO A s (.box ak z (.cb l))) z cA aX,h⟩
        |false=>simp_all
       simp_all
     .rename_i aI;have⟨c,aq,aL⟩:=Ov h;simp[u5]at aL;split
      .simp_all
      .exact⟨_,mI aq,aL⟩
    |false=>
     rw[q]at h;cases aX:Nat.ble (aR+(m+1)) z with
     |true=>rw[aX]at h;have⟨c,aq,aL⟩:=Ov h;simp_all[u5,ah0,an1,mI]|false=>simp_all
   simp_all
  .rename_i s r aR;simp only;split at h
   .rename_i ak z Q u Y;rw[Y];simp only;split at h
    .rename_i a6 a0;have⟨aq,aL⟩:=h;rw[a0,dg.2 aq];simp;split at aL
     .cases aX:oN a6 with
      |true=>simp_all[u5]|false=>simp_all
     .rename_i cA;split at aL
      .rename_i l;cases aX:gC l z with
       |true=>rw[aX]at aL;simp[u5]at aL;exact⟨_,TV (match oN (.agg l)with|true=>some (kO A s (.bF ak 1 (Q.set r [.agg l]) u))|false=>none) (λz l=>kO A s (.bF ak z (Q.set r l) u)) z cA aX,aL⟩
       |false=>simp_all
      simp_all
    .rename_i a6 a0;cases aX:(Nat.ble (aR+(m+1)) z&& !Nat.beq (m+1) z)with
     |true=>
      rw[aX]at h;have⟨aq,⟨aJ,bO,cr⟩⟩:=h;have⟨c,fK,hI⟩:=afQ cr;simp[Xy,BZ,A5,u6,u5]at hI;have aB:(Nat.beq aR 0&&Nat.beq (m+1) z&&Nat.blt r Q.length)=false:=by rw[a0];rfl
      have kR:(Nat.blt r Q.length&&Nat.ble (aR+(m+1)) z&& !Nat.beq (m+1) z)=true:=by simp_all
      rw[aB];rw[kR];subst bO;exact⟨_,mI fK,hI⟩
     |false=>simp_all
    simp_all
   simp_all
  simp_all
 simp_all
def aab{k}{t}(h:RR P t A p v k):∃bE,yS P t ⟨L,E,A⟩ p v=some bE/\k bE:=agd h
def ZL{z k}(h:OB A z v k):∃l,EB A z v=some l/\k l:=by
 unfold OB at h;unfold EB;split at h
 .simp_all
 .rename_i g Q;have⟨⟨D,F⟩,aq⟩:=h;simp only[rL,jJ,Hg];rw[D,dT.2 F];simp_all
 .rename_i s;simp only;split at h
  .rename_i ak cJ Q u Y;rw[Y];simp;cases q:Nat.beq z cJ with
   |true=>rw[q]at h;have⟨D,F⟩:=h;rw[dT.2 D];simp_all|false=>simp_all
  simp_all
 simp_all
def ab8{X}{d e z b}{x}{l}{k}(h:MH X L E A d e z b x l k):∃r,yo X ⟨L,E,A⟩ d e z b x l=some r/\r.2.on (k r.1):=by
 unfold MH at h;unfold yo;split at h
 .rename_i g Q;simp only[rL,wv,jJ,Hg];rcases h with⟨D,F,aq,aL,bO,cr⟩|⟨D,F,aq,aL,bO⟩
  .have fK:=Nb cr;unfold c8.on at fK;simp only[Bn]at fK;rw[show Nat.beq g (2*e+1)=true from dA.2 D,F,aq,show Nat.ble ((Q.length+l.length)*b) sn=true from dT.2 aL];refine⟨_,rfl,?_⟩;simp only;rw[RQ bO];exact fK
  .rw[Bn]at bO;subst aq;have ju:∀(a b:Bool),((a&&gC (fT [] 0) z&&cn e (fq X))&&b)=false:=by grind
   rw[ju];simp only;rw[show Nat.beq (g % 2) 1=true from dA.2 F,show Nat.ble (l.length*b) sn=true from dT.2 aL];simp_all
 .have⟨D,F⟩:=h;rw[Bn]at F;simp only;rw[show Nat.ble (l.length*b) sn=true from dT.2 D];simp_all
 .rename_i s;simp only;split at h
  .rename_i b7 cJ Q Y;rw[Y];simp only;cases q:(Nat.beq e b7&&Nat.beq z cJ)with
   |true=>rw[q]at h;have⟨D,F⟩:=h;rw[aaM]at F;unfold c8.on at F;simp only[Bn]at F;rw[show Nat.ble ((Q.length+l.length)*b) sn=true from dT.2 D];simp_all|false=>simp_all
  .rename_i b7 cJ Q Y;rw[Y];simp only;cases q:(Nat.beq (ln e) b7&&Nat.beq z cJ&& !Nat.beq s d)with
   |true=>
    rw[q]at h;have⟨⟨D,aq⟩,F⟩:=h;rw[Bn]at F;have eP:Nat.beq (ln e) b7=true/\Nat.beq z cJ=true/\(!Nat.beq s d)=true:=by simp_all
    rw[eP.1,eP.2.1,eP.2.2,show Nat.ble ((Q.length+l.length)*b) sn=true from dT.2 D,dg.2 aq];simp_all
   |false=>simp_all
  simp_all
 simp_all
def R5{b:Bool}{d}{k:rz}{r:a2×c8}(h:r.2.on (H9 b d k r.1)):∃eH,Ad b d r=some eH/\eH.2.on (k eH.1):=by
 unfold c8.on H9 at h;unfold Ad;cases b with
 |false=>exact⟨_,rfl,h⟩
 |true=>
  simp only[zd]at h ⊢;have⟨t,D,F⟩:=tL h;simp_all[zb]
def ahP{b:Bool}{v}{k:rz}(h:TX b v L E A k):∃eH,GV b v ⟨L,E,A⟩=some eH/\eH.2.on (k eH.1):=by
 unfold TX at h;unfold GV;cases b with
 |false=>exact⟨_,rfl,h⟩
 |true=>
  simp only at h ⊢;split at h
  .exact R5 (r:=(_,⟨L,E,A⟩)) h
  .rename_i aD;split
   .simp_all
   .exact⟨(v,⟨L,E,A⟩),rfl,h⟩
def UB{k}(h:IK A v k):∃t,oA A v=some t/\k t:=by
 unfold IK at h;split at h
 .exact⟨_,rfl,h⟩
 .rename_i l;have⟨r,D,F⟩:=tL h;refine⟨_,?_,F⟩;show(match g7 (h9 A 3) l with|some l=>some (b9.agg l)|none=>none)=_;rw[D]
 .exact tL h
def FT{r}:∀{l}{i}{k},Aq r a9 A i l k->∃dw,k8 r a9 A i l=some dw/\k dw
 |[],i,k,h=>⟨_,rfl,h⟩
 |v::l,i,k,h=>by
  unfold Aq at h;unfold k8;split at h
  .rename_i s ag;rw[KC]at h;have⟨dw,D,F⟩:=FT h;simp_all[mI]
  .rename_i s ag;rw[KC]at h;have⟨dw,D,F⟩:=FT h;simp_all[mI]
  .rename_i aD kr;have⟨t,D,F⟩:=UB h;have⟨dw,aq,aL⟩:=FT F;split
   .simp_all
   .simp_all
   .exact⟨_,C1 D aq,aL⟩
def F2:∀{l}{i}{k},x7 a9 A i l k->∃ej,rE a9 A i l=some ej/\k ej
 |[],i,k,h=>⟨_,rfl,h⟩
 |s::l,i,k,h=>by
  unfold x7 at h;unfold rE;split at h
  .rename_i ak z r Y;rw[Y];simp[Eg]at h;have⟨ej,D,F⟩:=F2 h;exact⟨_,mI D,F⟩
  .rename_i ak z r Y;rw[Y];have⟨ej,D,F⟩:=F2 h;exact⟨_,mI D,F⟩
  .rename_i ak z r Y;rw[Y];have⟨ej,D,F⟩:=F2 h;exact⟨_,mI D,F⟩
  simp_all
def En:∀{l}{r}{i}{A}{k},xW a9 i l r A k->∃bE,sB a9 i l r A=some bE/\k bE
 |[],[],i,A,k,h=>⟨_,rfl,h⟩|[],_::_,i,A,k,h=>h.elim|_::_,[],i,A,k,h=>h.elim
 |s::l,(j,B)::r,i,A,k,h=>by
  unfold xW at h;unfold sB;split at h
  .rename_i ak z mf e8 cJ aJ a0 Y;rw[a0,Y];simp[xm];cases q:(Nat.beq ak e8&&Nat.beq z cJ)with
   |true=>
    rw[q]at h;simp only[ig]at q;have aP:=dA.1 q.1;have a3:=dA.1 q.2;subst aP a3;cases aJ with
    |bS c=>simp[Eg,u5]at h;exact En h|cb c=>simp[u5]at h;exact En h
   |false=>simp_all
  .rename_i ak z Q e8 cJ gw a0 Y;rw[a0,Y];simp[xm];cases q:(Nat.beq ak e8&&Nat.beq z cJ)with
   |true=>rw[q]at h;simp only[ig]at q;have aP:=dA.1 q.1;have a3:=dA.1 q.2;subst aP a3;have⟨D,F⟩:=h;rw[dA.2 D];simp[u5]at F;exact En F|false=>simp_all
  simp_all
def Qf{X}{g}{dw}{k df:b9->bf->Prop}(h:I5 C X g dw A k)(ar:∀v t,k v t->df v t):(dH C).call X g dw A df:=by
 unfold I5 at h;split at h
 .rename_i f b5 cV;simp[FC,u6]at h;exact⟨f,b5,cV,rfl,h.h.imp ar⟩
 simp_all
end
end Go.Tx
