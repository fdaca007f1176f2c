/- Part of the proof of PrinterLines. -/
import Derived.Test.YtddaefckjmdfoaaGreatDoorX0
set_option linter.all false
namespace Go.Tx
open Go Go.Ev
def I7(e)(k):FB e k=k e:=by cases e<;>rfl
def EL(f):∀(l)(k),wm f l k=k (l.map f)
 |[],k=>rfl
 |e::l,k=>by simp only[wm,I7,EL f l,fA]
def alZ(f)(e)(k):P0 f e k=k (dJ f e):=by cases e<;>simp only[P0,I7,EL,dJ]
def y1(f):∀(l)(k),jK f l k=k (l.map (dJ f))
 |[],k=>rfl
 |e::l,k=>by simp only[jK,alZ,y1 f l,fA]
def NN(f):∀(A)(k),BL f A k=k (fL f A)
 |[],k=>rfl
 |(s,.box el z (.bE l))::r,k=>by simp only[BL,EL,NN f r,fL,gx]
 |(s,.box el z (.cc l))::r,k=>by simp only[BL,NN f r,fL,gx]
 |(s,.arr el z ab u)::r,k=>by simp only[BL,NN f r,fL,gx]
def xW:∀(l)(k),sX l k=k l
 |[],k=>rfl
 |a::l,k=>by simp only[sX,xW l]
def A0{α}:∀(l:List α)(k:List α->Prop),ky l k=k l
 |[],k=>rfl
 |a::l,k=>by simp only[ky,A0 l]
def BA:∀(l)(n)(k),yU l n k=k (i5 l n)
 |[],n,k=>by cases n<;>rfl
 |a::l,0,k=>rfl
 |a::l,n+1,k=>by simp only[yU,BA l n,i5]
def FD:∀(l)(n)(k),AA l n k=k (qP l n)
 |[],n,k=>by cases n<;>rfl
 |a::l,0,k=>rfl
 |a::l,n+1,k=>by simp only[AA,FD l n,qP]
def K6(l):∀(n i)(k),EZ l i n k=k (lW l i n)
 |0,i,k=>rfl
 |n+1,i,k=>by simp only[EZ,FD,K6 l n,lW]
def Aj:∀(l)(n)(v)(k),yf l n v k=k (iT l n v)
 |[],n,v,k=>by cases n<;>rfl
 |a::l,0,v,k=>rfl
 |a::l,n+1,v,k=>by simp only[yf,Aj l n,iT]
def JI:∀(l)(n)(b)(k),Cj l n b k=k (st l n b)
 |[],n,v,k=>by cases n<;>rfl
 |a::l,0,v,k=>rfl
 |a::l,n+1,v,k=>by simp only[Cj,JI l n,st]
def ET{α}:∀(n)(l:List α)(k:List α->Prop),w2 n l k=k (l.take n)
 |0,l,k=>by simp only[w2,List.take_zero]
 |n+1,[],k=>by simp only[w2,List.take_nil]
 |n+1,a::l,k=>by simp only[w2,ET n l,Ro]
def CX{α}:∀(n)(l:List α)(k:List α->Prop),vP n l k=k (l.drop n)
 |0,l,k=>by simp only[vP,List.drop_zero]
 |n+1,[],k=>by simp only[vP,List.drop_nil]
 |n+1,a::l,k=>by simp only[vP,CX n l,List.drop_succ_cons]
def xb{α}:∀(l m:List α)(k:List α->Prop),pT l m k=k (l++m)
 |[],m,k=>rfl
 |a::l,m,k=>by simp only[pT,xb l m,jF]
def Ix:∀(l)(k),zC l k=k (l.map .J)
 |[],k=>rfl
 |a::l,k=>by simp only[zC,Ix l,fA]
def xc:∀(A)(t)(D)(k),ud A t D k=k (kr A t D)
 |[],t,D,k=>rfl
 |(s,bs)::l,t,D,k=>by
  simp only[ud,kr];cases Nat.beq s t with
  |true=>rfl
  |false=>simp only[xc l]
def U4:∀(A)(t)(k),Jy A t k=k (rem A t)
 |[],t,k=>rfl
 |(s,bs)::l,t,k=>by
  simp only[Jy,rem];cases Nat.beq s t with
  |true=>simp only[U4 l]
  |false=>simp only[U4 l]
def zQ:∀(A)(aX)(k),wq A aX k=k (keeps A aX)
 |[],aX,k=>rfl
 |(s,bs)::l,aX,k=>by
  simp only[wq,keeps];cases cr s aX with
  |true=>simp only[zQ l]
  |false=>simp only[zQ l]
def Oa:∀(A)(aX)(k),C0 A aX k=k (jS A aX)
 |[],aX,k=>rfl
 |(s,bs)::l,aX,k=>by
  simp only[C0,jS];cases cr s aX with
  |true=>simp only[Oa l]
  |false=>simp only[Oa l]
def c5.on(S:c5)(k:Ah):Prop:=k S.L S.E S.A
def ab7(f)(L E)(A)(k):Oh f L E A k=((c5.mk L E A).map f).on k:=by simp only[Oh,y1,NN];rfl
def zY(aX)(L E)(A)(k):vE aX L E A k=((c5.mk L E A).ft aX).on k:=by
 cases aX with
 |nil=>rfl
 |cons a aX=>simp only[vE,Oa,zQ,ab7];rfl
def ac5(s)(L E)(A)(k):La s L E A k=((c5.mk L E A).kill s).on k:=by simp only[La,U4,ab7];rfl
def Xs(d)(D)(k):ME d D k=k (gx (et d) D):=by
 cases D with
 |box el z aF=>cases aF<;>simp only[ME,EL,gx]
 |arr=>rfl
def A2(s)(D)(L E)(A)(k):w3 s D L E A k=((c5.mk L E A).put s D).on k:=by simp only[w3,ac5];rfl
def aai{X}{t}{k}(h:OH X t k):k (i7 X t):=by
 have dC:∀{t:b2},D7 X t k->k (i7 X t):=by rintro t (⟨B,F⟩|⟨B,F⟩)<;>(unfold i7;rw[B];exact F)
 cases t with
 |undef=>exact h
 |bool b=>exact h
 |int c n=>exact h
 |str s=>exact h
 |nil c=>exact h
 |aQ g r=>exact dC h
 |gc g r D=>exact dC h
 |fn f x y=>exact dC h
 |agg l=>exact dC h
 |eJ l=>exact dC h
 |op g W=>exact dC h
def Xp{X}:∀{l}{k},Ji X l k->k (l.map (i7 X))
 |[],k,h=>h
 |t::l,k,h=>by have B:=aai h;exact Xp (l:=l) (k:=λl=>k (i7 X t::l)) B
def adN{X}{e}{k}(h:Lw X e k):k (ip X e):=by
 cases e with
 |J t=>exact aai h
 |_=>exact h
def GB{X}:∀{l}{k},x7 X l k->k (l.map (ip X))
 |[],k,h=>h
 |t::l,k,h=>by have B:=adN h;exact GB (l:=l) (k:=λl=>k (ip X t::l)) B
def aoG{X}{e}{k}(h:Un X e k):k (dJ (ip X) e):=by
 cases e with
 |J t=>exact adN (e:=.J t) (k:=k) h
 |agg l=>exact GB (l:=l) (k:=λl=>k (.agg l)) h
 |fn f x y=>have B:=GB (l:=x) (k:=λl=>x7 X y λbJ=>k (.fn f l bJ)) h;exact GB (l:=y) (k:=λbJ=>k (.fn f (x.map (ip X)) bJ)) B
 |_=>exact h
def TJ{X}:∀{l}{k},Fb X l k->k (l.map (dJ (ip X)))
 |[],k,h=>h
 |t::l,k,h=>by have B:=aoG h;exact TJ (l:=l) (k:=λl=>k (dJ (ip X) t::l)) B
def abY{X}:∀{l:di},dw X l=false->l.map (i7 X)=l
 |[],_=>rfl
 |t::l,h=>by simp only[dw] at h;have⟨B,F⟩:=tk h;rw[fA,abY F,i7,B]
def QY{X}:∀{l:gF},hy X l=false->l.map (λr=>r.map (i7 X))=l
 |[],_=>rfl
 |t::l,h=>by simp only[hy] at h;have⟨B,F⟩:=tk h;rw[fA,QY F,abY B]
def acq{X}{D}{k}(h:P6 X D k):k (ob X D):=by
 cases D with
 |box el z aF=>cases aF with
  |cc l=>exact Xp h
  |bE l=>exact GB h
 |arr el z ab u=>have⟨B,F⟩:=h;show k (.arr el z (ab.map λr=>r.map (i7 X)) u);rw[QY B];exact F
def abZ{X}:∀{A}{k},xf X A k->k (nm X A)
 |[],k,h=>h
 |(s,D)::l,k,h=>by have B:=acq h;exact abZ (A:=l) (k:=λr=>k ((s,ob X D)::r)) B
def N7{X}{L E}{A}{k}(h:jt X L E A k):((c5.mk L E A).bz X).on k:=by
 cases X with
 |nil=>exact h
 |cons a X=>have B:=TJ h;have F:=TJ B;exact abZ F
variable{bc:aO}{bg a b f h n:Nat}{i N v x:a1}{k:a1->Prop}{l:di}{op:BinOp}{parts:List (Prod Nat a1)}
def jB{b}{x y}(B:b=true->x)(cb:b=false->y):lH b x y:=by cases b with|true=>exact .yes rfl (B rfl)|false=>exact .no rfl (cb rfl)
def alw{E A body}(bv:Nat->bG->be->Prop)(cb:∃m,bv m E A)(ak:∀m ba E A,bv m E A->(∀iL d9 bw,iL<m->bv iL d9 bw->ba d9 bw)->body ba E A):∃n,lQ body n E A:=by
 have:∀n m E A,m<n->bv m E A->lQ body n E A:=by
  intro n;induction n with
  |zero=>intro m E A h;omega
  |succ n bB=>intro m E A h aH;exact ak m _ E A aH λiL d9 bw b5 xM=>bB iL d9 bw Y xM
 have⟨m,cb⟩:=cb;exact⟨m+1,this _ m E A Y cb⟩
def bj.imp{C}{X}{f}{args}{A}{bZ oS}(h:bj C X f args A bZ)(ax:∀v A,bZ v A->oS v A):bj C X f args A oS:=by intro U Z H eE aW aD;have⟨r,bw,v,aq,bh,bV,B,F⟩:=h U Z H eE aW aD;exact⟨r,bw,v,aq,bh,bV,ax _ _ B,F⟩
def cY:Nat->Nat->Option qY:=λ_ _=>some ⟨[],[],[],[]⟩
def aoz(cj)(k):ac6 cj k=k (cq cj):=by cases cj<;>rfl
def P7(cj)(k):H2 cj k=k (cq cj) (cp (cq cj)) (dL (cq cj)):=by cases cj<;>rfl
def aca:∀(l n),ui.CS l n=cL l n
 |0,n=>rfl
 |l+1,n=>by show UInt8.ofNat (n % 256)::ui.CS l (n / 256)=UInt8.ofNat (n % 256)::cL l (n / 256);rw[aca l]
def Jr(cj):dL (cq cj)<=cp (cq cj):=by cases cj<;>decide
def uk{α}{D:Option α}{k}(h:rL D k):∃v,D=some v/\k v:=by
 cases D with
 |none=>exact h.elim
 |some v=>exact⟨v,rfl,h⟩
def aeC(n)(k):∀l,MG n k l=k n
 |[]=>rfl
 |a::l=>by
  unfold MG;cases q:Nat.beq a n with
  |true=>rw[cF.1 q]
  |false=>exact aeC n k l
def Rz(n)(k):MN n k=k n:=aeC n k lits
def aiC(b)(k):WY b k=k b:=by cases b<;>rfl
def aas(e)(k):MT e k=k e:=by
 unfold MT;split
 .rw[Rz,Rz]
 .rw[A0]
 .rw[aiC]
 .rw[I7]
def MK:∀(l:List a1)(k:List a1->Prop),FT l k=k l
 |[],k=>rfl
 |e::l,k=>by simp only[FT,aas,MK l]
def aql(e)(k):M5 e k=k e:=by
 unfold M5;split
 .rw[MK]
 .rw[aas]
def aoM{v:Value}{k:a1->Prop}(h:L2 v k):k (match mr v with|some v=>BO v|none=>.J .undef):=by
 have DQ:(match mr v with|some v=>M5 (BO v) k|none=>k (.J .undef))->k (match mr v with|some v=>BO v|none=>.J .undef):=by
  intro h;cases au:mr v with
  |none=>rw[au] at h;exact h
  |some w=>rw[au] at h;simp only[aql] at h;exact h
 cases v with
 |int cj n=>cases n with
  |ofNat m=>
   simp only[L2] at h;cases hm:Nat.blt m (dL (cq cj)) with
   |false=>rw[hm] at h;exact h.elim
   |true=>
    rw[hm] at h;simp only[aoz,Rz] at h;have aV:=cZ.1 hm;have ad:p1 (cq cj) (Int.ofNat m)=m:=by have:=Jr cj;unfold p1;show((m:Int) % (cp (cq cj):Int)).toNat=m;rw[uP Y Y];rfl
    have ak:dm (cq cj) m=(m:Int):=by unfold dm;rw[b3 aV]
    have:mr (.int cj (.ofNat m))=some (.int (cq cj) m):=by show(if dm (cq cj) (p1 (cq cj) (Int.ofNat m))=Int.ofNat m then some (bl.int (cq cj) (p1 (cq cj) (Int.ofNat m))) else none)=_;rw[ad,ak,b3 (by rfl)]
    rw[this];exact h
  |negSucc m=>exact DQ h
 |bool b=>exact h
 |string s=>
  simp only[L2] at h;cases hm:Nat.ble s.data.toList.length 1152921504606846976 with
  |false=>rw[hm] at h;exact h.elim
  |true=>
   rw[hm] at h;have:mr (.string s)=some (.str s.data.toList.length (wI s.data.toList)):=by show(match Nat.ble s.data.toList.length 1152921504606846976 with|true=>some (bl.str s.data.toList.length (wI s.data.toList))|false=>none)=_;rw[hm]
   rw[this];have h:k (.J (.str s.data.toList)):=by
    simp only at h;cases q:Nat.ble s.data.toList.length 40 with
    |true=>rw[q] at h;simp only[A0] at h;exact h
    |false=>rw[q] at h;exact h
   show k (.J (.str (ui.CS s.data.toList.length (wI s.data.toList))));rw[aca,Ux];exact h
 |_=>exact DQ h
section
variable{P:dy}{es:List Nat}{ae:List (Option Nat)}{L E:List a1}{A:be}
def iu{x}(h:gW es ae L E x k):k (dN es ae ⟨L,E,A⟩ x):=by
 cases x with
 |tmp t=>
  unfold gW at h;unfold dN;simp only at h ⊢;cases hp:jp t ae with
  |some i=>rw[hp] at h;simp only[BA] at h;exact h
  |none=>
   rw[hp] at h;simp only at h ⊢;cases aH:i2 t es with
   |some i=>rw[aH] at h;simp only[BA] at h;exact h
   |none=>rw[aH] at h;exact h
 |const v=>exact aoM h
 |func f=>exact h
 |global g=>exact h
def ye:∀{l}{k:List a1->Prop},xt es ae L E l k->k (l.map (dN es ae ⟨L,E,A⟩))
 |[],k,h=>h
 |x::l,k,h=>by have B:=iu (A:=A) h;exact ye (l:=l) (k:=λl=>k (dN es ae ⟨L,E,A⟩ x::l)) B
def Hf:∀{l}{k},DV es ae L E l k->k (rz es ae ⟨L,E,A⟩ l)
 |[],k,h=>h
 |(i,x)::l,k,h=>by have B:=iu (A:=A) h;exact Hf (l:=l) (k:=λl=>k ((i,dN es ae ⟨L,E,A⟩ x)::l)) B
def BG{c k}(h:vB c v k):∃n,v=.J (.int c n)/\k n:=by
 cases v with
 |J t=>cases t with
  |int fo n=>
   simp only[vB] at h;cases aw:Nat.beq fo c with
   |false=>rw[aw] at h;exact h.elim
   |true=>rw[aw] at h;rw[cF.1 aw];exact⟨n,rfl,h⟩
  |_=>exact h.elim
 |_=>exact h.elim
def Gf(c n):ro c (.J (.int c n))=some n:=by show(match Nat.beq c c with|true=>some n|false=>none)=some n;rw[Nat.beq_refl]
def Ws(gn:bg=2*h)(aD:a<h)(av:b<h):mb h bg a b=Nat.blt a b:=by subst gn;unfold mb;rw[show Nat.mod (Nat.add h a) (2*h)=h+a from mZ (by show h+a<_;omega),show Nat.mod (Nat.add h b) (2*h)=h+b from mZ (by show h+b<_;omega)];rw[Bool.eq_iff_iff,cZ,cZ];omega
def Vk(gn:bg=2*h)(aD:a<h)(av:b<h):jJ h bg a b=Nat.ble a b:=by subst gn;unfold jJ;rw[show Nat.mod (Nat.add h a) (2*h)=h+a from mZ (by show h+a<_;omega),show Nat.mod (Nat.add h b) (2*h)=h+b from mZ (by show h+b<_;omega)];rw[Bool.eq_iff_iff,dn,dn];omega
def Nz(cj)(h:Nat.beq (dL (cq cj)) (cp (cq cj))=false):cp (cq cj)=2*dL (cq cj):=by revert h;cases cj<;>decide
def afW{cj}(h:BZ op (cq cj) (cp (cq cj)) (dL (cq cj)) a b k):∃t,yi op (cq cj) a b=some t/\k (.J t):=by
 have num:∀{N:Prop}{x y:Nat}{k:Nat->Prop},qk N x y k->(N->y=x)->k y:=by
  rintro N x y k (⟨B,F⟩|F) hp
  .rw[hp B];exact F
  .exact F
 have lt:∀{N:Prop}{x y:Bool}{k:Bool->Prop},l8 N x y k->(N->y=x)->k y:=by
  rintro N x y k (⟨B,F⟩|F) hp
  .rw[hp B];exact F
  .exact F
 have hle:=Jr cj;cases op with
 |add=>exact⟨_,rfl,num h λhp=>mZ hp⟩
 |sub=>refine⟨_,rfl,num h λhp=>?_⟩;unfold kS;show(cp (cq cj)+a - b) % cp (cq cj)=a - b;rw[show cp (cq cj)+a - b=(a - b)+cp (cq cj) by omega,Nat.add_mod_right,mZ Y]
 |mul=>exact⟨_,rfl,num h λhp=>mZ hp⟩
 |quo=>obtain⟨⟨B,F,ah⟩,aE⟩:=h;refine⟨_,?_,aE⟩;show(match Nat.blt a (dL (cq cj))&&Nat.blt b (dL (cq cj))&& !Nat.beq b 0 with|true=>_|false=>_)=_;rw[cZ.2 B,cZ.2 F,show Nat.beq b 0=false from tO Y];rfl
 |rem=>obtain⟨⟨B,F,ah⟩,aE⟩:=h;refine⟨_,?_,aE⟩;show(match Nat.blt a (dL (cq cj))&&Nat.blt b (dL (cq cj))&& !Nat.beq b 0 with|true=>_|false=>_)=_;rw[cZ.2 B,cZ.2 F,show Nat.beq b 0=false from tO Y];rfl
 |and=>exact⟨_,rfl,h⟩
 |or=>exact⟨_,rfl,h⟩
 |xor=>exact⟨_,rfl,h⟩
 |eql=>exact⟨_,rfl,h⟩
 |neq=>exact⟨_,rfl,h⟩
 |lss=>
  simp only[BZ,yi] at h ⊢;cases ax:Nat.beq (dL (cq cj)) (cp (cq cj)) with
  |true=>rw[ax] at h;exact⟨_,rfl,h⟩
  |false=>rw[ax] at h;exact⟨_,rfl,lt h λhp=>Ws (Nz cj ax) hp.1 hp.2⟩
 |gtr=>
  simp only[BZ,yi] at h ⊢;cases ax:Nat.beq (dL (cq cj)) (cp (cq cj)) with
  |true=>rw[ax] at h;exact⟨_,rfl,h⟩
  |false=>rw[ax] at h;exact⟨_,rfl,lt h λhp=>Ws (Nz cj ax) hp.1 hp.2⟩
 |leq=>
  simp only[BZ,yi] at h ⊢;cases ax:Nat.beq (dL (cq cj)) (cp (cq cj)) with
  |true=>rw[ax] at h;exact⟨_,rfl,h⟩
  |false=>rw[ax] at h;exact⟨_,rfl,lt h λhp=>Vk (Nz cj ax) hp.1 hp.2⟩
 |geq=>
  simp only[BZ,yi] at h ⊢;cases ax:Nat.beq (dL (cq cj)) (cp (cq cj)) with
  |true=>rw[ax] at h;exact⟨_,rfl,h⟩
  |false=>rw[ax] at h;exact⟨_,rfl,lt h λhp=>Vk (Nz cj ax) hp.1 hp.2⟩
 |_=>exact h.elim
def afm{a b}(h:Yx op a b k):∃t,Mv op a b=some t/\k (.J t):=by
 cases op with
 |add=>obtain⟨B,F⟩:=h;refine⟨_,?_,F⟩;show(match Nat.ble (a.length+b.length) OB with|true=>_|false=>_)=_;rw[show Nat.ble (a.length+b.length) OB=true from dn.2 B]
 |eql=>exact⟨_,rfl,h⟩
 |neq=>exact⟨_,rfl,h⟩
 |lss=>exact⟨_,rfl,h⟩
 |gtr=>exact⟨_,rfl,h⟩
 |leq=>exact⟨_,rfl,h⟩
 |geq=>exact⟨_,rfl,h⟩
 |_=>exact h.elim
def agZ{a b}(h:ab0 op a b k):∃t,Nq op a b=some t/\k (.J t):=by
 cases op with
 |eql=>exact⟨_,rfl,h⟩
 |neq=>exact⟨_,rfl,h⟩
 |_=>exact h.elim
def nw{α th}{a:Option α}{x}{f:α->Option th}(h:a=some x):cw a f=f x:=by rw[h];rfl
def Cn{α gd th}{a:Option α}{b:Option gd}{x}{y}{f:α->gd->Option th}(h:a=some x)(b5:b=some y):c7 a b f=f x y:=by rw[h,b5];rfl
def ahD{op}{t}{x y}{kF kw}{k}(h:PX P A op t x y kF kw k):∃e,vC P A op t x y kF kw=some e/\k e:=by
 unfold PX at h;split at h
 .rename_i cj hu;have oY:∀DM,(DM≠.shl)->(DM≠.shr)->(H2 cj λc bg aI=>vB c kF λa=>vB c kw λb=>BZ DM c bg aI a b k)->∃e,vC P A DM t x y kF kw=some e/\k e:=by intro DM dl cB b5;clear h;rw[P7] at b5;obtain⟨a,aZ,ah⟩:=BG b5;obtain⟨b,aN,aE⟩:=BG ah;obtain⟨a6,B,F⟩:=afW aE;subst aZ aN;refine⟨_,?_,F⟩;unfold vC;rw[hu];cases DM<;>first|(exact absurd rfl dl)|(exact absurd rfl cB)|(simp only[Gf,c7,B,zU,cw])
  cases op<;>first|exact uk h|exact oY _ (by intro e;cases e) (by intro e;cases e) h
 .rename_i hu;split at h
  .obtain⟨a6,B,F⟩:=afm h;refine⟨_,?_,F⟩;unfold vC;rw[hu];simp only[uM,QA,c7,TO,Jp,UP,T1,SR,Vm,Se,RO,Rv,O7,Nf,D9,fZ,uI,zt,B,zU,cw]
  .exact h.elim
 .rename_i hu;split at h
  .obtain⟨a6,B,F⟩:=agZ h;refine⟨_,?_,F⟩;unfold vC;rw[hu];simp only[nd,Qp,c7,Uz,Jp,UP,T1,SR,Vm,Se,RO,Rv,O7,Nf,D9,fZ,uI,zt,B,zU,cw]
  .exact h.elim
 .exact uk h
def akm{op}{x}{k}(h:UX op x k):∃e,Il op x=some e/\k e:=by
 cases op with
 |not=>
  unfold UX at h;simp only at h;split at h
  .exact⟨_,rfl,h⟩
  .exact h.elim
 |_=>exact uk h
def ak3{s d}(h:QL P s d x k):∃e,Du P s d x=some e/\k e:=by
 unfold QL at h;split at h
 .rename_i cj Sv B F;rw[P7,P7] at h;obtain⟨n,aZ,ah⟩:=BG h;subst aZ;clear h;unfold Du;rw[B,F];simp only[Gf,cw];cases ax:Nat.ble (cp (cq Sv)) (cp (cq cj)) with
  |true=>
   simp only[ax] at ah;rcases ah with⟨ah,aE⟩|aE
   .exact⟨_,rfl,by rw[mZ ah];exact aE⟩
   .exact⟨_,rfl,aE⟩
  |false=>simp only[ax] at ah;obtain⟨ah,aE⟩:=ah;simp only[cZ.2 ah];exact⟨_,rfl,aE⟩
 .rename_i B F;split at h
  .unfold Du;rw[B,F];exact⟨_,rfl,h⟩
  .exact h.elim
 .exact h.elim
def O0{k}(h:Ds v b k):∃n,idx v b=some n/\k n/\n<b:=by
 cases v with
 |J t=>cases t with
  |int c n=>
   simp only[Ds] at h;cases aw:Nat.ble 3 c with
   |false=>rw[aw] at h;exact h.elim
   |true=>rw[aw] at h;obtain⟨B,F⟩:=h;refine⟨n,?_,F,B⟩;show(match Nat.ble 3 c&&Nat.blt n b with|true=>some n|false=>none)=some n;rw[aw,cZ.2 B];rfl
  |_=>exact h.elim
 |_=>exact h.elim
def Wa(h:fQ l n):lW (qF (.agg l)) 0 n=l:=by have:=zy h;subst this;exact LG l
def adF(aB:n=1->False)(K:fQ l n):ns A (.J (.agg l)) n=some (l.map .J):=by
 have e:=Wa K
 match n,aB with
 |0,_=>show(match fQ l 0 with|true=>some ((lW (qF (.agg l)) 0 0).map a1.J)|false=>none)=_;rw[K,e]
 |1,aB=>exact(aB rfl).elim
 |n+2,_=>show(match fQ l (n+2) with|true=>some ((lW (qF (.agg l)) 0 (n+2)).map a1.J)|false=>none)=_;rw[K,e]
def K7{k}(h:Gg A v n k):∃c,ns A v n=some c/\k c:=by
 unfold Gg at h;split at h
 .split at h
  .rename_i l;cases K:fQ l 1 with
   |true=>rw[K] at h;exact⟨_,by unfold ns;simp only;rw[K],h⟩
   |false=>rw[K] at h;exact h.elim
  .rename_i t;cases K:pJ t with
   |true=>rw[K] at h;exact⟨_,by unfold ns;simp only;rw[K],h⟩
   |false=>rw[K] at h;exact h.elim
  .exact⟨_,rfl,h⟩
  .rename_i s aT;cases K:tc A s with
   |true=>rw[K] at h;exact⟨_,by unfold ns;simp only;rw[K],h⟩
   |false=>rw[K] at h;exact h.elim
  .rename_i s;cases K:nS A s with
   |true=>rw[K] at h;exact⟨_,by unfold ns;simp only;rw[K],h⟩
   |false=>rw[K] at h;exact h.elim
  .exact h.elim
 .rename_i aB;split at h
  .rename_i l;cases K:fQ l n with
   |true=>rw[K] at h;exact⟨_,by unfold ns;simp only;rw[K],h⟩
   |false=>rw[K] at h;exact h.elim
  .rename_i l;cases K:fQ l n with
   |false=>rw[K] at h;exact h.elim
   |true=>rw[K] at h;simp only[Ix] at h;exact⟨_,adF aB K,h⟩
  .exact h.elim
def QM(a b)(k):G8 a b k=k (a+b):=by
 cases a with
 |zero=>simp only[G8,jq]
 |succ a=>rfl
end
section
variable{P:dy}{es:List Nat}{ae:List (Option Nat)}{L E:List a1}{A:be}
def WW{aT l}{t}(h:Of P t aT l k):∃e,A7 P t aT l=some e/\k e:=by
 unfold Of at h;unfold A7;split at h
 .rename_i n B F;rw[B,F];simp only;cases ax:Nat.ble (aT+n) l.length with
  |true=>rw[ax] at h;simp only[CX,ET] at h;exact⟨_,rfl,h⟩
  |false=>rw[ax] at h;exact h.elim
 .rename_i n B F;rw[B,F];simp only;cases ax:Nat.blt aT l.length with
  |true=>rw[ax] at h;simp only[BA] at h;exact⟨_,rfl,h⟩
  |false=>rw[ax] at h;exact h.elim
 .exact h.elim
def akh{t}(h:RZ P t f x k):∃e,Kt P t f x=some e/\k e:=by
 unfold RZ at h;unfold Kt;split at h
 .rename_i cz B;rw[B];simp only;split at h
  .rename_i fd F;rw[F];simp only;split at h
   .exact WW h
   .rename_i l;split at h
    .rename_i n ah;rw[ah];simp only;cases K:fQ l n with
     |false=>rw[K] at h;exact h.elim
     |true=>rw[K] at h;simp only[Ix] at h;show ∃e,(match fQ l n with|true=>A7 P fd.type fd.offset ((lW (qF (.agg l)) 0 n).map .J)|false=>none)=_/\_;rw[K,Wa K];exact WW h
    .exact h.elim
   .exact h.elim
  .exact h.elim
 .exact h.elim
def aow{t}(h:TU P A t f x k):∃e,Gy P A t f x=some e/\k e:=by
 unfold TU at h;unfold Gy;split at h
 .rename_i cz B;rw[B];simp only;split at h
  .rename_i _ _ jZ D _ _ _ _ F;rw[F];simp only;split at h
   .rename_i m ah;rw[ah];split at h
    .rename_i s aT;simp only;cases av:tc A s with
     |true=>rw[av] at h;simp only[QM] at h;exact⟨_,rfl,h⟩
     |false=>rw[av] at h;exact h.elim
    .rename_i s r aT;simp only;cases av:nS A s with
     |true=>rw[av] at h;simp only[QM] at h;exact⟨_,rfl,h⟩
     |false=>rw[av] at h;exact h.elim
    .simp only[QM] at h;exact⟨_,rfl,h⟩
    .exact h.elim
   .exact h.elim
  .exact h.elim
 .exact h.elim
def ae3{t}(h:P9 P t x i k):∃e,Iv P t x i=some e/\k e:=by
 unfold P9 at h;unfold Iv;split at h
 .rename_i B;rw[B];simp only;split at h
  .rename_i s;obtain⟨n,F,⟨b,ah,aE⟩,_⟩:=O0 h;refine⟨_,?_,aE⟩;show cw (idx i s.length) (λM=>match s[M]? with|some b=>some (a1.J (.int 4 b.toNat))|none=>none)=_;rw[nw F];simp only[ah]
  .exact h.elim
 .exact h.elim
def agf{t}(h:Tp P t A x i k):∃e,IG P t A x i=some e/\k e:=by
 unfold Tp at h;unfold IG;split at h
 .rename_i e B;rw[B];simp only;split at h
  .rename_i m F;rw[F];split at h
   .rename_i g ab;obtain⟨n,ah,⟨r,aE,bt⟩,_⟩:=O0 h;cases K:fQ r (m+1) with
    |false=>rw[K] at bt;exact bt.elim
    |true=>rw[K] at bt;refine⟨_,?_,bt⟩;show cw (idx i ab.length) (λM=>match fQ (ib ab M) (m+1) with|true=>some (a1.J (.gc (4*(g / 2)+1) (ib ab M) 0))|false=>none)=_;rw[nw ah,aE,K]
   .rename_i s;simp only;split at h
    .rename_i el z ab u K;rw[K];simp only;cases bO:Nat.beq z (m+1) with
     |false=>rw[bO] at h;exact h.elim
     |true=>rw[bO] at h;obtain⟨n,ah,aE,_⟩:=O0 h;exact⟨_,nw ah,aE⟩
    .exact h.elim
   .exact h.elim
  .exact h.elim
 .exact h.elim
def LF{d x k}(h:HB es ae L E d x k):∃n,uf es ae ⟨L,E,A⟩ d x=some n/\k n:=by
 cases x with
 |none=>exact⟨_,rfl,h⟩
 |some x=>have B:=iu (A:=A) h;obtain⟨n,F,ah,_⟩:=O0 B;exact⟨n,F,ah⟩
def lZ(i):Nat.blt i i=false:=by
 cases q:Nat.blt i i with
 |false=>rfl
 |true=>exact absurd (cZ.1 q) (EK i)
def aoA{g8 aH}{t}(h:Qq P es ae L E t x g8 aH k):∃e,Ho P t x (uf es ae ⟨L,E,A⟩ 0 g8) (λd=>uf es ae ⟨L,E,A⟩ d aH)=some e/\k e:=by
 unfold Qq at h;unfold Ho;split at h
 .rename_i B;rw[B];simp only;split at h
  .rename_i s;obtain⟨i,F,ah⟩:=LF (A:=A) h;obtain⟨M,aE,⟨bt,b1⟩,ep⟩:=LF (A:=A) ah;refine⟨_,?_,ep⟩;show c7 (uf es ae ⟨L,E,A⟩ 0 g8) (uf es ae ⟨L,E,A⟩ s.length aH) (λi M=>match Nat.ble M s.length&&Nat.ble i M with|true=>some (a1.J (.str ((s.drop i).take (M - i))))|false=>none)=_;rw[Cn F aE,dn.2 bt,dn.2 b1];rfl
  .exact h.elim
 .rename_i e B;rw[B];simp only;split at h
  .rename_i g ab;simp only[rv,jl,wn];split at h
   .rename_i m F;rw[F];obtain⟨r,ah,aE⟩:=h;cases K:fQ r (m+1) with
    |false=>rw[K] at aE;exact aE.elim
    |true=>
     rw[K] at aE;obtain⟨i,bt,b1⟩:=LF (A:=A) aE;obtain⟨M,ep,fm⟩:=LF (A:=A) b1;have dC:∀e,(match Nat.ble M ab.length&&Nat.ble i M with
      |true=>match Nat.blt i M with
       |true=>some (a1.J (.aQ (2*(g / 2)) ((ab.drop i).take (M - i))))
       |false=>match Nat.beq i 0 with
        |true=>some (.J (.aQ 0 []))
        |false=>some (.J .undef)
      |false=>none)=some e->(match fQ (ib ab 0) (m+1) with
     |true=>c7 (uf es ae ⟨L,E,A⟩ 0 g8) (uf es ae ⟨L,E,A⟩ ab.length aH) λi M=>match Nat.ble M ab.length&&Nat.ble i M with
      |true=>match Nat.blt i M with
       |true=>some (a1.J (.aQ (2*(g / 2)) ((ab.drop i).take (M - i))))
       |false=>match Nat.beq i 0 with
        |true=>some (.J (.aQ 0 []))
        |false=>some (.J .undef)
      |false=>none
     |false=>none)=some e:=by intro e ar;rw[ah,K,Cn bt ep];exact ar
     rcases fm with⟨g1,g2,g3⟩|⟨g1,g2,g3⟩|⟨Bf,g1,g2,g3⟩
     .exact⟨_,dC _ (by rw[dn.2 g2,dn.2 (Nat.le_of_lt g1),cZ.2 g1];rfl),g3⟩
     .subst g1 g2;exact⟨_,dC _ (by rw[show Nat.ble 0 ab.length=true from dn.2 (mz _)];rfl),g3⟩
     .subst g1;exact⟨_,dC _ (by rw[dn.2 g2,dn.2 (ez i),show Nat.blt i i=false from lZ i,tO (Y:¬i=0)];rfl),g3⟩
   .exact h.elim
  .exact h.elim
 .exact h.elim
def Tw:∀{cz}{i}{z:List a1}{k:List a1->Prop},H6 P A parts i cz z k->∃l,uh P A parts i cz z=some l/\k l
 |[],i,[],k,h=>⟨_,rfl,h⟩
 |[],i,_::_,k,h=>h.elim
 |fd::cz,i,z,k,h=>by
  unfold H6 at h;unfold uh;split at h
  .rename_i s B;rw[B];simp only;split at h
   .rename_i g F ah;obtain⟨c,aE,bt⟩:=K7 h;simp only[CX] at bt;obtain⟨q,b1,ep⟩:=Tw bt;rw[xb] at ep;rw[F,ah];exact⟨_,Cn aE b1,ep⟩
   .rename_i F ah;simp only[CX,ET] at h;obtain⟨q,b1,ep⟩:=Tw h;rw[xb] at ep;rw[F,ah];exact⟨_,nw b1,ep⟩
   .exact h.elim
  .exact h.elim
def ame{t}(h:QC P A t parts k):∃e,HA P A t parts=some e/\k e:=by
 unfold QC at h;unfold HA;split at h
 .rename_i cz B;rw[B];simp only;split at h
  .rename_i n l F ah;rw[F,ah];simp only[MK] at h ⊢;obtain⟨q,b1,ep⟩:=Tw h;exact⟨_,nw b1,ep⟩
  .exact h.elim
 .exact h.elim
def agL{t}(h:UA P t A x k):∃e,Im P t A x=some e/\k e:=by
 unfold UA at h;unfold Im;split at h
 .rename_i B;rw[B];split at h
  .exact⟨_,rfl,h⟩
  .exact h.elim
 .rename_i B;rw[B];split at h
  .exact⟨_,rfl,h⟩
  .exact⟨_,rfl,h⟩
  .rename_i s;split at h
   .rename_i K;simp only;rw[K];exact⟨_,rfl,h⟩
   .exact h.elim
  .exact h.elim
 .exact h.elim
def ad4(aD:a<9223372036854775808)(av:b<9223372036854775808):nZ a b=Nat.blt a b:=by unfold nZ;rw[show Nat.mod (Nat.add a 9223372036854775808) 18446744073709551616=a+9223372036854775808 from mZ (by show a+9223372036854775808<_;omega),show Nat.mod (Nat.add b 9223372036854775808) 18446744073709551616=b+9223372036854775808 from mZ (by show b+9223372036854775808<_;omega)];rw[Bool.eq_iff_iff,cZ,cZ];omega
def ani{bE : Bool}{a b : Nat}(aD : a < 9223372036854775808)(av : b < 9223372036854775808) : IR bE a b = (match bE with | true => max a b | false => min a b) := by
  cases bE with
  | true =>
    show Gl (nZ a b) b a = max a b
    rw [ad4 aD av]
    cases q : Nat.blt a b with
    | true => have := cZ.1 q; show b = _; omega
    | false => have : ¬ a < b := λh => by rw [cZ.2 h] at q; cases q
               show a = _; omega
  | false =>
    show Gl (nZ b a) b a = min a b
    rw [ad4 av aD]
    cases q : Nat.blt b a with
    | true => have := cZ.1 q; show b = _; omega
    | false => have : ¬ b < a := λh => by rw [cZ.2 h] at q; cases q
               show a = _; omega
def UL{bE}:∀{l:List a1}{k},KQ bE l k->∃n,At bE l=some n/\k n
 |[],k,h=>h.elim
 |[x],k,h=>by obtain⟨n,e,B⟩:=BG h;subst e;exact⟨n,Gf 3 n,B⟩
 |x::y::l,k,h=>by
  obtain⟨a,e,B⟩:=BG h;subst e;obtain⟨b,F,ah⟩:=UL B;refine⟨_,Cn (Gf 3 a) F,?_⟩;rcases ah with⟨aE,bt⟩|bt
  .rw[ani aE.1 aE.2];exact bt
  .exact bt
def anF(q:Bool)(a b:a1):HW (.J (.bool q)) a b=(match nd a,nd b with
 |some x,some y=>some (.J (.bool (match q with|true=>x|false=>y)))
 |_,_=>match q with
  |true=>some a
  |false=>some b):=rfl
def aiR{c a b}(h:Sz c a b k):∃e,HW c a b=some e/\k e:=by
 unfold Sz at h;split at h
 .rename_i q;rw[anF];split at h
  .rcases h with⟨ax,h⟩|⟨ax,h⟩<;>subst ax<;>exact⟨_,rfl,h⟩
  .cases q with
   |true=>
    simp only at h;split at h
    .exact h.elim
    .rename_i aB;rcases aD:nd a with _|x<;>rcases av:nd b with _|y<;>first|exact⟨_,rfl,h⟩|exact(aB _ _ aD av).elim
   |false=>
    simp only at h;split at h
    .exact h.elim
    .rename_i aB;rcases aD:nd a with _|x<;>rcases av:nd b with _|y<;>first|exact⟨_,rfl,h⟩|exact(aB _ _ aD av).elim
 .exact h.elim
def af4{l:List b2}{i:Nat}:Kc (.J (.eJ l)) i=match Nat.blt i l.length with|true=>some (.J (qP l i))|false=>none:=rfl
def aaV{op}(h:MB P es ae L E A op k):∃e,u5 P es ae ⟨L,E,A⟩ op=some e/\k e:=by
 unfold MB at h;split at h
 .exact⟨_,rfl,iu h⟩
 .exact⟨_,rfl,iu h⟩
 .exact aiR (iu (A:=A) (iu (A:=A) (iu (A:=A) h)))
 .exact ame (Hf (A:=A) h)
 .have B:=iu (A:=A) h;rename_i x;cases q:Iz A (dN es ae ⟨L,E,A⟩ x) with
  |true=>rw[q] at B;exact⟨_,by unfold u5;simp only;rw[q],B⟩
  |false=>rw[q] at B;exact B.elim
 .exact ahD (iu (A:=A) (iu (A:=A) h))
 .exact akm (iu (A:=A) h)
 .exact ak3 (iu (A:=A) h)
 .rename_i f bY bJ;have B:=ye (A:=A) (ye (A:=A) h);rw[HF,HF] at B;cases q:(bY.toList.all (atom ∘ dN es ae ⟨L,E,A⟩)&&bJ.toList.all (atom ∘ dN es ae ⟨L,E,A⟩)) with
  |true=>rw[q] at B;refine⟨_,?_,B⟩;show(match bY.toList.all (atom ∘ dN es ae ⟨L,E,A⟩)&&bJ.toList.all (atom ∘ dN es ae ⟨L,E,A⟩) with|true=>_|false=>_)=_;rw[q]
  |false=>rw[q] at B;exact B.elim
 .exact aoA (iu (A:=A) h)
 .exact aow (iu (A:=A) h)
 .exact akh (iu (A:=A) h)
 .exact agf (iu (A:=A) (iu (A:=A) h))
 .exact ae3 (iu (A:=A) (iu (A:=A) h))
 .rename_i x i;have B:=iu (A:=A) h;show ∃e,Kc (dN es ae ⟨L,E,A⟩ x) i=some e/\k e;revert B;generalize dN es ae ⟨L,E,A⟩ x=v;intro B;split at B
  .rename_i l;rw[af4];cases q:Nat.blt i l.length with
   |true=>rw[q] at B;simp only[FD] at B;exact⟨_,rfl,B⟩
   |false=>rw[q] at B;exact B.elim
  .exact B.elim
 .rename_i c;split at h
  .rename_i t x B F ah;obtain⟨e,aE,bt⟩:=agL (iu (A:=A) h);exact⟨e,by unfold u5;simp only[B,F,ah];exact aE,bt⟩
  .rename_i t l B;obtain⟨e,aE,bt⟩:=UL (ye (A:=A) h);exact⟨_,by unfold u5;simp only[B];exact nw aE,bt⟩
  .rename_i t l B;obtain⟨e,aE,bt⟩:=UL (ye (A:=A) h);exact⟨_,by unfold u5;simp only[B];exact nw aE,bt⟩
  .exact h.elim
 .exact h.elim
end
def kE{C}{α}{D:Option α}{k}{x}(h:D=some x)(az:k x):hs (dq C) D k:=by subst h;exact az
section
variable{C:Nat->cG}{bf:Hint}{P:dy}{es:aO}{ae:dv}{L E:bG}{A:be}
def Va{t}(h:IB P t A N k):∃e,wP P t A N=some e/\k e:=by
 unfold IB at h;unfold wP;split at h
 .rename_i n B F;rw[B,F];simp only;split at h
  .rename_i s aT;simp only;split at h
   .rename_i el z l K;rw[K];simp only;cases q:(Nat.beq aT 0&&Nat.beq n z) with
    |true=>rw[q] at h;exact⟨_,rfl,h⟩
    |false=>
     rw[q] at h;simp only at h ⊢;cases aS:Nat.ble (aT+n) z with
     |true=>rw[aS] at h;simp only[K6] at h;exact⟨_,rfl,h⟩
     |false=>rw[aS] at h;exact h.elim
   .rename_i el z l K;rw[K];simp only;cases aS:Nat.ble (aT+n) l.length with
    |true=>rw[aS] at h;simp only[CX,ET] at h;exact⟨_,rfl,h⟩
    |false=>rw[aS] at h;exact h.elim
   .exact h.elim
  .rename_i g r aT;simp only[se,vR,t2];cases q:(Nat.beq aT 0&&fQ r n) with
   |true=>rw[q] at h;exact⟨_,rfl,h⟩
   |false=>
    rw[q] at h;simp only at h ⊢;cases aS:Nat.ble (aT+n) r.length with
    |true=>rw[aS] at h;simp only[K6] at h;exact⟨_,rfl,h⟩
    |false=>rw[aS] at h;exact h.elim
  .rename_i s r aT;simp only;split at h
   .rename_i el z ab u K;rw[K];have⟨aF,ah,aE⟩:=h;simp only[ah];cases q:(Nat.beq aT 0&&Nat.beq n z) with
    |true=>rw[q] at aE;exact⟨_,rfl,aE⟩
    |false=>rw[q] at aE;exact aE.elim
   .exact h.elim
  .exact h.elim
 .rename_i B F;rw[B,F];simp only;split at h
  .rename_i s aT;simp only;split at h
   .rename_i el z l K;rw[K];simp only;cases q:Nat.blt aT z with
    |true=>rw[q] at h;simp only[FD] at h;exact⟨_,rfl,h⟩
    |false=>rw[q] at h;exact h.elim
   .rename_i el z l K;rw[K];simp only;cases aS:Nat.blt aT l.length with
    |true=>rw[aS] at h;simp only[BA] at h;exact⟨_,rfl,h⟩
    |false=>rw[aS] at h;exact h.elim
   .exact h.elim
  .rename_i g r aT;simp only[se,vR,t2,qX];cases q:Nat.blt aT r.length with
   |true=>rw[q] at h;simp only[FD] at h;exact⟨_,rfl,h⟩
   |false=>rw[q] at h;exact h.elim
  .rename_i s r aT;simp only;split at h
   .rename_i el z ab u K;rw[K];have⟨aF,ah,aE⟩:=h;simp only[ah];cases q:Nat.blt aT z with
    |true=>rw[q] at aE;simp only[FD] at aE;exact⟨_,rfl,aE⟩
    |false=>rw[q] at aE;exact aE.elim
   .exact h.elim
  .exact h.elim
 .exact h.elim
def aiw(z)(r)(k):Ty z r k=k (Gr z r):=by
 cases r with
 |cc l=>simp only[Ty,K6,Ix,Gr]
 |bE l=>rfl
def ajU(l)(aT)(c)(k):Tt l aT c k=k (LP l aT c):=by simp only[Tt,ET,CX,xb,LP]
def Vo(l:di)(n):yj n (.agg l)=fQ l n:=rfl
def Wr{α:Type}(a:Option α)(f:Nat->di->α){l:di}(z:Nat):(z=1->False)->fQ l z=true->(match z with
 |1=>a
 |z=>match yj z (.agg l) with
  |true=>some (f z (qF (.agg l)))
  |false=>none)=some (f z l):=by
 intro bO q
 match z,bO,q with
 |0,_,q=>simp only[Vo,q,qF]
 |1,bO,_=>exact(bO rfl).elim
 |n+2,_,q=>simp only[Vo,q,qF]
def V1{k}{t}(h:KU P t A N v k):∃bw,ve P t ⟨L,E,A⟩ N v=some bw/\k bw:=by
 unfold KU at h;unfold ve;split at h
 .rename_i m B;rw[B];simp only;split at h
  .rename_i s aT;simp only;split at h
   .rename_i el z aF K;rw[K];simp only;cases q:(Nat.beq aT 0&&Nat.beq (m+1) z) with
    |true=>
     rw[q] at h;simp only at h ⊢;split at h
     .rename_i a6;simp only;split at h
      .cases aS:pJ a6 with
       |true=>rw[aS] at h;simp only[xc] at h;exact⟨_,rfl,h⟩
       |false=>rw[aS] at h;exact h.elim
      .rename_i bO;split at h
       .rename_i l;cases aS:fQ l z with
        |true=>rw[aS] at h;simp only[xc] at h;exact⟨_,Wr (match pJ (.agg l) with|true=>some (kr A s (.box el 1 (.cc [.agg l])))|false=>none) (λz l=>kr A s (.box el z (.cc l))) z bO aS,h⟩
        |false=>rw[aS] at h;exact h.elim
       .exact h.elim
     .rename_i au;have⟨c,ah,aE⟩:=K7 h;simp only[xc] at aE;split
      .exact absurd rfl (au _)
      .exact⟨_,nw ah,aE⟩
    |false=>
     rw[q] at h;simp only at h ⊢;cases aS:Nat.ble (aT+(m+1)) z with
     |true=>rw[aS] at h;have⟨c,ah,aE⟩:=K7 h;simp only[xc,aiw,ajU] at aE;exact⟨_,nw ah,aE⟩
     |false=>rw[aS] at h;exact h.elim
   .exact h.elim
  .rename_i s r aT;simp only;split at h
   .rename_i el z ab u K;rw[K];simp only;split at h
    .rename_i a6 ax;have⟨ah,aE⟩:=h;rw[ax,cZ.2 ah];simp only[qX];split at aE
     .cases aS:pJ a6 with
      |true=>rw[aS] at aE;simp only[xc] at aE;exact⟨_,rfl,aE⟩
      |false=>rw[aS] at aE;exact aE.elim
     .rename_i bO;split at aE
      .rename_i l;cases aS:fQ l z with
       |true=>rw[aS] at aE;simp only[xc] at aE;exact⟨_,Wr (match pJ (.agg l) with|true=>some (kr A s (.arr el 1 (ab.set r [.agg l]) u))|false=>none) (λz l=>kr A s (.arr el z (ab.set r l) u)) z bO aS,aE⟩
       |false=>rw[aS] at aE;exact aE.elim
      .exact aE.elim
    .exact h.elim
   .exact h.elim
  .exact h.elim
 .exact h.elim
def YU{z k}(h:K4 A z v k):∃l,DL A z v=some l/\k l:=by
 unfold K4 at h;unfold DL;split at h
 .exact⟨_,rfl,h⟩
 .rename_i g ab;have⟨⟨B,F⟩,ah⟩:=h;simp only[rv,jl,qX];rw[B,dn.2 F];exact⟨_,rfl,ah⟩
 .rename_i s;simp only;split at h
  .rename_i el cI ab u K;rw[K];simp only;cases q:Nat.beq z cI with
   |true=>rw[q] at h;have⟨B,F⟩:=h;rw[dn.2 B];exact⟨_,rfl,F⟩
   |false=>rw[q] at h;exact h.elim
  .exact h.elim
 .exact h.elim
def Wd{X}{d e z b}{x}{l}{k}(h:M2 X L E A d e z b x l k):∃r,yX X ⟨L,E,A⟩ d e z b x l=some r/\r.2.on (k r.1):=by
 unfold M2 at h;unfold yX;split at h
 .rename_i g ab;simp only[rv,wn,jl,qX];rcases h with⟨B,F,ah,aE,bt,b1⟩|⟨B,F,ah,aE,bt⟩
  .have ep:=N7 b1;unfold c5.on at ep;simp only[A2] at ep;rw[show Nat.beq g (2*e+1)=true from cF.2 B,F,ah,show Nat.ble ((ab.length+l.length)*b) sn=true from dn.2 aE];refine⟨_,rfl,?_⟩;simp only;rw[QY bt];exact ep
  .rw[A2] at bt;subst ah;have iI:∀(a b:Bool),((a&&fQ (ib [] 0) z&&cr e (ev X))&&b)=false:=by intro a b;rcases B with B|B<;>rw[B]<;>cases a<;>simp
   rw[iI];simp only;rw[show Nat.beq (g % 2) 1=true from cF.2 F,show Nat.ble (l.length*b) sn=true from dn.2 aE];exact⟨_,rfl,bt⟩
 .have⟨B,F⟩:=h;rw[A2] at F;simp only;rw[show Nat.ble (l.length*b) sn=true from dn.2 B];exact⟨_,rfl,F⟩
 .rename_i s;simp only;split at h
  .rename_i ci cI ab K;rw[K];simp only;cases q:(Nat.beq e ci&&Nat.beq z cI) with
   |true=>rw[q] at h;have⟨B,F⟩:=h;rw[ac5] at F;unfold c5.on at F;simp only[A2] at F;rw[show Nat.ble ((ab.length+l.length)*b) sn=true from dn.2 B];exact⟨_,rfl,F⟩
   |false=>rw[q] at h;exact h.elim
  .rename_i ci cI ab K;rw[K];simp only;cases q:(Nat.beq e ci&&Nat.beq z cI&& !Nat.beq s d) with
   |true=>
    rw[q] at h;have⟨⟨B,ah⟩,F⟩:=h;rw[A2] at F;have eh:Nat.beq e ci=true/\Nat.beq z cI=true/\(!Nat.beq s d)=true:=by rw[c6,c6] at q;exact⟨q.1.1,q.1.2,q.2⟩
    rw[eh.1,eh.2.1,eh.2.2,show Nat.ble ((ab.length+l.length)*b) sn=true from dn.2 B,cZ.2 ah];exact⟨_,rfl,F⟩
   |false=>rw[q] at h;exact h.elim
  .exact h.elim
 .exact h.elim
def RX{k}(h:IJ A v k):∃t,pR A v=some t/\k t:=by
 unfold IJ at h;split at h
 .exact⟨_,rfl,h⟩
 .rename_i l;have⟨r,B,F⟩:=uk h;refine⟨_,?_,F⟩;show(match gD (g7 A 3) l with|some l=>some (b2.agg l)|none=>none)=_;rw[B]
 .exact uk h
def DX{r}:∀{l}{i}{k},zG r bc A i l k->∃da,kG r bc A i l=some da/\k da
 |[],i,k,h=>⟨_,rfl,h⟩
 |v::l,i,k,h=>by
  unfold zG at h;unfold kG;split at h
  .rename_i s ad;rw[I7] at h;have⟨da,B,F⟩:=DX h;rw[ad];exact⟨_,nw B,F⟩
  .rename_i s ad;rw[I7] at h;have⟨da,B,F⟩:=DX h;rw[ad];exact⟨_,nw B,F⟩
  .rename_i aB kY;have⟨t,B,F⟩:=RX h;have⟨da,ah,aE⟩:=DX F;split
   .rename_i s ad;exact(aB _ ad rfl).elim
   .rename_i s ad;exact(kY _ ad rfl).elim
   .exact⟨_,Cn B ah,aE⟩
def D6:∀{l}{i}{k},yC bc A i l k->∃dP,rD bc A i l=some dP/\k dP
 |[],i,k,h=>⟨_,rfl,h⟩
 |s::l,i,k,h=>by
  unfold yC at h;unfold rD;split at h
  .rename_i el z r K;rw[K];simp only[EL] at h;have⟨dP,B,F⟩:=D6 h;exact⟨_,nw B,F⟩
  .rename_i el z r K;rw[K];have⟨dP,B,F⟩:=D6 h;exact⟨_,nw B,F⟩
  .rename_i el z r K;rw[K];have⟨dP,B,F⟩:=D6 h;exact⟨_,nw B,F⟩
  .exact h.elim
def FY:∀{l}{r}{i}{A}{k},yk bc i l r A k->∃bw,r0 bc i l r A=some bw/\k bw
 |[],[],i,A,k,h=>⟨_,rfl,h⟩
 |[],_::_,i,A,k,h=>h.elim
 |_::_,[],i,A,k,h=>h.elim
 |s::l,(M,D)::r,i,A,k,h=>by
  unfold yk at h;unfold r0;split at h
  .rename_i el z i6 eC cI aF ax K;rw[ax,K];simp only[wD];cases q:(Nat.beq el eC&&Nat.beq z cI) with
   |true=>
    rw[q] at h;simp only[c6] at q;have aZ:=cF.1 q.1;have aN:=cF.1 q.2;subst aZ aN;cases aF with
    |bE c=>simp only[EL,xc] at h;exact FY h
    |cc c=>simp only[xc] at h;exact FY h
   |false=>rw[q] at h;exact h.elim
  .rename_i el z ab eC cI f7 ax K;rw[ax,K];simp only[wD];cases q:(Nat.beq el eC&&Nat.beq z cI) with
   |true=>rw[q] at h;simp only[c6] at q;have aZ:=cF.1 q.1;have aN:=cF.1 q.2;subst aZ aN;have⟨B,F⟩:=h;rw[cF.2 B];simp only[xc] at F;exact FY F
   |false=>rw[q] at h;exact h.elim
  .exact h.elim
def Qw{X}{g}{da}{k c8:b2->be->Prop}(h:Hm C X g da A k)(az:∀v t,k v t->c8 v t):(dq C).call X g da A c8:=by
 unfold Hm at h;split at h
 .rename_i f bY bJ;simp only[Ix,xb] at h;exact⟨f,bY,bJ,rfl,h.h.imp az⟩
 .exact h.elim
end
end Go.Tx
