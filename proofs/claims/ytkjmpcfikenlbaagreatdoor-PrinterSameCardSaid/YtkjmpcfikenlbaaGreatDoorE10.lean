/- A part. -/
import Derived.Lib.Index
import Derived.RowKit3
import Derived.ProofKit
import Derived.Handed
import Derived.LaidMore
import Derived.Test.YtkjmpcfikenlbaaGreatDoorE9
set_option linter.all false
namespace Go.Ev
open Go
section
variable{P:Program}{E:Nat->aO}{bT:World}
variable{T:ca}{ext:Nat->Option eS}
def Hr{b}(h:tM T b):T.ah=[]/\b:=by
 unfold tM at h;cases aY:T.ah<;>simp_all
def TR.HJ{ae es aT a}(bv:TR ae es aT T a)(h:T.ah=[]):a.defers=[]:=by have:=bv.defers;rw[h]at this;exact this
def ary(aD:oL P){g:Nat}{fn}(D:P.funcs[g]?=some fn)(F:fn.body.isSome)(cap args)(w):(invoke (.fn (.func g) cap) args).run P w=.ok (.enter g (args++cap)) w:=by
 have aB:fn.body.isNone=false:=by
  simp_all
 unfold invoke;unfold callFunc;rw[jm,run_program,jt,D];simp[aD g fn D F,aB]
def apL(hm:P.follows .mixedOrders)(aD:oL P){n f}{call}(gM:pZ P bT call){args}{u}{m}{ae}{H}{w}{k}(R:hB bT ae H w)(h:Rk P E n call f args u H k){jf}(eZ:dh ae args jf)(hu:sM ae u m){jF}(nD:∀bG az bi fY i7 v,hB bT bG az bi->Step ae H w bG az bi->sM bG fY i7->k fY az->jF (.returned v) i7 bi):∃fn,P.funcs[f]?=some fn/\fn.body.isSome/\CallsD P f (List.toArray jf) m w jF:=by
 unfold Rk at h;split at h
 .rename_i fn a1;split at h
  .rename_i c aB;have ap:=JW (bT:=bT) hm aD (es:=E f) (aT:=fn.ntmps) c;have Kh:=λae H w T a R bv k=>Tl (P:=P) (es:=E f) (aT:=fn.ntmps) (ae:=ae) (H:=H) (w:=w) (T:=T) (a:=a) R bv (fn:=fn) (k:=k);cases Y:Nat.ble args.length (fn.params.size+fn.nfree)with
   |false=>simp_all
   |true=>
    cases rh:sb c with
    |true=>simp_all
    |false=>
     cases u4:Nat.ble (fn.params.size+fn.nfree) fn.ntmps with
     |false=>simp_all
     |true=>
      cases wl:tS (fn.params.size+fn.nfree) 0 (E f)with
      |false=>simp_all
      |true=>
      simp[Y,rh,u4,wl]at h;have⟨T,D,aY,hK⟩:=L2 h;refine⟨fn,a1,by rw[aB];rfl,callsD_of_wpS a1 aB λkz eU aiq=>?_⟩;have bv:=RS eZ (dT.1 Y) (dT.1 u4) wl aY hK;have LV:({kz with mode:=m}:Frame)=kz:=by subst aiq;rfl
      have:=ap n call ae H w T _ u m _ _ (bodyPostS P fn kz eU jF) kz eU gM R bv hu D ?_ ?_
      .simp_all
      .intro bG az c6 bz bi fY i7 bC aX b4 dc eC;have⟨aj,an⟩:=Hr eC;have⟨v,V,aM,bs,cp⟩:=Kh bG az bi c6 bz aX.rel bC _ an;exact⟨bC.HJ aj,i7,rfl,V,cp,nD bG az bi fY i7 V aX b4 dc aM⟩
      .intro bG az c6 bz bi fY i7 x e bC aX b4 dc eC oy;cases x with
       |exit i=>simp_all|panic v=>simp_all|ret=>subst eC;have⟨aj,an⟩:=Hr oy;have⟨v,V,aM,bs,cp⟩:=Kh bG az bi c6 bz aX.rel bC _ an;exact⟨bC.HJ aj,i7,rfl,V,cp,nD bG az bi fY i7 V aX b4 dc aM⟩
  simp_all
 simp_all
def aaf(hm:P.follows .mixedOrders)(aD:oL P){n}{call}(gM:pZ P bT call){fn}{es}{T}{a}{k}{gQ}{gH}{Bx}:∀{ah}{a5}{u}{m}{ae}{H}{w},hB bT ae H w->Step gQ gH Bx ae H w->TR ae es fn.ntmps T a->Fg ae ah a5->sM ae u m->GK P E n call (xJ P es fn.results.toList).f T ah u H k->Leaves P fn a.tmps (Hh bT gQ gH Bx k) a5 m w
 |[],a5,u,m,ae,H,w,R,S,bv,aS,hu,h=>by
  cases aS;cases u with
  |ret=>subst hu;have⟨v,V,aM,bs,cp⟩:=Tl R.rel bv h;exact⟨V,cp,ae,H,R,S,v,bs,aM⟩
  |nu v b=>obtain⟨V,aI,rfl⟩:=hu;have⟨aB,D⟩:=C3 h;subst aB;exact⟨ae,H,R,S,v,V,rfl,aI,D⟩
 |d::ah,a5,u,m,ae,H,w,R,S,bv,aS,hu,h=>by
  obtain⟨X,nO,rfl,⟨jf,Jt,rfl,eZ,kV⟩,OC⟩:=aS;unfold GK at h;have⟨auL,aj,an,aM⟩:=apL hm aD gM R h (eZ.append kV) hu (jF:=λ
   |.returned _,fY,bi=>Leaves P fn a.tmps (Hh bT gQ gH Bx k) nO (settle fY) bi|.panicked KY,fY,bi=>Leaves P fn a.tmps (Hh bT gQ gH Bx k) nO (raised fY KY) bi
   |.outgrown,_,bi=>Hh bT gQ gH Bx k .outgrown bi) (λbG az bi fY i7 v bC aX b4 dc=>
   aaf hm aD gM bC (S.trans aX) (bv.mono aX.le) (OC.mono aX.le) b4.settle dc)
  refine⟨?_,.func d.f,List.toArray Jt,d.f,List.toArray (jf++Jt),rfl,?_,aM⟩
  .cases u with
   |ret=>simp_all[sM]
   |nu v b=>obtain⟨V,_,rfl⟩:=hu;simp
  simp_all[ary]
def CN(P:Program)(bT:World)(ext:Nat->Option eS):Prop:=∀(f:Nat)(e:eS),ext f=some e->∀(args:cx)(k:bp->Bool),e.f args k=true->
 ∃fn v,P.funcs[f]?=some fn/\fn.body.isSome=true/\k v=true/\∀(ae:cX)(H:bg)(w:World)(jf:lE),dh ae args jf->hB bT ae H w->
  Calls P f (List.toArray jf) w λe bi=>∃V,e=.returned V/\bP ae v V/\Rel ae H bi/\Step ae H w ae H bi
def WT{call n}(hm:P.follows .mixedOrders)(aD:oL P)(ve:CN P bT ext)(gM:pZ P bT call):pZ P bT λf args H k=>(yI P E ext f).f n call args H k:=by
 intro f args H k h;simp at h;unfold yI at h;split at h
 .rename_i e aw;have⟨fn,v,D,F,aq,aL⟩:=ve f _ aw args _ h;refine⟨fn,D,F,λae w jf eZ R=>Calls.mono (aL ae H w jf eZ R) λe bi nD=>?_⟩;obtain⟨V,rfl,aI,dC,b3⟩:=nD;exact⟨ae,H,⟨dC,R.kv.step b3⟩,b3,v,aI,aq⟩
 .split at h
  .rename_i fn a1;split at h
   .rename_i c aB;have ap:=xb (bT:=bT) hm aD (es:=E f) (aT:=fn.ntmps) c;have Kh:=λae H w T a R bv k=>Tl (P:=P) (es:=E f) (aT:=fn.ntmps) (ae:=ae) (H:=H) (w:=w) (T:=T) (a:=a) R bv (fn:=fn) (k:=k);have Bp:=λ(gQ:cX)(gH:bg)(Bx:World) T a ah a5 u m ae H w=>aaf (E:=E) (bT:=bT) hm aD (n:=n) gM (fn:=fn) (es:=E f) (T:=T) (a:=a) (k:=k) (gQ:=gQ) (gH:=gH) (Bx:=Bx) (ah:=ah) (a5:=a5) (u:=u) (m:=m) (ae:=ae) (H:=H) (w:=w);cases u4:Nat.ble (fn.params.size+fn.nfree) fn.ntmps with
    |false=>cases rh:sb c<;>(simp only[rh,u4,WB]at h;exact ci h)
    |true=>
     cases wl:tS (fn.params.size+fn.nfree) 0 (E f)with
     |false=>cases rh:sb c<;>(simp only[rh,u4,wl,abq]at h;exact ci h)
     |true=>
     cases rh:sb c with
     |false=>
      simp[rh,u4,wl]at h;have⟨ii,D⟩:=SX h;have⟨T,F,aY,hK⟩:=L2 D;refine⟨fn,a1,by rw[aB];rfl,λae w jf eZ R=>calls_of_wp a1 aB ?_⟩;have bv:=RS eZ (Nat.le_of_eq ii) (dT.1 u4) wl aY hK;refine ap n call ae H w T _ _ _ _ gM R bv F ?_ ?_
      .intro bG az c6 bz bi bC aX b4 dc;have⟨aj,an⟩:=Hr dc;have⟨v,V,aM,bs,cp⟩:=Kh bG az bi c6 bz aX.rel bC _ an;exact⟨bC.HJ aj,V,cp,bG,az,aX,b4,v,bs,aM⟩
      .intro bG az c6 bz bi x e bC aX b4 dc eC;cases x with
       |exit i=>simp_all|ret=>subst dc;have⟨aj,an⟩:=Hr eC;have⟨v,V,aM,bs,cp⟩:=Kh bG az bi c6 bz aX.rel bC _ an;exact⟨bC.HJ aj,V,cp,bG,az,aX,b4,v,bs,aM⟩
       |panic v=>obtain⟨V,aI,rfl⟩:=dc;have⟨aj,an⟩:=Hr eC;exact⟨bC.HJ aj,bG,az,aX,b4,v,V,rfl,aI,an⟩
     |true=>
      simp[rh,u4,wl]at h;have⟨ii,D⟩:=SX h;have⟨T,F,aY,hK⟩:=L2 D;refine⟨fn,a1,by rw[aB];rfl,λae w jf eZ R=>calls_of_wp_defers a1 aB ?_⟩;have bv:=RS eZ (Nat.le_of_eq ii) (dT.1 u4) wl aY hK;refine ap n call ae H w T _ _ _ _ gM R bv F ?_ ?_
      .intro bG az c6 bz bi bC aX b4 dc;exact Bp ae H w c6 bz c6.ah bz.defers .ret .returning bG az bi aX b4 bC bC.defers rfl dc
      .intro bG az c6 bz bi x e bC aX b4 dc eC;cases x with
       |exit i=>simp_all|ret=>subst dc;exact Bp ae H w c6 bz c6.ah bz.defers .ret .returning bG az bi aX b4 bC bC.defers rfl eC
       |panic v=>obtain⟨V,aI,rfl⟩:=dc;exact Bp ae H w c6 bz c6.ah bz.defers (.nu v false) _ bG az bi aX b4 bC bC.defers ⟨V,aI,rfl⟩ eC
   .exact ci h
  .exact ci h
def Sk(hm:P.follows .mixedOrders)(aD:oL P)(ve:CN P bT ext):∀n,pZ P bT (P6 P E ext n)
 |0=>λf args H k h=>ci h
 |n+1=>by have:=WT (E:=E) hm aD ve (n:=n) (Sk hm aD ve n);simp_all[P6,L0]
end
noncomputable def D7{α:Type}(l:List α):Nat->Option α:=
 List.rec (motive:=λ_=>Nat->Option α) (λ_=>none) (λa _ bQ n=>Nat.rec (motive:=λ_=>Option α) (some a) (λn _=>bQ n) n) l
def RV{α}:∀(l:List α)(n),D7 l n=l[n]?
 |[],n=>by simp[D7]
 |a::l,0=>rfl
 |a::l,n+1=>by have:D7 (a::l) (n+1)=D7 l n:=rfl;rw[this,RV l n];simp
noncomputable def Jp(P:Program)(t:TypeId):Option TypeInfo:=match D7 P.types.toList t with
 |some i=>some i|none=>P.info? t
def aeo(P)(t):Jp P t=P.info? t:=by
 unfold Jp;rw[RV,BT];split
 .rename_i i aN;have be:t<P.types.size:=(arS.1 aN).1;simp_all[Tables.info?]
 .rfl
noncomputable def QW(P:Program)(t:TypeId):Option TypeDesc:=
 match Jp P t with
 |some {desc:=.named _ u,..}=>(Jp P u).map (·.desc)|some i=>some i.desc|none=>none
def aof(P)(t):QW P t=P.underlying t:=by unfold QW Program.underlying;simp[aeo];rfl
noncomputable def N6(P:Program):dK:=⟨QW P,Jp P,D7 P.funcs.toList,sr P⟩
def akZ(P):N6 P=ID P:=by
 unfold N6 ID;congr 1
 .funext t;exact aof P t
 .funext t;exact aeo P t
 .funext f;rw[RV,BT]
noncomputable def ajP(apJ:List aO)(f:Nat):aO:=
 List.rec (motive:=λ_=>Nat->aO) (λ_=>[]) (λa _ bQ n=>Nat.rec (motive:=λ_=>aO) a (λn _=>bQ n) n) apJ f
def er:bp:=.int 3 18446744073709551615
def adr{ae}:bP ae er (.int .i64 (-1)):=by have:=oZ (ae:=ae) (c:=3) (r:=18446744073709551615) af af;exact this
noncomputable def FK(c:Nat)(len:Nat):Nat->Nat->(bp->Bool)->Bool:=
 Nat.rec (motive:=λ_=>Nat->Nat->(bp->Bool)->Bool) (λ_ _ k=>k er)
  (λ_ bQ n i k=>bd (Nat.beq (Nat.mod n 256) c) (k (.int 3 i)) (gr (Nat.div n 256) λn=>gr (Nat.succ i) λi=>bQ n i k)) len
def QC(c l n i)(k):FK c (l+1) n i k=bd (Nat.beq (Nat.mod n 256) c) (k (.int 3 i)) (FK c l (n / 256) (i+1) k):=by show bd _ _ (gr (Nat.div n 256) λn=>gr (Nat.succ i) λi=>FK c l n i k)=_;rw[k5];rfl
def aan{c:Nat}(aQ:c<256):∀(l n i),(Lib.indexByte (ez l n) (UInt8.ofNat c)= -1/\∀k,FK c l n i k=k er)\/∃j,j<l/\Lib.indexByte (ez l n) (UInt8.ofNat c)=j/\∀k,FK c l n i k=k (.int 3 (i+j))
 |0,n,i=>.inl ⟨rfl,λk=>rfl⟩
 |l+1,n,i=>by
  have hu:Lib.indexByte (ez (l+1) n) (UInt8.ofNat c)=if UInt8.ofNat (n % 256)==UInt8.ofNat c then 0 else if Lib.indexByte (ez l (n / 256)) (UInt8.ofNat c)== -1 then -1 else Lib.indexByte (ez l (n / 256)) (UInt8.ofNat c)+1:=rfl
  by_cases a0:n % 256=c
  .refine .inr ⟨0,I,?_,λk=>?_⟩
   .simp_all
   .rw[QC,dA.2 (show Nat.mod n 256=c from a0)];rfl
  .have ed:Nat.beq (Nat.mod n 256) c=false:=by
    cases aB:Nat.beq (Nat.mod n 256) c with
    |false=>rfl|true=>exact absurd (dA.1 aB) a0
   have aaA:¬(UInt8.ofNat (n % 256)==UInt8.ofNat c)=true:=by simp_all[YC,mA]
   rcases aan aQ l (n / 256) (i+1)with⟨D,F⟩|⟨j,bl,D,F⟩
   .simp_all[QC]
   .refine .inr ⟨j+1,I,?_,λk=>?_⟩
    .simp_all
    .rw[QC,ed,o9,F,show i+1+j=i+(j+1) by omega]
noncomputable def Fy(aK cI:Nat)(len:Nat):Nat->Nat->(bp->Bool)->Bool:=
 Nat.rec (motive:=λ_=>Nat->Nat->(bp->Bool)->Bool) (λ_ i k=>bd (Nat.beq aK 0) (k (.int 3 i)) (k er))
  (λr bQ n i k=>bd (bd (Nat.ble aK (Nat.succ r)) (Nat.beq (Nat.mod n (kt aK)) (Nat.mod cI (kt aK))) false) (k (.int 3 i)) (gr (Nat.div n 256) λn=>gr (Nat.succ i) λi=>bQ n i k)) len
def Ra(aK cI l n i)(k):Fy aK cI (l+1) n i k=bd (bd (Nat.ble aK (l+1)) (Nat.beq (Nat.mod n (kt aK)) (Nat.mod cI (kt aK))) false) (k (.int 3 i)) (Fy aK cI l (n / 256) (i+1) k):=by show bd _ _ (gr (Nat.div n 256) λn=>gr (Nat.succ i) λi=>Fy aK cI l n i k)=_;rw[k5];rfl
def aqW(aK cI l n):(ez aK cI).isPrefixOf (ez l n)=bd (Nat.ble aK l) (Nat.beq (Nat.mod n (kt aK)) (Nat.mod cI (kt aK))) false:=by
 rw[Bool.eq_iff_iff,List.isPrefixOf_iff_prefix];constructor
 .intro h;have Y:=h.length_le;rw[p5,p5]at Y;rw[dT.2 Y,iG,dA];have au:=List.prefix_iff_eq_take.1 h;rw[p5,<-KG _ _ _ Y]at au;exact((Iw aK cI n).1 au).symm
 .intro h;have⟨D,F⟩:=fi h;have Y:=dT.1 D;rw[List.prefix_iff_eq_take,p5,<-KG _ _ _ Y];exact(Iw aK cI n).2 (dA.1 F).symm
def Zx(aK cI):∀(l n i),(Lib.index (ez l n) (ez aK cI)= -1/\∀k,Fy aK cI l n i k=k er)\/∃j,j<=l/\Lib.index (ez l n) (ez aK cI)=j/\∀k,Fy aK cI l n i k=k (.int 3 (i+j))
 |0,n,i=>by
  have hu:Lib.index (ez 0 n) (ez aK cI)=if(ez aK cI).isEmpty then 0 else -1:=rfl
  cases aK with
  |zero=>exact .inr ⟨0,fI _,by rfl,λk=>rfl⟩
  |succ aK=>exact .inl ⟨by rfl,λk=>rfl⟩
 |l+1,n,i=>by
  have hu:Lib.index (ez (l+1) n) (ez aK cI)=if(ez aK cI).isPrefixOf (ez (l+1) n)then 0 else if Lib.index (ez l (n / 256)) (ez aK cI)== -1 then -1 else Lib.index (ez l (n / 256)) (ez aK cI)+1:=rfl
  rw[aqW]at hu;cases a0:bd (Nat.ble aK (l+1)) (Nat.beq (Nat.mod n (kt aK)) (Nat.mod cI (kt aK))) false with
  |true=>
   refine .inr ⟨0,I,?_,λk=>?_⟩
   .simp_all
   .rw[Ra,a0];rfl
  |false=>
   rw[cO (by simp_all)]at hu;rcases Zx aK cI l (n / 256) (i+1)with⟨D,F⟩|⟨j,bl,D,F⟩
   .simp_all[Ra]
   .refine .inr ⟨j+1,I,?_,λk=>?_⟩
    .simp_all
    .rw[Ra,a0,o9,F,show i+1+j=i+(j+1) by omega]
noncomputable def apE:eS:=⟨λargs k=>kM args false λx l=>kM l false λy l=>kM l (hE x λlen n=>gN y λc b=>bd (Nat.beq c 4) (bd (Nat.blt b 256) (FK b len n 0 k) false) false) λ_ _=>false⟩
noncomputable def ajN:eS:=⟨λargs k=>kM args false λx l=>kM l false λy l=>kM l (hE x λlen n=>hE y λKD cI=>bd (Nat.ble len 4294967280) (Fy KD cI len n 0 k) false) λ_ _=>false⟩
noncomputable def ZN(Jn Ie f:Nat):Option eS:=match Nat.beq f Jn,Nat.beq f Ie with
 |true,_=>some apE|false,true=>some ajN|false,false=>none
def M6{α}{l:List α}{k:α->List α->Bool}(h:kM l false k):∃x aK,l=x::aK/\k x aK:=by
 cases l with
 |nil=>cases h
 |cons x l=>exact⟨x,l,rfl,h⟩
def UG{α}{l:List α}{e}(h:(kM l e λ_ _=>false)):l=[]/\e:=by
 cases l<;>simp_all
section
variable{P:Program}{bT:World}
def atG{Jn Ie g:Nat}(Er:∃fn,P.funcs[Jn]?=some fn/\fn.body.isSome)(apU:∃fn,P.funcs[Ie]?=some fn/\fn.body.isSome)(mB:∀(s)(c)(w),Calls P Jn #[.string s,.int .u8 c] w λe bi=>e=.returned (.int .i64 (Lib.indexByte s.data.toList c.toNat.toUInt8))/\bi=w)(aiY:∀(s sub)(m)(w),s.size<4294967281->w.cell? ⟨g,0,none⟩=some (.int .i64 m)->Calls P Ie #[.string s,.string sub] w λe bi=>e=.returned (.int .i64 (Lib.index s.data.toList sub.data.toList))/\bi=w)(hm:∃m,bT.cell? ⟨g,0,none⟩=some (.int .i64 m)):CN P bT (ZN Jn Ie):=by
 intro f e aw args k h;unfold ZN at aw;have str:∀{ae:cX}{l n:Nat}{V:Value},bP ae (.str l n) V->l<=1152921504606846976/\V=.string ⟨(ez l n).toArray⟩:=λh=>by simpa only[bP]using h
 split at aw
 .rename_i a1;have a1:=dA.1 a1;subst a1;cases aw;obtain⟨x,l,rfl,h⟩:=M6 h;obtain⟨y,l,rfl,h⟩:=M6 h;obtain⟨rfl,h⟩:=UG h;obtain⟨len,n,rfl,h⟩:=sL h;obtain⟨c,b,rfl,h⟩:=m6 h;have⟨aQ,h⟩:=fi h;have aQ:=dA.1 aQ;subst aQ;have⟨aB,h⟩:=fi h;have aB:=dg.1 aB;have⟨fn,aj,an⟩:=Er;obtain⟨v,QH,aI⟩:∃v,k v=true/\∀ae:cX,len<=1152921504606846976->bP ae v (.int .i64 (Lib.indexByte (ez len n) (UInt8.ofNat b))):=by
   rcases aan aB len n 0 with⟨bC,aX⟩|⟨j,bl,bC,aX⟩
   .rw[aX]at h;exact⟨_,h,λae _=>by rw[bC];exact adr⟩
   .rw[aX]at h;exact⟨_,h,λae Y=>by rw[bC,pW];exact wS I⟩
  refine⟨fn,v,aj,an,QH,λae H w jf eZ R=>?_⟩;obtain⟨X,gD,rfl,cR,eZ⟩:=eZ.cons_inv;obtain⟨et,gD,rfl,ll,eZ⟩:=eZ.cons_inv;simp only[dh]at eZ;subst eZ;obtain⟨Y,rfl⟩:=str cR;simp only[bP]at ll;obtain⟨_,_,rfl⟩:=ll;have es:eM 4 b=(b:Int):=lH aB;rw[es];refine(mB _ _ w).mono λe bi bo=>?_;obtain⟨rfl,rfl⟩:=bo;have aev:((b:Int).toNat).toUInt8=UInt8.ofNat b:=rfl;refine⟨_,rfl,?_,R.rel,Step.refl _ _ _⟩;simp_all
 .rename_i a1;have a1:=dA.1 a1;subst a1;cases aw;obtain⟨x,l,rfl,D⟩:=M6 h;obtain⟨y,l,rfl,F⟩:=M6 D;obtain⟨rfl,aq⟩:=UG F;obtain⟨len,n,rfl,aL⟩:=sL aq;obtain⟨KD,cI,rfl,bO⟩:=sL aL;have⟨ii,bO⟩:=fi bO;have ii:=dT.1 ii;have⟨fn,aj,an⟩:=apU;obtain⟨v,QH,aI⟩:∃v,k v=true/\∀ae:cX,len<=1152921504606846976->bP ae v (.int .i64 (Lib.index (ez len n) (ez KD cI))):=by
   rcases Zx KD cI len n 0 with⟨bC,aX⟩|⟨j,bl,bC,aX⟩
   .rw[aX]at bO;exact⟨_,bO,λae _=>by rw[bC];exact adr⟩
   .rw[aX]at bO;exact⟨_,bO,λae Y=>by rw[bC,pW];exact wS I⟩
  refine⟨fn,v,aj,an,QH,λae H w jf eZ R=>?_⟩;obtain⟨X,gD,rfl,cR,eZ⟩:=eZ.cons_inv;obtain⟨et,gD,rfl,ll,eZ⟩:=eZ.cons_inv;subst eZ;obtain⟨Y,rfl⟩:=str cR;obtain⟨iJ,rfl⟩:=str ll;have⟨m,hm⟩:=hm;have amG:w.cell? ⟨g,0,none⟩=some (.int .i64 m):=by
   rw[<-hm];have be:g<bT.heap.size:=by
    rcases m4 g bT.heap.size with h|h
    .exact h
    simp_all[World.cell?]
   have:=R.kv.same g be;simp_all[World.cell?]
  refine(aiY ⟨(ez len n).toArray⟩ ⟨(ez KD cI).toArray⟩ m w ?_ amG).mono λe bi bo=>?_
  .show(ez len n).toArray.size<_;rw[Je,p5];omega
  .obtain⟨rfl,rfl⟩:=bo;exact⟨_,rfl,aI ae Y,R.rel,Step.refl _ _ _⟩
 grind
end
end Go.Ev
namespace Go.Ev
open Go Go.ChangeAt Go.ChangeShapes Go.RowKit
def aqX(a):yD.get a=.none:=by
 unfold bg.get yD;cases Nat.blt a 32768
 .rfl
 simp_all[Gc,db.ab9]
def agk(w):hB w (λ_=>none) yD w:=by refine⟨⟨af,λa x h=>absurd h (by simp),λa _=>by rw[aqX];trivial,λa bz _ _ h=>by simp_all⟩,⟨fI _,λ_ _=>rfl,λb h=>?_,rfl,rfl,rfl⟩⟩;have⟨a,_,Y,_⟩:=h;simp_all
noncomputable def Qn(r:r6):Bool:=zM r (λv=>ni v λb=>b) (λ_=>false)
def agx(P:Program):Bool:=P.funcs.toList.all λfn=> !fn.body.isSome|| !(fn.name== "runtime.NumGoroutine")
variable{H cM:bg}{d cC:Nat}
def auf{P}(h:agx P):oL P:=by intro f fn a1 aB;have:=ub.1 h fn (Kg (by rw[BT];exact a1));simp_all
section
variable{H:Type}{asB:TypeId×Value->H}
end
noncomputable def arm:eS:=⟨λargs k=>kM args (k (.bool true)) λ_ _=>false⟩
noncomputable def Xg(N4:Nat)(ext:Nat->Option eS)(f:Nat):Option eS:=match Nat.beq f N4 with
 |true=>some arm|false=>ext f
def HS(w:World)(g:Nat):Prop:=∃m,w.cell? ⟨g,0,none⟩=some (.int .i64 m)
section
variable{P:Program}
def HS.kv{bT g w}(h:HS bT g)(ap:∀b,b<bT.heap.size->w.heap[b]?=bT.heap[b]?):HS w g:=by
 have⟨m,hm⟩:=h;have be:g<bT.heap.size:=by
  rcases m4 g bT.heap.size with h|h
  .exact h
  simp_all[World.cell?]
 refine⟨m,?_⟩;simp_all[World.cell?]
def atS(hm:P.follows .mixedOrders)(aD:oL P){N4 g n}{E}{ext}(ve:∀w,HS w g->CN P w ext)(h:P6 (N6 P) E ext n N4 [] yD (λr _=>Qn r)):∀w,HS w g->CN P w (Xg N4 ext):=by
 rw[akZ]at h;intro bT U6 f e aw args k ar;unfold Xg at aw;split at aw
 .rename_i a1;have a1:=dA.1 a1;subst a1;cases aw;obtain⟨rfl,ar⟩:=UG (show(kM args (k (.bool true)) λ_ _=>false)=true from ar);have⟨fn,D,F,aq⟩:=Sk hm aD (ve bT U6) n f [] yD _ h;refine⟨fn,.bool true,D,F,ar,λae H w jf eZ R=>?_⟩;have cw:=U6.kv R.kv.same;have⟨_,_,_,aq⟩:=Sk hm aD (ve w cw) n f [] yD _ h;subst eZ;refine(aq (λ_=>none) w [] dh.nil (agk w)).mono λe bi nD=>?_;have⟨bG,az,dC,b3,iQ⟩:=nD;have bB:=dC.kv;cases e with
  |returned V=>have⟨v,my,pH⟩:=iQ;obtain⟨b,rfl,aB⟩:=AC (show ni v (λb=>b)=true from pH);subst aB;subst my;refine⟨_,rfl,kT true,⟨R.rel.next,R.rel.p0,λa aC=>(R.rel.obj a aC).mono (cX.le_refl _) λb cm Y ag=>bB.same b (R.rel.Mp ⟨a,aC,Y,cm,ag⟩),R.rel.inj⟩,?_⟩;exact⟨cX.le_refl _,λ_ _=>rfl,fI _,bB.size,λb aB _=>bB.same b aB,λb aB=>.inr aB,λ_ _ aY=>aY,bB.tape,bB.os,bB.output⟩
  |panicked KY=>have⟨v,V,_,_,pH⟩:=iQ;exact ci pH|outgrown=>simp_all
 .exact ve bT U6 f e aw args k ar
end
def atE{x m:Int}(M:¬Int.tmod x m<0)(hm:0<m):Int.tmod x m=x % m:=by
 have F:x % m=Int.tmod x m % m:=by
  conv=>lhs;rw[<-Int.mul_tdiv_add_tmod x m]
  simp_all
 have aq:Int.tmod x m<m:=Int.tmod_lt_of_pos x hm;rw[F,u0 I aq]
def tmod_neg{x m:Int}(M:Int.tmod x m<0)(hm:0<m):Int.tmod x m+m=x % m:=by
 have F:x % m=Int.tmod x m % m:=by
  conv=>lhs;rw[<-Int.mul_tdiv_add_tmod x m]
  simp_all
 have aq: - m<Int.tmod x m:=by simp_all[Int.lt_tmod_of_pos]
 rw[F,<-Int.add_emod_right,u0 I I]
section
variable{P:Program}{bT:World}
end
section
variable{P:Program}{bT:World}
end
structure E0 where
 f:cx->bg->(bp->bg->Bool)->Bool
noncomputable def BN(P:dK)(E:Nat->aO)(ext:Nat->Option eS)(X:Nat->Option E0):Nat->cE:=
 MK λn call f args H k=>match X f with
  |some ⟨x⟩=>x args H λv H=>k (.val v) H|none=>(yI P E ext f).f n call args H k
def aee(P:Program)(bT:World)(X:Nat->Option E0):Prop:=∀(f:Nat)(e:E0),X f=some e->∀(args:cx)(H:bg)(k:bp->bg->Bool),e.f args H k=true->
 ∃fn,P.funcs[f]?=some fn/\fn.body.isSome=true/\∀(ae:cX)(w:World)(jf:lE),dh ae args jf->hB bT ae H w->
  Calls P f (List.toArray jf) w λe bi=>∃V bG v cM,e=.returned V/\k v cM=true/\bP bG v V/\Rel bG cM bi/\Step ae H w bG cM bi
section
variable{P:Program}{E:Nat->aO}{bT:World}
def aiI(hm:P.follows .mixedOrders)(aD:oL P){ext}(ve:CN P bT ext){X}(cR:aee P bT X):∀n,pZ P bT (BN P E ext X n)
 |0=>λf args H k h=>ci h
 |n+1=>by
  have base:=WT (E:=E) hm aD ve (n:=n) (aiI hm aD ve cR n);intro f args H k h;unfold BN at h;rw[L0]at h;have base:(yI P E ext f).f n (BN P E ext X n) args H k=true->_:=base f args H k;cases M:X f with
  |none=>rw[M]at h;exact base h
  |some e=>rw[M]at h;have⟨fn,D,F,aL⟩:=cR f e M args H (λv H=>k (.val v) H) h;refine⟨fn,D,F,λae w jf eZ R=>(aL ae w jf eZ R).mono λe bi nD=>?_⟩;obtain⟨V,bG,v,cM,rfl,aq,aI,dC,b3⟩:=nD;exact⟨bG,cM,⟨dC,R.kv.step b3⟩,b3,v,aI,aq⟩
end
def zu{a b}(h:a<b):Nat.blt a b:=dg.2 h
def zA{a b:Nat}(h:a<=b):Nat.ble a b:=dT.2 h
def ain{a b:Nat}(h:b<a):Nat.ble a b=false:=by
 cases e:Nat.ble a b with
 |false=>rfl|true=>have:=dT.1 e;omega
def kN{a b:Nat}(h:a=b):Nat.beq a b:=dA.2 h
def u1{a b:Nat}(h:a≠b):Nat.beq a b=false:=by
 cases e:Nat.beq a b<;>simp_all
@[simp] def aka(c n)(k):gN (.int c n) k=k c n:=rfl
@[simp] def auw(b)(k):ni (.bool b) k=k b:=rfl
@[simp] def aa4(l n)(k):hE (.str l n) k=k l n:=rfl
@[simp] def as0(a i l c)(u)(z)(k):zV (.slice a i l c u z) k=k a i l c u z:=rfl
@[simp] def IC(a i l c)(u)(z)(e5)(k):ts (.slice a i l c u z) e5 k=k a i l c u z:=rfl
@[simp] def an8(e5)(k):ts (.nil .s) e5 k=e5:=rfl
@[simp] def atf(a)(k):agT (.map a) k=k a:=rfl
@[simp] def auO(f)(x y)(k):C5 (.fn f x y) k=k f x y:=rfl
@[simp] def auK(n)(l)(k):rt (.agg n l) k=k n l:=rfl
@[simp] def aul(l)(k):Cz (.gy l) k=k l:=rfl
@[simp] def atT(n)(l)(cv)(dW):rc (.agg n l) cv dW=dW n l:=rfl
@[simp] def aum(c n)(cv)(dW):rc (.int c n) cv dW=cv:=rfl
@[simp] def at9(l n)(cv)(dW):rc (.str l n) cv dW=cv:=rfl
@[simp] def atk(b)(cv)(dW):rc (.bool b) cv dW=cv:=rfl
@[simp] def atY(a)(cv)(dW):rc (.map a) cv dW=cv:=rfl
@[simp] def auc(V)(cv)(dW):rc (.pJ V) cv dW=cv:=rfl
@[simp] def aue(c)(cv)(dW):rc (.nil c) cv dW=cv:=rfl
@[simp] def auE(a i l c)(u)(z)(cv)(dW):rc (.slice a i l c u z) cv dW=cv:=rfl
@[simp] def auz(b)(zq)(zh):KP (.bool b) zq zh=zq b:=rfl
@[simp] def auJ(zq)(zh):KP .undef zq zh=zh:=rfl
@[simp] def asv(a r s z)(k):C4 (.ptr a r s z) k=k:=rfl
@[simp] def atw(es)(tp)(k):apX (.map es tp) k=k es tp:=rfl
@[simp] def auh(n b)(k):pd (.int 3 n) b k=bd (Nat.blt n b) (k n) false:=rfl
@[simp] def atJ(n b)(k):T8 (.int 3 n) b k=bd (Nat.blt n b) (k n) false:=rfl
@[simp] def atX(r)(i):(Rows.fC r).row i=r:=rfl
@[simp] def aso(r)(k):rowAt (.fC r) 0 k=k r:=rfl
def bg.add(H:bg)(B:gW):bg:={(H.put H.next B)with next:=H.next+1}
def LB{B k}(h:fv H.next):tq H B k=k H.next (H.add B):=by simp[tq];rw[VK];rfl
@[simp] def bg.asP(H:bg)(B):(H.add B).next=H.next+1:=rfl
@[simp] def bg.ata(H:bg)(a)(B):(H.put a B).next=H.next:=rfl
def bg.VU{H:bg}{B}{a}(h:fv H.next)(aC:fv a):(H.add B).get a=if a=H.next then B else H.get a:=by show(H.put H.next B).get a=_;simp_all[bg.pR]
def bg.Xj{H:bg}{B}{a}(h:fv H.next)(aC:a<H.next):(H.add B).get a=H.get a:=by rw[bg.VU h I,cO I]
def bg.ako{H:bg}{B}(h:fv H.next):(H.add B).get H.next=B:=by simp_all[bg.VU]
def bg.IZ{H:bg}{B}{a}(h:fv a):(H.put a B).get a=B:=by simp_all[bg.pR]
def bg.sh{H:bg}{B}{a bz}(h:fv a)(cz:fv bz)(ed:bz≠a):(H.put a B).get bz=H.get bz:=by simp_all[bg.pR]
structure ai(H az:bg)(d:Nat):Prop where
 next:H.next<=az.next
 le:az.next<=H.next+d
 same:∀a,a<H.next->az.get a=H.get a
def ai.refl(H)(d):ai H H d:=⟨fI _,I,λ_ _=>rfl⟩
def ai.trans{ie}(h:ai H cM d)(cz:ai cM ie cC):ai H ie (d+cC):=
 ⟨nR h.next cz.next,by have:=h.le;have:=cz.le;omega,λa aC=>(cz.same a (pD aC h.next)).trans (h.same a aC)⟩
def ai.mono(h:ai H cM d)(aY:d<=cC):ai H cM cC:=⟨h.next,by have:=h.le;omega,h.same⟩
def ai.add{H}(B)(h:fv H.next):ai H (H.add B) 1:=⟨by simp,by simp,λa aC=>bg.Xj h aC⟩
def ai.put{H cM}{d a}{B}(h:ai H cM d)(aC:H.next<=a)(Y:fv a):ai H (cM.put a B) d:=
 ⟨h.next,h.le,λb aB=>by rw[bg.sh Y I I];exact h.same b aB⟩
section
variable{P:Program}{E:Nat->aO}{ext:Nat->Option eS}{X:Nat->Option E0}
end
def YK{T b}(h:T.ah=[]):tM T b=b:=by unfold tM;rw[h];rfl
@[simp] def asU{α}(a)(l:List α)(e)(k:α->List α->Bool):kM (a::l) e k=k a l:=rfl
def AN(n)(l:cx)(k):kD (.agg n l) n k=k l:=by show bd (Nat.beq n n) (k l) false=k l;simp_all
end Go.Ev
