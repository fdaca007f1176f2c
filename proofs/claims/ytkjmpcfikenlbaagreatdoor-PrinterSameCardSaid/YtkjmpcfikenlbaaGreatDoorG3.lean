/- A part. -/
import Derived.Test.YtkjmpcfikenlbaaGreatDoorG2
set_option linter.all false
namespace Go.Tx
open Go Go.Ev
def xf(ci:aO)(acc:List Acc)(a8:aO)(E:bK)(A:bf):Option (bK×bf):=st acc a8 ((c8.mk [] E A).fZ ci).E ((c8.mk [] E A).fZ ci).A
def ahm{dQ ci a8}{acc}{E fe:bK}{A bE}{k}(h:xf ci acc a8 (forget E dQ) A=some (fe,bE))(ar:k2 id fe λE=>lA bE λA=>k E A):oO (some ⟨dQ,ci,acc,a8⟩) E A k:=by have:=acz (dQ:=[]) h ar;unfold oO at this ⊢;simp only[Ec,yP,xH,zb]at this ⊢;exact this
def abb{dQ ci a8}{acc}{a9:(bK->bf->Prop)->bK->bf->Prop}{fm:bK}{iu}{α:Type}(e7:α->List (Nat×a2))(T:α->bf)(pb:α->Nat)(fL:α->Prop)(br:∃a,fL a/\xf ci acc a8 (forget fm dQ) iu=some (forget (iF fm (e7 a)) dQ,T a))(ap:∀a (ba),fL a->(∀bz fe bE,pb bz<pb a->fL bz->xf ci acc a8 (forget fe dQ) bE=some (forget (iF fm (e7 bz)) dQ,T bz)->ba fe bE)->k2 id (forget (iF fm (e7 a)) dQ) λE=>lA (T a) λA=>a9 ba E A):sk (λba E A=>oO (some ⟨dQ,ci,acc,a8⟩) E A λE A=>a9 ba E A) fm iu:=by have⟨a,D,F⟩:=br;refine Q6 (λm E A=>∃a,m=pb a/\fL a/\xf ci acc a8 (forget E dQ) A=some (forget (iF fm (e7 a)) dQ,T a)) ⟨_,a,rfl,D,F⟩ ?_;rintro m ba E A ⟨a,rfl,aj,an⟩ bt;exact ahm an (ap a ba aj λbz fe bE bC aX b4=>bt _ _ _ bC ⟨bz,rfl,aX,b4⟩)
def ahC{dQ ci a8}{acc}{a9:(bK->bf->Prop)->bK->bf->Prop}{fm:bK}{iu}{α fH:Type}(f:α->di)(l:List α)(p)(e7:List α->fH->List (Nat×a2))(T:List α->fH->bf)(fL:List α->fH->Prop)(br:∃b,fL [] b/\xf ci acc a8 (forget fm dQ) iu=some (forget (iF fm ((p,.J (.int 3 0))::e7 [] b)) dQ,T [] b))(ap:∀d b x r (ba),l=d++x::r->d.length<(l.map f).length->fT (l.map f) d.length=f x->fL d b->(∀ep fe bE,fL (d++[x]) ep->xf ci acc a8 (forget fe dQ) bE=some (forget (iF fm ((p,.J (.int 3 (d.length+1)))::e7 (d++[x]) ep)) dQ,T (d++[x]) ep)->ba fe bE)->k2 id (forget (iF fm ((p,.J (.int 3 d.length))::e7 d b)) dQ) λE=>lA (T d b) λA=>a9 ba E A)(aw:∀b (ba),fL l b->k2 id (forget (iF fm ((p,.J (.int 3 (l.map f).length))::e7 l b)) dQ) λE=>lA (T l b) λA=>a9 ba E A):sk (λba E A=>oO (some ⟨dQ,ci,acc,a8⟩) E A λE A=>a9 ba E A) fm iu:=by
 have⟨mL,D,F⟩:=br;refine abb (α:={d:List α // ∃r,l=d++r}×fH) (λd=>(p,.J (.int 3 d.1.1.length))::e7 d.1.1 d.2) (λd=>T d.1.1 d.2) (λd=>l.length - d.1.1.length) (λd=>fL d.1.1 d.2) ⟨⟨⟨[],l,rfl⟩,mL⟩,D,F⟩ ?_;rintro⟨⟨d,r,rfl⟩,b⟩ ba a7 bt;cases r with
 |nil=>have:=aw b ba (by rw[kE];exact a7);rw[ex]at this;simp only[kE]at this ⊢;exact this
 |cons x r=>refine ap d b x r ba rfl (by simp) (k6 f d x r) a7 λep fe bE D F=>?_;refine bt ⟨⟨d++[x],r,by simp⟩,ep⟩ fe bE (by simp;omega) D ?_;simpa using F
def aoV{dQ ci a8}{acc}{a9:(bK->bf->Prop)->bK->bf->Prop}{fm:bK}{iu}{α fH:Type}(f:α->di)(l:List α)(p)(e7:List α->fH->List (Nat×a2))(T:List α->fH->bf)(fL:List α->fH->Prop)(br:∃b,fL [] b/\xf ci acc a8 (forget fm dQ) iu=some (forget (iF fm ((p,.J (.int 3 0))::e7 [] b)) dQ,T [] b))(ap:∀d b x r (ba),l=d++x::r->d.length<(l.map f).length->fT (l.map f) d.length=f x->fL d b->(∀ep fe bE,fL (d++[x]) ep->xf ci acc a8 (forget fe dQ) bE=some (forget (iF fm ((p,.J (.int 3 (d.length+1)))::e7 (d++[x]) ep)) dQ,T (d++[x]) ep)->ba fe bE)->xj fm ((p,.J (.int 3 d.length))::e7 d b) λE=>v5 E dQ λE=>k2 id E λE=>lA (T d b) λA=>a9 ba E A)(aw:∀b (ba),fL l b->xj fm ((p,.J (.int 3 (l.map f).length))::e7 l b) λE=>v5 E dQ λE=>k2 id E λE=>lA (T l b) λA=>a9 ba E A):sk (λba E A=>oO (some ⟨dQ,ci,acc,a8⟩) E A λE A=>a9 ba E A) fm iu:=
 ahC f l p e7 T fL br (λd b x r ba D F aq aL bO=>Gx (ap d b x r ba D F aq aL bO)) (λb ba h=>Gx (aw b ba h))
abbrev vd(l:List (Nat×qq)):Nat->Nat->Option qq:=λ_ id=>match l with
 |[(_,h)]=>some h|l=>(l.find? λq=>Nat.beq q.1 id).map λq=>q.2
set_option maxRecDepth 100000
set_option maxHeartbeats 8000000
attribute [local irreducible] eo eA bU eE eJ eN cU eX
section
variable{C:Nat->cE}{ext:Nat->Option eS}{Q:e9}(aa:Env C ext Q)
include aa
structure oU where
 ay:bj
 g:Nat
 bX:List al
def oU.row(c:oU):di:=[.int 3 9,.str c.ay,.str [],.int 3 0,.aH c.g (c.bX.map al.row),.aH 1 [],.aH 1 [],.aH 1 [],.str [],.aH 1 [],.int 3 0]
structure ads(K:Nat)(c:oU):Prop where
 ay:c.ay.length<=300
 len:c.bX.length<=5
 bL:∀t∈c.bX,GT K t
 yK:hJ 43 c.g c.bX
variable{g:Nat}
variable(aS:jW Q)(p:sj)(V:List cG)(K L d m gJ:Nat)(aQ:so p V K L)(gP:K<=300)(cB:L<=1000)(aY:0<d)(g1:d<=100)(hm:0<m)(kZ:4<=gJ)(bY:tE C g Q (d - 1) m (K+10) (L+10) gJ)
include aS aQ gP cB aY g1 hm kZ bY
abbrev ajL:Nat->Nat->Option qq:=vd [(0,⟨[8,9,10,11,12,13,14,15,16,24,25,26,27,28,29,30,31,32,33,34,35,36,37,38,39,40,41,42,43,44,45],[],[⟨false,7,0,900,45,11⟩],[5,8,900,1000,1001]⟩),(2,⟨[9,10,11,12,13,14,15,16,29,30,31,32,33,34,35,36,37,38,39,40,41,42,43,44,45],[],[⟨false,7,0,900,45,11⟩],[5,8,12,900,1000,1001]⟩),(4,⟨[11,34],[],[⟨false,7,0,900,45,11⟩,⟨false,10,0,901,9,1⟩],[5,8,12,14,900,901,1000,1001]⟩),(6,⟨[10,14,15,16,40,41,42,43,44],[110],[⟨false,7,0,900,45,11⟩],[5,8,12,14,900,1000,1001]⟩),(8,⟨[16,44],[],[⟨false,7,0,900,45,11⟩],[5,8,12,14,21,900,1000,1001]⟩),(10,⟨[20,50],[],[⟨false,19,0,902,9,1⟩],[8,24,25,902,1000,1001]⟩)]
theorem PM(t)(au:GT K t)(eL left next a)(aC:a<=Q.length)(aD:next+400*m<=1000000000000000):bU C [] 148 [.bN 1000 0,.J (.agg t.cells),.J (.aH eL (V.map cG.row)),.J (.int 3 d)] [(1000,iU p left next),(1001,dD g Q a)] (Made p g Q (next+190*m) λv=>∃e ok,v=.gy [.agg (ai.cells e),.bool ok]/\GE (gJ+1) e):=by
 refine aa.z 148 ajL rfl rfl ?_;have bq:=aQ.ok;have er:(p.W.map cZ.cells).length=p.W.length:=bW;have aoM:=bq.ef;have agl:=bq.LN;have arM:=bq.hQ
 (conv=>whnf)
 repeat(refine bZ ?_;conv=>whnf)
 refine hs cZ.cells p.W 23 (λ_ (_:List oU×Nat×Nat×Nat)=>[(7,.bD 900)]) (λ_ b=>[(5,.box 43 2 (.cb t.cells)),(8,mR),(900,.bF 45 11 (b.1.map oU.row) true),(1000,iU p b.2.1 b.2.2.1),(1001,dD g Q b.2.2.2)]) (λN b=>b.1.length<=100*N.length/\(∀c∈b.1,ads (K+4) c)/\b.2.2.1<=next/\b.2.2.2<=Q.length) ⟨([],left,next,a),⟨by simp,(λ_ h=>by cases h),Nat.le_refl _,aC⟩,by kernel_rfl⟩ (λN b y r ba aw be ag a7 bt=>?_) (λb ba a7=>?_)
 .have aE:=bq.ck y (by simp[aw]);have kG:N.length<p.W.length:=I;have c4:(y.funcs.map cu.row).length=y.funcs.length:=bW;have fJ:=aE.fJ;have yi:=aE.ay
  (conv=>whnf)
  repeat((first|refine .yes (dg.2 be) ?_|refine⟨be,⟨_,ag,?_⟩⟩|refine bZ ?_);(conv=>whnf))
  refine eQ (cQ (λD=>?_) (λD=>?_));case' refine_1.refine_2=>
   (conv=>whnf)
   repeat(refine bZ ?_;conv=>whnf)
   refine aW (J6 aa p.hQ p.jY y.ay I) ?_;rintro v A ⟨rfl,V5,rfl⟩
   (conv=>whnf)
   repeat(refine bZ ?_;conv=>whnf)
   refine eQ (eO (λF=>?_) (λF=>?_))
  case' refine_1.refine_2.refine_2=>
   (conv=>whnf)
   repeat(refine bZ ?_;conv=>whnf)
   exact bt b _ _ ⟨by simp only[List.length_append,List.length_singleton];have:=a7.1;omega,a7.2⟩ (by kernel_rfl)
  all_goals
   have AS:=a7.1
   (conv=>whnf)
   repeat(refine bZ ?_;conv=>whnf)
   refine hs cu.row y.funcs 28 (λ_ (_:List oU×Nat×Nat×Nat)=>[(7,.bD 900)]) (λ_ b=>[(5,.box 43 2 (.cb t.cells)),(8,mR),(12,.box 34 9 (.cb y.cells)),(900,.bF 45 11 (b.1.map oU.row) true),(1000,iU p b.2.1 b.2.2.1),(1001,dD g Q b.2.2.2)]) (λd2 b=>b.1.length<=100*N.length+d2.length/\(∀c∈b.1,ads (K+4) c)/\b.2.2.1<=next/\b.2.2.2<=Q.length) ⟨b,⟨by simpa using a7.1,a7.2⟩,by kernel_rfl⟩ (λd2 dp f b3 gl fb ft ct dq fj=>?_) (λdp gl dq=>?_)
   .have a1:=aE.gB f (by simp[fb]);have alF:d2.length<y.funcs.length:=I;have be:=ft;have ag:=ct;have bC:(dp.1.map oU.row).length=dp.1.length:=bW;have aX:(f.dB.map c3.row).length=f.dB.length:=bW;have b4:=a1.hQ;have dc:=a1.ay;have⟨dR,du,gq,fN⟩:=dq;unfold cu.row at ag;simp only[List.cons_append,List.nil_append]at ag
    (conv=>whnf)
    repeat((first|refine .yes (dg.2 be) ?_|refine⟨be,⟨_,ag,?_⟩⟩|refine bZ ?_);(conv=>whnf))
    first
    |refine eQ (cQ (λ_=>?_) (λh=>absurd D h))
     (conv=>whnf)
     repeat(refine bZ ?_;conv=>whnf)
     refine cQ (λaq=>?_) (λaq=>?_)
    |refine eQ (cQ (λh=>absurd h D) (λ_=>?_))
     (conv=>whnf)
     repeat(refine bZ ?_;conv=>whnf)
     refine eQ (eO (λaq=>?_) (λaq=>?_))
    all_goals
     (conv=>whnf)
     repeat(refine bZ ?_;conv=>whnf)
    all_goals try
     refine cQ (λaq=>?_) (λaq=>?_)
    all_goals
     (conv=>whnf)
     repeat(refine bZ ?_;conv=>whnf)
    all_goals try exact fj dp _ _ ⟨by simp only[List.length_append,List.length_singleton];omega,du,gq,fN⟩ (by kernel_rfl)
    all_goals
     refine hs c3.row f.dB 33 (λ_ (_:List bj)=>[(10,.bD 901),(7,.bD 900)]) (λ_ fs=>[(5,.box 43 2 (.cb t.cells)),(8,mR),(12,.box 34 9 (.cb y.cells)),(14,.box 49 20 (.cb (cu.row f))),(900,.bF 45 11 (dp.1.map oU.row) true),(901,.bF 9 1 (fs.map b6) true),(1000,iU p dp.2.1 dp.2.2.1),(1001,dD g Q dp.2.2.2)]) (λd4 fs=>fs.length=d4.length) ⟨[],rfl,by kernel_rfl⟩ (λd4 fs z my wR Dv ym qx n8 qC=>?_) (λfs wR n8=>?_)
     .have TE:d4.length<f.dB.length:=I;have oy:(fs.map b6).length=fs.length:=bW;have be:=ym;have ag:=qx;unfold c3.row at ag
      (conv=>whnf)
      repeat((first|refine .yes (dg.2 be) ?_|refine⟨be,⟨_,ag,?_⟩⟩|refine da ?_);(conv=>whnf))
      exact qC (fs++[z.ay]) _ _ (by simp[n8]) (by rw[List.map_append];kernel_rfl)
     .have V7:fs.length=f.dB.length:=n8;have oy:(fs.map b6).length=fs.length:=bW
      (conv=>whnf)
      repeat((first|refine .no (pe _) ?_|refine bZ ?_);(conv=>whnf))
      refine aW (apG aa K 5 I af f.eW a1.eW t au _ fs I) ?_;rintro v A ⟨rfl,cp,fJ,rj,rfl,QB,afx,ali⟩
      (conv=>whnf)
      repeat(refine bZ ?_;conv=>whnf)
      refine eQ (eO (λVd=>?_) (λVd=>?_));case' refine_1=>
       subst Vd;obtain⟨yl,Ns⟩:∃yl:Nat,yl=cp:=⟨_,rfl⟩;obtain⟨kQ,aP⟩:∃kQ:Nat,kQ=dp.2.1:=⟨_,rfl⟩;obtain⟨l7,a3⟩:∃kQ:Nat,kQ=dp.2.2.1:=⟨_,rfl⟩;obtain⟨yq,cW⟩:∃kQ:Nat,kQ=dp.2.2.2:=⟨_,rfl⟩;have t7:l7<=next:=by rw[a3];exact gq
       have M7:yq<=Q.length:=by rw[cW];exact fN
       have aj1:fJ.length=f.dB.length:=by rw[QB rfl,V7]
       have Ua:∀t∈fJ,GT (K+4) t:=λt h=>(afx t h).mono I;have abF:hJ 43 yl fJ:=by rw[Ns];exact ali
       (conv=>whnf)
       repeat(refine bZ ?_;conv=>whnf)
      case' refine_2=>
       subst Vd
       (conv=>whnf)
       repeat(refine bZ ?_;conv=>whnf)
       refine ch (λwZ=>?_) (λwZ=>?_)
      case' refine_2.refine_2=>
       (conv=>whnf)
       repeat(refine bZ ?_;conv=>whnf)
       exact fj dp _ _ ⟨by simp only[List.length_append,List.length_singleton];omega,du,gq,fN⟩ (by kernel_rfl)
      case' refine_2.refine_1=>
       (conv=>whnf)
       repeat(refine bZ ?_;conv=>whnf)
       refine aW (Ah aa aS p bq dp.2.1 dp.2.2.1 dp.2.2.2 fN) ?_;rintro v A ⟨⟨on,rfl,mb⟩,yq,kQ,l7,M7,as8,rfl⟩;have t7:l7<=next:=I
       (conv=>whnf)
       repeat(refine bZ ?_;conv=>whnf)
       refine aW (Hd aa 5 K f.eW t a1.eW au) ?_;rintro v A ⟨rfl,cQ,rfl⟩
       (conv=>whnf)
       repeat(refine bZ ?_;conv=>whnf)
       refine eQ (eO (λYm=>?_) (λYm=>?_))
      case' refine_2.refine_1.refine_2=>
       (conv=>whnf)
       repeat refine bZ ?_;(conv=>whnf)
       exact fj (dp.1,kQ,l7,yq) _ _ ⟨by simp only[List.length_append,List.length_singleton];omega,du,t7,M7⟩ (by kernel_rfl)
      case' refine_2.refine_1.refine_1=>
       subst Ym;obtain⟨yl,Ns⟩:∃yl:Nat,yl=86:=⟨_,rfl⟩;have aP:kQ=kQ:=rfl;have a3:l7=l7:=rfl;have cW:yq=yq:=rfl;rw[mO on];obtain⟨fJ,mm⟩:∃l:List al,l=[on]:=⟨_,rfl⟩;rw[<-mm];have aj1:fJ.length=f.dB.length:=by rw[mm,<-V7,<-oy];exact wZ.symm
       have Ua:∀t∈fJ,GT (K+4) t:=λt h=>by rw[mm]at h;rw[List.mem_singleton.1 h];exact mb.mono I
       have abF:hJ 43 yl fJ:=.inr (by rw[Ns])
       (conv=>whnf)
       repeat refine bZ ?_;(conv=>whnf)
      all_goals
       have yE:(fJ.map al.row).length=fJ.length:=bW
       refine aoV c3.row f.dB 39 (λ_ (ok:Bool)=>[(12,.J (.aH yl (fJ.map al.row))),(13,.J (.bool ok))]) (λ_ _=>[(5,.box 43 2 (.cb t.cells)),(8,mR),(12,.box 34 9 (.cb y.cells)),(14,.box 49 20 (.cb (cu.row f))),(900,.bF 45 11 (dp.1.map oU.row) true),(1000,iU p kQ l7),(1001,dD g Q yq)]) (λ_ _=>True) ⟨true,trivial,by cases aP;cases a3;cases cW;cases Ns;kernel_rfl⟩ (λd6 ok z PO alU aoL alt Xl agR aqc=>?_) (λok alU agR=>?_)
       .have atK:d6.length<f.dB.length:=I;have cA:=a1.ge z (by simp[aoL]);have be:=alt;have ag:=Xl;unfold c3.row at ag;have dm:(z.ec.map b6).length=z.ec.length:=bW;have gV:=cA.len;have aau:d6.length<(fJ.map al.row).length:=I;have⟨ej,ai1,W7⟩:=nU al.row aau;rw[al.dN]at W7;refine dk ?_;refine hs b6 z.ec 43 (λ_ (ok:Bool)=>[(13,.J (.bool ok))]) (λ_ _=>[(5,.box 43 2 (.cb t.cells)),(8,mR),(12,.box 34 9 (.cb y.cells)),(14,.box 49 20 (.cb (cu.row f))),(21,.box 132 2 (.cb z.row)),(900,.bF 45 11 (dp.1.map oU.row) true),(1000,iU p kQ l7),(1001,dD g Q yq)]) (λ_ _=>True) ⟨ok,trivial,by kernel_rfl⟩ (λasi ok s atF alZ J2 Ln Q5 ar7 afd=>?_) (λok alZ ar7=>?_)
        .have atO:asi.length<z.ec.length:=I;unfold b6 at Q5;cases ok with
         |false=>
          (conv=>whnf)
          repeat(first|refine .yes (dg.2 Ln) ?_|refine⟨Ln,⟨_,Q5,?_⟩⟩|refine bZ ?_);(conv=>whnf)
          exact afd false _ _ trivial (by kernel_rfl)
         |true=>
          (conv=>whnf)
          repeat(first|refine .yes (dg.2 Ln) ?_|refine⟨Ln,⟨_,Q5,?_⟩⟩|refine⟨aau,⟨_,W7,?_⟩⟩|refine bZ ?_);(conv=>whnf)
          refine aW (QN aa p.W bq.ck bq.ef p.iD p.hN p.G I bq.ge (K+4) I s ej (Ua ej ai1)) ?_;rintro v A ⟨rfl,XH,rfl⟩
          (conv=>whnf)
          repeat refine bZ ?_;(conv=>whnf)
          exact afd XH _ _ trivial (by kernel_rfl)
        .refine dd ?_;exact aqc ok _ _ trivial (by kernel_rfl)
       .refine dd ?_;refine eO (λa4=>?_) (λa4=>?_)
        .refine bw ?_;exact fj (dp.1++[⟨y.ay++[46]++f.ay,yl,fJ⟩],kQ,l7,yq) _ _ ⟨by simp only[List.length_append,List.length_singleton];omega,λc aQ=>by
          rcases List.mem_append.1 aQ with aQ|aQ
          .exact du c aQ
          .rw[List.mem_singleton.1 aQ];exact⟨by simp only[List.length_append,List.length_singleton];omega,by show fJ.length<=5;omega,Ua,abF⟩,t7,M7⟩ (by rw[List.map_append];kernel_rfl)
        ·(conv=>whnf)
         repeat refine bZ ?_;(conv=>whnf)
         exact fj (dp.1,kQ,l7,yq) _ _ ⟨by simp only[List.length_append,List.length_singleton];omega,du,t7,M7⟩ (by kernel_rfl)
   .have⟨dR,du,gq,fN⟩:=dq;have dR:dp.1.length<=100*N.length+y.funcs.length:=dR;refine dd ?_;exact bt dp _ _ ⟨by simp only[List.length_append,List.length_singleton];omega,du,gq,fN⟩ (by kernel_rfl)
 .have⟨dR,du,gq,fN⟩:=a7;have dR:b.1.length<=100*p.W.length:=dR;have bC:(b.1.map oU.row).length=b.1.length:=bW;refine dd ?_;refine ch (λaqu=>?_) (λaqu=>?_)
  .refine bw ?_;exact⟨⟨ai.nil,false,rfl,q5.mono I⟩,b.2.2.2,b.2.1,b.2.2.1,fN,I,rfl⟩
  refine N ?_;refine aW (dy aa aS b.2.2.2 (b.1.map oU.row).length fN I I) ?_;rintro v A ⟨⟨r,rfl,ag⟩,bu,cy,rfl⟩;have⟨c,ahs,afb⟩:=U1 oU.row ag;have C8:=du c ahs;have auy:=C8.ay;unfold oU.row at afb
  (conv=>whnf)
  repeat(first|refine bV.mk ag ?_|refine⟨_,afb,?_⟩|refine bZ ?_);(conv=>whnf)
  refine aW (ald aa p.W bq.ck bq.ef p.iD c.ay I) ?_;rintro v A ⟨rfl,f,atN,rfl,a1⟩;have aX:(f.dB.map c3.row).length=f.dB.length:=bW;have b4:=a1.hQ;refine bw ?_;refine hs c3.row f.dB 49 (λ_ (_:List bj)=>[(19,.bD 902)]) (λ_ fs=>[(8,mR),(24,.box 45 11 (.cb (oU.row c))),(25,.box 49 20 (.cb (cu.row f))),(902,.bF 9 1 (fs.map b6) true),(1000,iU p b.2.1 b.2.2.1),(1001,dD g Q bu)]) (λd4 fs=>fs.length=d4.length) ⟨[],rfl,by kernel_rfl⟩ (λd4 fs z my wR Dv ym qx n8 qC=>?_) (λfs wR n8=>?_)
  .have TE:d4.length<f.dB.length:=I;have oy:(fs.map b6).length=fs.length:=bW;have be:=ym;have ag:=qx;unfold c3.row at ag;refine zL ?_;exact qC (fs++[z.ay]) _ _ (by simp[n8]) (by rw[List.map_append];kernel_rfl)
  .have V7:fs.length=f.dB.length:=n8;refine dd ?_;refine aW (art aa aS p V K L d m gJ aQ gP cB aY g1 hm kZ bY f.an f.args a1.jI a1.jO _ fs I c.g c.bX (by have:=C8.len;omega) C8.bL eL b.2.1 b.2.2.1 bu cy I) ?_;rintro v A ⟨⟨Rn,g0,rfl,M1⟩,b1,c9,dm,dl,mu,rfl⟩;refine bw ?_;exact⟨⟨_,true,ai.D1 rfl mG lm rfl,kY af C8.ay af af ⟨C8.len,λt h=>(C8.bL t h).mono I,C8.yK⟩ km.nil kP.nil M1⟩,b1,c9,dm,dl,I,rfl⟩
end
section
variable{C:Nat->cE}{ext:Nat->Option eS}{Q:e9}(aa:Env C ext Q)
include aa
variable{g:Nat}
variable(aS:jW Q)(p:sj)(V:List cG)(K L d m gJ:Nat)(aQ:so p V K L)(gP:K<=300)(cB:L<=1000)(aY:0<d)(g1:d<=100)(hm:0<m)(kZ:4<=gJ)(bY:tE C g Q (d - 1) m (K+10) (L+10) gJ)
include aS aQ gP cB aY g1 hm kZ bY
theorem vy(t)(au:GT K t)(eL left next a)(aC:a<=Q.length)(aD:next+400*m<=1000000000000000):bU C [] 154 [.bN 1000 0,.J (.agg t.cells),.J (.aH eL (V.map cG.row)),.J (.int 3 d)] [(1000,iU p left next),(1001,dD g Q a)] (Made p g Q (next+195*m) λv=>∃e,v=.agg (ai.cells e)/\GE (gJ+1) e):=by
 refine aa.z 154 (vd [(1,⟨[29],[],[⟨true,10,7,900,45,11⟩],[5,8,10,900,1000,1001]⟩),(3,⟨[13,14,34,35,36],[],[⟨true,14,5,900,9,1⟩,⟨true,14,7,901,45,11⟩],[5,8,12,14,900,901,1000,1001]⟩),(5,⟨[15,40,41],[],[⟨true,14,5,900,9,1⟩,⟨true,14,7,901,45,11⟩],[5,8,12,14,900,901,1000,1001]⟩),(7,⟨[16,45,46],[],[],[5,8,12,1000,1001]⟩),(9,⟨[21,51],[],[⟨true,25,7,900,45,11⟩],[5,8,22,25,900,1000,1001]⟩)]) rfl rfl ?_;have bq:=aQ.ok;have iZ:=aQ.up (x9:=K+10) (gD:=L+10) I I;have t0:=au.ay;have tN:=aQ.tN;have nk:∀(x:al),GT 5 x->GT (K+10) x:=λx h=>h.mono I;have x6:=au.mono (j:=K+10) I;have q6:GT (K+10) (al.mk [73,110,116] 1 []):=GT.nil af af I
 (conv=>whnf)
 repeat(refine bZ ?_;conv=>whnf)
 refine cQ (λh=>?_) (λh=>?_)
 ·(conv=>whnf)
  repeat(refine bZ ?_;conv=>whnf)
  refine aW (afn aa aS p V K L d m gJ aQ gP cB aY g1 hm kZ bY eL left next a aC aD) ?_;rintro v A ⟨⟨e,rfl,aw⟩,b1,c9,dm,dl,mu,rfl⟩
  (conv=>whnf)
  repeat(refine da ?_;conv=>whnf)
  exact⟨⟨e,rfl,aw⟩,b1,c9,dm,dl,I,rfl⟩
 (conv=>whnf)
 repeat(refine bZ ?_;conv=>whnf)
 refine cQ (λh=>?_) (λh=>?_)
 ·(conv=>whnf)
  repeat(refine bZ ?_;conv=>whnf)
  refine aW (ky aa _) ?_;rintro v A ⟨rfl,rfl⟩
  (conv=>whnf)
  repeat(refine bZ ?_;conv=>whnf)
  refine aW (bY p V iZ _ q6 eL left next a aC I) ?_;rintro v A ⟨⟨e,rfl,aw⟩,b1,c9,dm,dl,mu,rfl⟩
  (conv=>whnf)
  repeat(refine da ?_;conv=>whnf)
  exact⟨⟨_,ai.agg pm mG lm (pF e),kY af af af af jP.nil km.nil kP.nil (ks.one af aw)⟩,b1,c9,dm,dl,I,rfl⟩
 (conv=>whnf)
 repeat(refine bZ ?_;conv=>whnf)
 refine cQ (λh=>?_) (λh=>?_)
 ·(conv=>whnf)
  repeat(refine bZ ?_;conv=>whnf)
  refine aW (dy aa aS a 2 aC af af) ?_;rintro v A ⟨⟨r,rfl,ag⟩,bk,cY,rfl⟩
  (conv=>whnf)
  repeat(refine bZ ?_;conv=>whnf)
  refine ch (λh=>?_) (λh=>?_)
  ·(conv=>whnf)
   repeat(refine bZ ?_;conv=>whnf)
   refine aW (ky aa _) ?_;rintro v A ⟨rfl,rfl⟩
   (conv=>whnf)
   repeat(refine bZ ?_;conv=>whnf)
   refine aW (bY p V iZ _ q6 eL left next bk cY I) ?_;rintro v A ⟨⟨e,rfl,aw⟩,b1,c9,dm,dl,mu,rfl⟩
   (conv=>whnf)
   repeat(refine bZ ?_;conv=>whnf)
   refine aW (ky aa _) ?_;rintro v A ⟨rfl,rfl⟩
   (conv=>whnf)
   repeat(refine bZ ?_;conv=>whnf)
   refine aW (bY p V iZ _ q6 eL c9 dm b1 dl I) ?_;rintro v A ⟨⟨a3,rfl,fb⟩,cP,eg,fp,gz,qj,rfl⟩
   (conv=>whnf)
   repeat(refine da ?_;conv=>whnf)
   exact⟨⟨_,ai.agg pm mG lm (mM e a3),kY af af af af jP.nil km.nil kP.nil (ks.two af aw fb)⟩,cP,eg,fp,gz,I,rfl⟩
  ·(conv=>whnf)
   repeat(refine bZ ?_;conv=>whnf)
   refine aW (Ah aa aS p bq left next bk cY) ?_;rintro v A ⟨⟨on,rfl,mb⟩,bu,cq,cl,cy,kr,rfl⟩
   (conv=>whnf)
   repeat(refine bZ ?_;conv=>whnf)
   refine aW (bY p V iZ on (mb.mono I) eL cq cl bu cy I) ?_;rintro v A ⟨⟨e,rfl,aw⟩,b1,c9,dm,dl,mu,rfl⟩
   (conv=>whnf)
   repeat(refine bZ ?_;conv=>whnf)
   refine aW (bY p V iZ on (mb.mono I) eL c9 dm b1 dl I) ?_;rintro v A ⟨⟨a3,rfl,fb⟩,cP,eg,fp,gz,qj,rfl⟩
   (conv=>whnf)
   repeat(refine da ?_;conv=>whnf)
   exact⟨⟨_,ai.agg pm mG lm (mM e a3),kY af af af af jP.nil km.nil kP.nil (ks.two af aw fb)⟩,cP,eg,fp,gz,I,rfl⟩
 (conv=>whnf)
 repeat(refine bZ ?_;conv=>whnf)
 refine cQ (λh=>?_) (λh=>?_)
 .have⟨fc,gv⟩:=Js au h;have⟨y,aE,ag⟩:=nU al.row fc;have Pu:=(gv y aE).mono (j:=K+10) I;rw[al.dN]at ag
  (conv=>whnf)
  repeat(refine bZ ?_;conv=>whnf)
  refine aW (wQ aa aS a 3 aC af af) ?_;rintro v A ⟨⟨sd,rfl⟩,bk,cY,rfl⟩
  (conv=>whnf)
  repeat(refine bZ ?_;conv=>whnf)
  refine eO (λh=>?_) (λh=>?_)
  ·(conv=>whnf)
   repeat((first|refine⟨fc,⟨_,ag,?_⟩⟩|refine bZ ?_);(conv=>whnf))
   refine aW (bY p V iZ t x6 eL left next bk cY I) ?_;rintro v A ⟨⟨e,rfl,aw⟩,b1,c9,dm,dl,mu,rfl⟩
   (conv=>whnf)
   repeat((first|refine⟨fc,⟨_,ag,?_⟩⟩|refine bZ ?_);(conv=>whnf))
   refine aW (bY p V iZ y Pu eL c9 dm b1 dl I) ?_;rintro v A ⟨⟨a3,rfl,fb⟩,cP,eg,fp,gz,qj,rfl⟩
   (conv=>whnf)
   repeat(refine da ?_;conv=>whnf)
   exact⟨⟨_,ai.agg pm mG lm (mM e a3),kY af af af af jP.nil km.nil kP.nil (ks.two af aw fb)⟩,cP,eg,fp,gz,I,rfl⟩
  ·(conv=>whnf)
   repeat((first|refine⟨fc,⟨_,ag,?_⟩⟩|refine da ?_);(conv=>whnf))
   refine aW (dy aa aS bk 4 cY af af) ?_;rintro v A ⟨⟨r,rfl,qx⟩,bu,cy,rfl⟩
   (conv=>whnf)
   repeat(refine da ?_;conv=>whnf)
   refine Rb (α:=Nat×List ai×Nat×Nat×Nat) (λb=>[(8,.J (.int 3 b.1))]) (λb=>[(5,.box 43 2 (.cb t.cells)),(8,mR),(10,.box 45 11 (.bS [.J (.int 3 16),.J (.str []),.J (.str []),.J (.int 3 0),.J (.aH 86 [y.cells]),.bx,.bx,.bD 900,.J (.str []),.bx,.J (.int 3 0)])),(900,.bF 45 11 (b.2.1.map ai.row) true),(1000,iU p b.2.2.1 b.2.2.2.1),(1001,dD g Q b.2.2.2.2)]) (λb=>b.1) (λb=>b.2.1.length+b.1<=3/\(∀k∈b.2.1,GE gJ k)/\b.2.2.2.1<=next+b.2.1.length*m/\b.2.2.2.2<=Q.length) ⟨(r,[],left,next,bu),⟨by show 0+r<=3;omega,(λ_ h=>by cases h),by show next<=next+0*m;omega,cy⟩,by kernel_rfl⟩ ?_;intro b ba a7 bt;have⟨dR,du,gq,fN⟩:=a7;have bC:(b.2.1.map ai.row).length=b.2.1.length:=bW;have aX:b.2.1.length*m<=3*m:=Nat.mul_le_mul_right _ I;have b4:(b.2.1.length+1)*m=b.2.1.length*m+m:=Nat.succ_mul ..
   (conv=>whnf)
   repeat(refine da ?_;conv=>whnf)
   refine eh (λh=>?_) (λh=>?_)
   ·(conv=>whnf)
    repeat((first|refine⟨fc,⟨_,ag,?_⟩⟩|refine da ?_);(conv=>whnf))
    refine aW (bY p V iZ y Pu eL _ _ _ fN I) ?_;rintro v A ⟨⟨e,rfl,kf⟩,b1,c9,dm,dl,mu,rfl⟩
    (conv=>whnf)
    repeat(refine da ?_;conv=>whnf)
    exact bt (b.1 - 1,b.2.1++[e],c9,dm,b1) _ _ (by show b.1 - 1<b.1;omega) ⟨by show(b.2.1++[e]).length+(b.1 - 1)<=3;simp only[List.length_append,List.length_singleton];omega,λy aE=>by
     rcases List.mem_append.1 aE with aE|aE
     .exact du y aE
     .rw[List.mem_singleton.1 aE];exact kf,by show dm<=next+(b.2.1++[e]).length*m;simp only[List.length_append,List.length_singleton];omega,dl⟩ (by rw[List.map_append,List.map_singleton,ai.dN];kernel_rfl)
   ·(conv=>whnf)
    repeat(refine da ?_;conv=>whnf)
    exact⟨⟨_,ai.agg (mO y) mG lm rfl,kY af af af af (jP.one af Pu I) km.nil kP.nil ⟨I,du,.inr af⟩⟩,b.2.2.2.2,b.2.2.1,b.2.2.2.1,fN,I,rfl⟩
 (conv=>whnf)
 repeat(refine bZ ?_;conv=>whnf)
 refine aW (N9 aa p.W bq.ck bq.ef p.iD t.ay I) ?_;rintro v A ⟨rfl,s,Uw,rfl,ap⟩;have bD:(s.fields.map eT.row).length=s.fields.length:=bW;have UA:=ap.hr;have fU:=ap.pl;have o2:=GT.GU au
 (conv=>whnf)
 repeat(refine bZ ?_;conv=>whnf)
 refine eO (λaqo=>?_) (λaqo=>?_);case' refine_2=>
  (conv=>whnf)
  repeat(refine bZ ?_;conv=>whnf)
 case' refine_1=>
  (conv=>whnf)
  repeat' ((first|(refine aW (EO aa aS p left next a aC t.ay I) ?_;rintro v A ⟨rfl,yc,rfl⟩)|(refine aW (dy aa aS a 4 aC af af) ?_;rintro v A ⟨⟨r,rfl,ag⟩,a,aC,rfl⟩)|refine da ?_|((with_reducible first|apply eh|apply jQ|apply ch|apply cQ|apply eQ|apply mr|apply mD|apply eO)<;>intros))<;>(conv=>whnf))
 all_goals try
  refine hs (a8:=[5,8,12,14,900,901,1000,1001]) eT.row s.fields 33 (λ_ (_:List bj×List ai×Nat×Nat×Nat)=>[]) (λ_ b=>[(5,.box 43 2 (.cb t.cells)),(8,mR),(12,.box 74 6 (.cb (dX.row s))),(14,.box 45 11 (.bS [.J (.int 3 11),.J (.str t.ay),.J (.str []),.J (.int 3 0),.J (.aH t.g (t.l.map al.row)),.bD 900,.bx,.bD 901,.J (.str []),.bx,.J (.int 3 0)])),(900,.bF 9 1 (b.1.map b6) true),(901,.bF 45 11 (b.2.1.map ai.row) true),(1000,iU p b.2.2.1 b.2.2.2.1),(1001,dD g Q b.2.2.2.2)]) (λN b=>b.1.length<=N.length/\(∀s∈b.1,s.length<=100)/\b.2.1.length<=N.length/\(∀k∈b.2.1,GE gJ k)/\b.2.2.2.1<=next+(N.length)*m/\b.2.2.2.2<=Q.length) ⟨([],[],left,next,a),⟨by simp,(λ_ h=>by cases h),by simp,(λ_ h=>by cases h),by simp,aC⟩,by kernel_rfl⟩ (λN b f r ba aw be ag a7 bt=>?_) (λb ba a7=>?_)
  .have⟨dR,du,gq,fN,kF,ut⟩:=a7;have bC:(b.1.map b6).length=b.1.length:=bW;have aX:(b.2.1.map ai.row).length=b.2.1.length:=bW;have kG:N.length<s.fields.length:=I;have b4:N.length*m<=5*m:=Nat.mul_le_mul_right _ I;have dc:(N.length+1)*m=N.length*m+m:=Nat.succ_mul ..;have adS:f∈s.fields:=by simp[aw]
   unfold eT.row at ag;obtain⟨gZ,jp,vU⟩:∃gZ,gZ<=Q.length/\gZ=b.2.2.2.2:=⟨_,ut,rfl⟩;rw[<-vU]
   (conv=>whnf)
   repeat((first|refine .yes (dg.2 be) ?_|refine⟨be,⟨_,ag,?_⟩⟩|refine da ?_);(conv=>whnf))
   refine eh (λD=>?_) (λD=>?_);case' refine_2=>
    (conv=>whnf)
    repeat(refine da ?_;conv=>whnf)
   case' refine_1=>
    (conv=>whnf)
    repeat(refine bZ ?_;conv=>whnf)
    refine aW (als aa aS gZ jp) ?_;rintro v A ⟨⟨Ry,rfl⟩,gZ,jp,rfl⟩
    (conv=>whnf)
    repeat(refine bZ ?_;conv=>whnf)
    refine eO (λF=>?_) (λF=>?_)
   case' refine_1.refine_1=>
    have ft:(s.fields.map eT.row).length - 1 - N.length<(s.fields.map eT.row).length:=I;have⟨f,adS,ct⟩:=nU eT.row ft;have ct:fT (s.fields.map eT.row) ((s.fields.map eT.row).length - 1 - N.length)=[.bool f.dr,.str f.ay,.str f.bL.ay,.aH f.bL.g (f.bL.l.map al.row)]:=ct
    (conv=>whnf)
    repeat((first|refine⟨ft,⟨_,ct,?_⟩⟩|refine da ?_);(conv=>whnf))
   case' refine_1.refine_2=>
    (conv=>whnf)
    repeat(refine da ?_;conv=>whnf)
   all_goals
    have AR:=ap.nw f adS
    refine aW (J6 aa _ b.1 f.ay I) ?_
    rintro v A ⟨rfl,V5,rfl⟩
    (conv=>whnf)
    repeat(refine da ?_;conv=>whnf)
    refine eO (λF=>?_) (λF=>?_)
    ·(conv=>whnf)
     repeat(refine da ?_;conv=>whnf)
     exact bt (b.1,b.2.1,b.2.2.1,b.2.2.2.1,gZ) _ _ ⟨by simp only[List.length_append,List.length_singleton];omega,du,by simp only[List.length_append,List.length_singleton];omega,fN,by simp only[List.length_append,List.length_singleton];omega,jp⟩ (by kernel_rfl)
    ·(conv=>whnf)
     repeat(refine da ?_;conv=>whnf)
     refine aW (xN aa K 5 I af f.bL AR.bL s.aj t.g s.params t.l I I (GT.sub au)) ?_;rintro v A ⟨rfl,ka,rfl,o0⟩
     (conv=>whnf)
     repeat(refine da ?_;conv=>whnf)
     refine aW (bY p V iZ ka (o0.mono I) eL _ _ _ jp I) ?_;rintro v A ⟨⟨e,rfl,kf⟩,cP,eg,uK,gz,qj,rfl⟩
     (conv=>whnf)
     repeat(refine da ?_;conv=>whnf)
     exact bt (b.1++[f.ay],b.2.1++[e],eg,uK,cP) _ _ ⟨by simp only[List.length_append,List.length_singleton];omega,λy aE=>by
      rcases List.mem_append.1 aE with aE|aE
      .exact du y aE
      .rw[List.mem_singleton.1 aE];exact AR.ay,by simp only[List.length_append,List.length_singleton];omega,λy aE=>by
      rcases List.mem_append.1 aE with aE|aE
      .exact fN y aE
      .rw[List.mem_singleton.1 aE];exact kf,by simp only[List.length_append,List.length_singleton];omega,gz⟩ (by rw[List.map_append,List.map_append,List.map_singleton,List.map_singleton,ai.dN];kernel_rfl)
  .have⟨dR,du,gq,fN,kF,ut⟩:=a7;have dR:b.1.length<=s.fields.length:=dR;have gq:b.2.1.length<=s.fields.length:=gq;have kF:b.2.2.2.1<=next+s.fields.length*m:=kF
   (conv=>whnf)
   repeat((first|refine .no (pe _) ?_|refine bZ ?_);(conv=>whnf))
   refine hs (a8:=[5,8,12,14,900,901,1000,1001]) eT.row s.fields 39 (λ_ (_:List bj×List ai×Nat×Nat×Nat)=>[]) (λ_ b=>[(5,.box 43 2 (.cb t.cells)),(8,mR),(12,.box 74 6 (.cb (dX.row s))),(14,.box 45 11 (.bS [.J (.int 3 11),.J (.str t.ay),.J (.str []),.J (.int 3 0),.J (.aH t.g (t.l.map al.row)),.bD 900,.bx,.bD 901,.J (.str []),.bx,.J (.int 3 0)])),(900,.bF 9 1 (b.1.map b6) true),(901,.bF 45 11 (b.2.1.map ai.row) true),(1000,iU p b.2.2.1 b.2.2.2.1),(1001,dD g Q b.2.2.2.2)]) (λN b=>b.1.length<=s.fields.length+N.length/\(∀s∈b.1,s.length<=100)/\b.2.1.length<=s.fields.length+N.length/\(∀k∈b.2.1,GE gJ k)/\b.2.2.2.1<=next+s.fields.length*m+N.length*m/\b.2.2.2.2<=Q.length) ⟨b,⟨dR,du,gq,fN,by simpa using kF,ut⟩,by kernel_rfl⟩ (λN hO f r alD aw be ag T1 ZO=>?_) (λhO alD T1=>?_)
   .have⟨cT,cN,el,e0,gB,Bl⟩:=T1;have bC:(hO.1.map b6).length=hO.1.length:=bW;have aX:(hO.2.1.map ai.row).length=hO.2.1.length:=bW;have kG:N.length<s.fields.length:=I;have b4:N.length*m<=5*m:=Nat.mul_le_mul_right _ I;have eC:s.fields.length*m<=6*m:=Nat.mul_le_mul_right _ I;have dc:(N.length+1)*m=N.length*m+m:=Nat.succ_mul ..;have AR:=ap.nw f (by simp[aw]);unfold eT.row at ag
    (conv=>whnf)
    repeat((first|refine .yes (dg.2 be) ?_|refine⟨be,⟨_,ag,?_⟩⟩|refine da ?_);(conv=>whnf))
    refine aW (J6 aa _ hO.1 f.ay I) ?_;rintro v A ⟨rfl,V5,rfl⟩
    (conv=>whnf)
    repeat(refine da ?_;conv=>whnf)
    refine eQ (eO (λF=>?_) (λF=>?_))
    ·(conv=>whnf)
     repeat(refine da ?_;conv=>whnf)
     exact ZO hO _ _ ⟨by simp only[List.length_append,List.length_singleton];omega,cN,by simp only[List.length_append,List.length_singleton];omega,e0,by simp only[List.length_append,List.length_singleton];omega,Bl⟩ (by kernel_rfl)
    ·(conv=>whnf)
     repeat(refine da ?_;conv=>whnf)
     refine aW (xN aa K 5 I af f.bL AR.bL s.aj t.g s.params t.l I I (GT.sub au)) ?_;rintro v A ⟨rfl,ka,rfl,o0⟩
     (conv=>whnf)
     repeat(refine da ?_;conv=>whnf)
     refine aW (bY p V iZ ka (o0.mono I) eL _ _ _ Bl I) ?_;rintro v A ⟨⟨e,rfl,kf⟩,cP,eg,uK,gz,qj,rfl⟩
     (conv=>whnf)
     repeat(refine da ?_;conv=>whnf)
     exact ZO (hO.1++[f.ay],hO.2.1++[e],eg,uK,cP) _ _ ⟨by simp only[List.length_append,List.length_singleton];omega,λy aE=>by
      rcases List.mem_append.1 aE with aE|aE
      .exact cN y aE
      .rw[List.mem_singleton.1 aE];exact AR.ay,by simp only[List.length_append,List.length_singleton];omega,λy aE=>by
      rcases List.mem_append.1 aE with aE|aE
      .exact e0 y aE
      .rw[List.mem_singleton.1 aE];exact kf,by simp only[List.length_append,List.length_singleton];omega,gz⟩ (by rw[List.map_append,List.map_append,List.map_singleton,List.map_singleton,ai.dN];kernel_rfl)
   .have⟨cT,cN,el,e0,gB,Bl⟩:=T1;have cT:hO.1.length<=s.fields.length+s.fields.length:=cT;have el:hO.2.1.length<=s.fields.length+s.fields.length:=el;have gB:hO.2.2.2.1<=next+s.fields.length*m+s.fields.length*m:=gB
    have eC:s.fields.length*m<=6*m:=Nat.mul_le_mul_right _ I
    (conv=>whnf)
    repeat((first|refine .no (pe _) ?_|refine bZ ?_);(conv=>whnf))
    exact⟨⟨_,ai.agg rfl rfl lm rfl,kY af t0 af af (jP.of au I) ⟨I,λs h=>by have:=cN s h;omega,.inr af⟩ kP.nil ⟨I,e0,.inr af⟩⟩,hO.2.2.2.2,hO.2.2.1,hO.2.2.2.1,Bl,I,rfl⟩
 all_goals try
  refine hs (a8:=[5,8,12,1000,1001]) eT.row s.fields 44 (λ_ (_:Nat)=>[]) (λ_ a=>[(5,.box 43 2 (.cb t.cells)),(8,mR),(12,.box 74 6 (.cb (dX.row s))),(1000,iU p left next),(1001,dD g Q a)]) (λN a=>a<=Q.length) ⟨a,aC,by kernel_rfl⟩ (λN b f r ba aw be ag a7 bt=>?_) (λa ba aC=>?_)
  .have kG:N.length<s.fields.length:=I;have AR:=ap.nw f (by simp[aw]);have aui:=AR.ay;unfold eT.row at ag
   (conv=>whnf)
   repeat' ((first|refine .yes (dg.2 be) ?_|refine⟨be,⟨_,ag,?_⟩⟩|(refine aW (EO aa aS p left next b a7 t.ay I) ?_;rintro v A ⟨rfl,yc,rfl⟩)|(refine aW (dy aa aS b 2 a7 af af) ?_;rintro v A ⟨⟨r,rfl,JO⟩,gZ,jp,rfl⟩)|refine da ?_|((with_reducible first|apply eh|apply jQ|apply ch|apply cQ|apply eQ|apply mr|apply mD|apply eO)<;>intros))<;>(conv=>whnf))
   all_goals try first|exact bt gZ _ _ jp (by kernel_rfl)|exact bt b _ _ a7 (by kernel_rfl)
   all_goals
    refine aW (bY p V iZ t x6 eL left next gZ jp I) ?_
    rintro v A ⟨⟨e,rfl,kf⟩,cP,eg,uK,gz,qj,rfl⟩
    (conv=>whnf)
    repeat(refine da ?_;conv=>whnf)
    refine aW (xN aa K 5 I af f.bL AR.bL s.aj t.g s.params t.l I I (GT.sub au)) ?_
    rintro v A ⟨rfl,ka,rfl,o0⟩
    (conv=>whnf)
    repeat(refine da ?_;conv=>whnf)
    refine aW (bY p V iZ ka (o0.mono I) eL eg uK cP gz I) ?_
    rintro v A ⟨⟨a3,rfl,ajC⟩,dO,fJ,Fb,np,Sa,rfl⟩
    (conv=>whnf)
    repeat(refine da ?_;conv=>whnf)
    exact⟨⟨_,ai.agg (cg:=[f.ay]) pm rfl lm (mM e a3),kY af af af af jP.nil (km.one af I) kP.nil (ks.two af kf ajC)⟩,dO,fJ,Fb,np,I,rfl⟩
  (conv=>whnf)
  repeat((first|refine .no (pe _) ?_|refine bZ ?_);(conv=>whnf))
 all_goals
  refine aW (OR aa p.W bq.ck bq.ef p.iD t.ay I) ?_
  rintro v A ⟨rfl,u,IU,rfl,hu⟩
  have adm:(u.cases.map fl.row).length=u.cases.length:=bW
  have abB:=hu.ou
  have up:=hu.pl
  (conv=>whnf)
  repeat(refine bZ ?_;conv=>whnf)
  cases IU
  case' true=>
   refine .yes rfl ?_
   (conv=>whnf)
   repeat(refine bZ ?_;conv=>whnf)
   refine eh (λlK=>?_) (λlK=>?_)
  case' true.refine_1=>
   (conv=>whnf)
   repeat(refine bZ ?_;conv=>whnf)
   refine aW (dy aa aS a (u.cases.map fl.row).length aC I I) ?_;rintro v A ⟨⟨r,rfl,ag⟩,bk,cY,rfl⟩;have⟨c,al4,PT⟩:=nU fl.row ag;have qA:=hu.A3 c al4;have en:=qA.ay;have gI:=qA.pl;have dm:(c.gL.map al.row).length=c.gL.length:=bW;have PT:fT (u.cases.map fl.row) r=[.bool c.ind,.str c.ay,.aH c.g (c.gL.map al.row)]:=PT
   (conv=>whnf)
   repeat((first|refine⟨ag,⟨_,PT,?_⟩⟩|refine da ?_);(conv=>whnf))
   refine hs (a8:=[5,8,22,25,900,1000,1001]) al.row c.gL 50 (λ_ (_:List ai×Nat×Nat×Nat)=>[]) (λ_ b=>[(5,.box 43 2 (.cb t.cells)),(8,mR),(22,.box 78 6 (.cb (dV.row u))),(25,.box 45 11 (.bS [.J (.int 3 14),.J (.str []),.J (.str c.ay),.J (.int 3 0),.J (.aH 86 [t.cells]),.bx,.bx,.bD 900,.J (.str []),.bx,.J (.int 3 0)])),(900,.bF 45 11 (b.1.map ai.row) true),(1000,iU p b.2.1 b.2.2.1),(1001,dD g Q b.2.2.2)]) (λN b=>b.1.length=N.length/\(∀k∈b.1,GE gJ k)/\b.2.2.1<=next+N.length*m/\b.2.2.2<=Q.length) ⟨([],left,next,bk),⟨rfl,(λ_ h=>by cases h),by simp,cY⟩,by kernel_rfl⟩ (λN b z my ba aw be ag a7 bt=>?_) (λb ba a7=>?_)
   .have⟨cT,cN,el,e0⟩:=a7;have cA:=qA.tF z (by simp[aw]);have kG:N.length<c.gL.length:=I;have bC:(b.1.map ai.row).length=b.1.length:=bW;have aX:N.length*m<=5*m:=Nat.mul_le_mul_right _ I;have b4:(N.length+1)*m=N.length*m+m:=Nat.succ_mul ..;rw[al.dN]at ag
    (conv=>whnf)
    repeat((first|refine .yes (dg.2 be) ?_|refine⟨be,⟨_,ag,?_⟩⟩|refine da ?_);(conv=>whnf))
    refine aW (xN aa K 5 I af z cA u.aj t.g u.params t.l I I (GT.sub au)) ?_;rintro v A ⟨rfl,ka,rfl,o0⟩
    (conv=>whnf)
    repeat(refine da ?_;conv=>whnf)
    refine aW (bY p V iZ ka (o0.mono I) eL _ _ _ e0 I) ?_;rintro v A ⟨⟨e,rfl,kf⟩,cP,eg,uK,gz,qj,rfl⟩
    (conv=>whnf)
    repeat(refine da ?_;conv=>whnf)
    exact bt (b.1++[e],eg,uK,cP) _ _ ⟨by simp[cT],λy aE=>by
     rcases List.mem_append.1 aE with aE|aE
     .exact cN y aE
     .rw[List.mem_singleton.1 aE];exact kf,by simp only[List.length_append,List.length_singleton];omega,gz⟩ (by rw[List.map_append,List.map_singleton,ai.dN];kernel_rfl)
   .have⟨cT,cN,el,e0⟩:=a7;have cT:b.1.length=c.gL.length:=cT;have el:b.2.2.1<=next+c.gL.length*m:=el
    have aX:c.gL.length*m<=6*m:=Nat.mul_le_mul_right _ I
    (conv=>whnf)
    repeat((first|refine .no (pe _) ?_|refine bZ ?_);(conv=>whnf))
    exact⟨⟨_,ai.agg (mO t) mG lm rfl,kY af af I af (jP.one af au I) km.nil kP.nil ⟨I,cN,.inr af⟩⟩,b.2.2.2,b.2.1,b.2.2.1,e0,I,rfl⟩
  case' false=>refine .no rfl ?_
  all_goals
   (conv=>whnf)
   repeat(refine bZ ?_;conv=>whnf)
   refine aW (TG aa aS p bq eL V I K aQ.v1 aQ.v2 2 af K I t au left next a aC) ?_
   rintro v A ⟨⟨e,rfl,kf⟩,cP,eg,uK,gz,qj,rfl⟩
   (conv=>whnf)
   repeat(refine da ?_;conv=>whnf)
   exact⟨⟨e,rfl,kf.mono I⟩,cP,eg,uK,gz,I,rfl⟩
end
end Go.Tx
