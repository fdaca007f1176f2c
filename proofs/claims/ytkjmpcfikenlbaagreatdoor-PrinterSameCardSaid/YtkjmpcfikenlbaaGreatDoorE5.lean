/- A part. -/
import Derived.Test.YtkjmpcfikenlbaaGreatDoorE4
set_option linter.all false
namespace Go.Ev
open Go
section
variable{P:Program}
def B2(ae:cX)(bN:gW)(obj:Obj)(cm:Nat)(gX:Nat->bp)(q3:Nat->Value):Prop:=
 ∀(bG:cX)(w:World)(b B5:Nat),ae.le bG->bG B5=some (b,cm)->w.heap[b]?=some obj->nj bG w B5 bN/\bP bG (gX B5) (q3 b)
def Vm{ae:cX}{H:bg}{w bi:World}(R:Rel ae H w)(aD:fv H.next){b cm:Nat}{bN:gW}(iH:w.heap.size<=bi.heap.size)(aB:w.heap.size<=b\/¬lk ae H b)(ar:∀k,k<w.heap.size->lk ae H k->bi.heap[k]?=w.heap[k]?)(aV:nj (ae.set H.next (b,cm)) bi H.next bN):Rel (ae.set H.next (b,cm)) {(H.put H.next bN)with next:=H.next+1} bi:=by
 have uy:ae H.next=none:=by
  cases h:ae H.next with
  |none=>rfl|some x=>exact absurd (R.p0 _ _ h) (MV _)
 have hle:=cX.EW (b,cm) uy;have xR:∀a,fv a->({(H.put H.next bN)with next:=H.next+1}:bg).get a=if a=H.next then bN else H.get a:=λa aC=>bg.pR H H.next a bN aD aC
 have pk:∀a ep gn,fv a->a≠H.next->(H.get a).live=true->(ae.set H.next (b,cm)) a=some (ep,gn)->ep<w.heap.size/\lk ae H ep:=by intro a ep gn aC ed Y ag;rw[cX.rr _ _ ed]at ag;have⟨cD,uC,D,F⟩:=(R.obj a aC).block Y;rw[ag]at D;cases D;exact⟨F,a,aC,Y,gn,ag⟩
 refine⟨gp,?_,?_,?_⟩
 .intro a x M;show a<H.next+1;by_cases e:a=H.next
  .omega
  .rw[cX.rr _ _ e]at M;have:=R.p0 a x M;omega
 .intro a aC;rw[xR a aC];by_cases e:a=H.next
  .simp_all
  .rw[cO e];refine(R.obj a aC).mono hle λep gn Y ag=>ar ep ?_ ?_
   .exact R.Mp ⟨a,aC,Y,gn,ag⟩
   .exact⟨a,aC,Y,gn,ag⟩
 .intro bk bu D F cH cq ep uC yA dC b3;rw[xR bk D]at cH;rw[xR bu F]at cq;by_cases aP:bk=H.next<;>by_cases a3:bu=H.next
  .grind
  .rw[cO a3]at cq;have:=pk bu ep yA F a3 cq b3;rw[aP,cX.Dl]at dC;grind
  .rw[cO aP]at cH;have:=pk bk ep uC D aP cH dC;rw[a3,cX.Dl]at b3;grind
  .rw[cO aP]at cH;rw[cO a3]at cq;rw[cX.rr _ _ aP]at dC;rw[cX.rr _ _ a3]at b3;exact R.inj bk bu D F cH cq ep uC yA dC b3
def adN{ae:cX}{H:bg}{w bi:World}(R:Rel ae H w)(aD:fv H.next){b cm:Nat}{bN:gW}(iH:w.heap.size<=bi.heap.size)(aB:w.heap.size<=b\/lk ae H b)(ar:∀k,k<w.heap.size->¬lk ae H k->bi.heap[k]?=w.heap[k]?)(au:bi.tape=w.tape)(vL:bi.os=w.os)(zI:bi.output=w.output):Step ae H w (ae.set H.next (b,cm)) {(H.put H.next bN)with next:=H.next+1} bi:=by
 have uy:ae H.next=none:=by
  cases h:ae H.next with
  |none=>rfl|some x=>exact absurd (R.p0 _ _ h) (MV _)
 refine⟨cX.EW _ uy,λa aC=>cX.rr _ _ I,by simp_all,iH,ar,?_,λx M aY=>by
  have xR:({(H.put H.next bN)with next:=H.next+1}:bg).get x=if x=H.next then bN else H.get x:=bg.pR H H.next x bN aD gp
  grind,au,vL,zI⟩
 rintro ep ⟨a,aC,Y,gn,ag⟩;have xR:({(H.put H.next bN)with next:=H.next+1}:bg).get a=if a=H.next then bN else H.get a:=bg.pR H H.next a bN aD aC
 rw[xR]at Y;by_cases e:a=H.next
 .simp_all[cX.Dl]
 .rw[cO e]at Y;rw[cX.rr _ _ e]at ag;exact .inr ⟨a,aC,Y,gn,ag⟩
variable{ae:cX}
def adp{H w bN obj cm gX q3 k}(R:Rel ae H w)(aD:B2 ae bN obj cm gX q3)(h:tq H bN k):∃bG az,k H.next az/\bP bG (gX H.next) (q3 w.heap.size)/\Rel bG az (w.alloc obj)/\Step ae H w bG az (w.alloc obj):=by
 have⟨D,F⟩:=TB h;have uy:ae H.next=none:=by
  cases h:ae H.next with
  |none=>rfl|some x=>exact absurd (R.p0 _ _ h) (MV _)
 have⟨aj,an⟩:=aD (ae.set H.next (w.heap.size,cm)) (w.alloc obj) w.heap.size H.next (cX.EW _ uy) (cX.Dl _ _ _) (Kk w obj);have iH:w.heap.size<=(w.alloc obj).heap.size:=by simp_all
 exact⟨ae.set H.next (w.heap.size,cm),_,F,an,Vm R D iH (.inl (fI _)) (λk ar _=>CC w obj ar) aj,
  adN R D iH (.inl (fI _)) (λk ar _=>CC w obj ar) rfl rfl rfl⟩
def abe{z aJ L ak}(cA:0<z)(aI:dh ae aJ L)(Y:aJ.length=z)(aQ:∀x∈aJ,x.lQ):B2 ae (Ee ak z aJ) (.cells (List.toArray L) ak) 0 (λa=>.ptr a 0 0 z) (λb=>.pointer (some ⟨b,0,none⟩)):=by
 intro bG w b B5 hle ag cw;refine⟨⟨b,0,_,(0,0),ag,cw,λ_=>rfl,cA,fI _,?_,?_⟩,by simp_all[bP]⟩
 .intro i aN;have:i=0:=I;subst this;exact⟨L,dh.mono hle _ _ aI,Y,aQ,λj bl=>by simp⟩
 .simp [<-aI.length.symm▸Y]
def WR{ae}{ak z n m}{ax:Rows}{l}{L}(cA:0<z)(Y:li ae z l L)(aD:l.length=n)(na:n<=ax.cap)(VG:m<=n)(aB:n<=2147483647):B2 ae (.cells (ax.jl l 0) n z ak false false) (.cells (List.toArray L.flatten) ak) 0 (λa=>.slice a 0 m n false z) (λb=>.slice (some ⟨b,0,none⟩) m n):=by
 intro bG w b B5 hle ag cw;refine⟨⟨b,0,_,(0,0),ag,cw,λ_=>rfl,cA,by rw[Rows.ur];exact na,?_,?_⟩,by simp only[bP];grind⟩
 .refine lc.jl (n:=0) (c:= #[]) lc.none (Y.mono hle) na I (λr ag=>.inr I) (λk ar=>?_) (λr j ag=>I);simp
 .simp[Y.Ac,aD]
def adX{ae}{z}{r}{X}(aI:dh ae r X)(Y:r.length=z)(aQ:∀x∈r,x.lQ):∀n,li ae z (List.replicate n r) (List.replicate n X)
 |0=>rfl|n+1=>⟨X,List.replicate n X,rfl,aI,Y,aQ,adX aI Y aQ n⟩
def adn{X:lE}:∀{n}{i},i<n*X.length->(List.replicate n X).flatten[i]?=X[i % X.length]?
 |0,i,h=>I
 |n+1,i,h=>by
  simp[List.replicate_succ];by_cases aN:i<X.length
  .rw[DB aN,qM aN]
  .rw[Ff I,adn (by grind)];simp_all[Nat.mod_eq_sub_mod]
def aro{X:lE}{n}(cR:0<X.length):(Array.range (n*X.length)).map (λi=>(List.toArray X)[i % X.length]!)=List.toArray (List.replicate n X).flatten:=by
 apply Array.ext_getElem?;intro i;by_cases aN:i<n*X.length
 .have hm:i % X.length<X.length:=mA _ cR;rw[Array.getElem?_map,Array.getElem?_range,ev aN,Ht,adn aN];grind
 simp_all
end
section
variable{P:Program}{es:aO}{ah:dM}{L:cx}{T:ca}
def VB{l}{t}(h:tt P t=some l):∃(i:TypeInfo)(g9:Value)(eR:lE),P.info? t=some i/\i.zero=some g9/\g9.cells=List.toArray eR/\(∀ae,dh ae l eR)/\(∀x∈l,x.lQ)/\∀w,(zeroValue t).run P w=.ok g9 w:=by
 unfold tt at h;have dv:∀v,p6 P t=some v->v≠.undef->l=v.cells->∃(i:TypeInfo)(g9:Value)(eR:lE),P.info? t=some i/\i.zero=some g9/\g9.cells=List.toArray eR/\
  (∀ae,dh ae l eR)/\(∀x∈l,x.lQ=true)/\∀w,(zeroValue t).run P w=.ok g9 w:=by
  intro v aI ed Y
  have⟨i,g9,D,F,aq⟩:=Y5 aI
  have⟨eR,aj,an,aM⟩:=PY (ae:=λ_=>none) aq ed
  subst Y
  refine⟨i,g9,eR,D,F,aj,λae=>?_,aM,λw=>by simp_all[zeroValue,typeInfo]⟩
  have⟨atj,Bt,auq,_⟩:=PY (ae:=ae) aq ed
  simp_all
 split at h
 .cases h
 .rename_i n aK cA;cases h;exact dv _ cA (by simp) rfl
 .rename_i v D F cA;cases h;exact dv v cA (λe=>D e) (by cases v<;>first|rfl|simp_all)
 grind
def Cp(ak)(c)(w):(newRow ak c).run P w=.ok ⟨w.heap.size,0,none⟩ (w.alloc (.cells c ak)):=rfl
def aed:∀{l}{i},(∀p∈l,p.1≠i)->od i l=none
 |[],_,_=>rfl
 |(j,v)::l,i,h=>by simp only[od,aed (l:=l) (i:=i) λp bq=>h p (by grind)];rw[cO (λe=>h (j,v) (by simp) e.symm)]
def Yt:∀{l}{i},(∀(j)(p),l[j]?=some p->p.1=i+j)->∀(j)(p),l[j]?=some p->od (i+j) l=some p.2
 |[],i,h,j,p,bl=>by grind
 |(t9,v)::l,i,h,j,p,bl=>by
  have br:t9=i:=by simpa using h 0 (t9,v) rfl
  subst br;have au:∀(j:Nat)(p:Nat×Value),l[j]?=some p->p.1=(t9+1)+j:=λj p bq=>by have:=h (j+1) p (by simp_all);omega
  cases j with
  |zero=>
   simp at bl;subst bl;have:od t9 l=none:=aed λq a0 e=>by grind[List.getElem?_of_mem]
   simp_all[od]
  |succ j=>have:=Yt au j p bl;have e:t9+1+j=t9+(j+1):=I;grind[od]
def chunks(z):∀(n)(c:lE),c.length=n*z->∃gu:vR,gu.flatten=c/\gu.map List.length=List.replicate n z
 |0,c,h=>⟨[],by simp_all,rfl⟩
 |n+1,c,h=>by
  have cz:z+n*z=c.length:=by grind
  have⟨gu,D,F⟩:=chunks z n (c.drop z) (by grind);refine⟨c.take z::gu,by simp[D],?_⟩;grind
def anI(z n i)(h:i<=n):wK (List.replicate n z) i=i*z:=by unfold wK;simp_all
def ZB{s}:∀{c7}{i}{r}{k},BF s i (qv es ah c7)=some r->r.f L T k->∃Q,k Q/\Q.length=c7.length/\(∀(j)(p),c7[j]?=some p->p.1=i+j)/\∀(ae)(a),(∀p∈c7,j7 ae es ah L T a p.2)->li ae s Q (c7.map λp=>(a.eval p.2).cells.toList)
 |[],i,r,k,ag,h=>by simp[qv,BF]at ag;subst ag;exact⟨[],h,rfl,by simp,λ_ _ _=>rfl⟩
 |(j,x)::c7,i,r,k,ag,h=>by
  simp[qv]at ag;unfold BF at ag;split at ag
  .rename_i eH aB uf;cases ag;have aB:=dA.1 aB;change kD ((eF es ah x).g L T) s (λc=>eH L T λq=>k (c::q))=true at h;have⟨c,D,_,F⟩:=UU h;have⟨Q,aq,aL,bO,cr⟩:=ZB uf D;refine⟨c::Q,aq,by grind,?_,λae a eI=>?_⟩
   .grind
   .have⟨eR,aj,an,aM,bs⟩:=F ae _ (eI (j,x) (by simp));exact⟨eR,_,by grind,an,aM,bs,cr ae a λp bq=>eI p (by grind)⟩
  grind
def akq{ae z Q eR n parts c}(nD:li ae z Q eR)(aoq:eR=parts.map λp=>p.2.cells.toList)(aD:parts.length=n)(aN:∀(j:Nat)(p:Nat×Value),parts[j]?=some p->p.1=j)(aQ:c.size=n*z):Instr.fill (λi=>some (i*z,z)) c parts=some (List.toArray eR.flatten):=by
 have⟨gu,gx,s2⟩:=chunks z n c.toList (by simp_all);have iH:∀p∈parts,p.2.cells.size=z/\p.1<n:=by
  intro p bq;have⟨j,bl⟩:=List.getElem?_of_mem bq;have be:j<parts.length:=(oo.1 bl).1;refine⟨?_,by grind⟩;have aug:j<Q.length:=by rw[<-nD.length,aoq,ex];grind
  have:∀{Q:p9}{eR:vR}{j:Nat}{X:lE},li ae z Q eR->eR[j]?=some X->X.length=z:=by
   intro Q;induction Q with
   |nil=>intro eR j X h cR;cases h;grind
   |cons r l bQ=>
    rintro eR j X ⟨et,gD,rfl,D,F,aq,aL⟩ cR;cases j with
    |zero=>simp at cR;subst cR;rw[D.length,F]|succ j=>grind
  have:=this (j:=j) (X:=p.2.cells.toList) nD (by simp_all);simp_all
 have wE:c=List.toArray gu.flatten:=by rw[gx]
 have xz:gu.length=n:=by have:=fr List.length s2;grind
 rw[wE,U0 (λi=>some (i*z,z)) (List.replicate n z) (λi s ap=>?_) parts gu s2 (λp bq=>?_)]
 .have:y0 gu parts=eR:=by
   apply He;intro j;by_cases bl:j<n
   .rw[TS j parts gu I];have alq:parts[j]?=some parts[j]:=lX I;have:=Yt (i:=0) (λj p bq=>by grind) j _ alq;grind
   .rw[tY (by rw[abG];omega),tY (by grind)]
  grind
 .have be:=(oo.1 ap).1;rw[AW]at be;rw[anI z n i I];grind
 grind
def Yu{k B}(h:(Bd P es ah B.op).f L T k):∃bN gX,k bN gX/\bN.live/\∀(ae)(a),(∀x∈B.op.operands.toList,j7 ae es ah L T a x)->∃obj cm q3,B2 ae bN obj cm gX q3/\∀w,(execOp a.eval B).run P w=.ok (.value (q3 w.heap.size)) (w.alloc obj):=by
 have⟨pY,op,bL,pos,abv,aaT⟩:=B;simp only at h ⊢;unfold Bd at h;split at h
 .split at h
  .rename_i z n cA ap;split at h
   .rename_i Y;have Y:=dA.1 Y;have⟨i,g9,eR,D,F,aq,aL,bO,cr⟩:=VB cA;refine⟨_,_,h,rfl,λae a eI=>⟨_,0,_,abe (wm n) (aL ae) Y bO,λw=>?_⟩⟩;simp[execOp,Instr.alloc,cr,newVar,aq,Cp]
   .exact ci h
  .exact ci h
 .rename_i ak x;split at h
  .rename_i g n bI ap;change kD (g L T) (n+1) (λc=>k (Ee ak (n+1) c) λa=>bp.ptr a 0 0 (n+1))=true at h;have⟨c,D,_,F⟩:=UU h;refine⟨_,_,D,rfl,λae a eI=>?_⟩;have M:=eI x (by simp[Op.operands]);unfold j7 at M;rw[bI]at M;have⟨eR,aj,an,aM,bs⟩:=F ae _ M;refine⟨_,0,_,abe (wm n) an aM bs,λw=>?_⟩;simp[execOp,Instr.box,newVar,aj,Cp]
  .exact ci h
 .rename_i t n c7;split at h
  .rename_i e hu;split at h
   .rename_i s ax ap Kb;split at h
    .rename_i r a4 ag;simp only[ig]at a4;have⟨⟨cL,dP⟩,fW⟩:=a4;have cL:=dA.1 cL;rw[dT]at dP;have⟨Q,D,F,aq,aL⟩:=ZB ag h;rw[tG]at D;have aD:Q.length=n:=by simp_all
     refine⟨_,_,D,rfl,λae a eI=>?_⟩;have nD:=aL ae a λp bq=>eI p.2 (by simp only[Op.operands,ya];grind);have na:=Ou Kb;have kr:n<=2147483647:=by grind
     refine⟨_,0,_,WR (wm s) nD aD na (fI n) kr,λw=>?_⟩;have⟨auS,JH⟩:=Option.isSome_iff_exists.1 fW;have⟨g9,wO,kX⟩:=PA JH;have Zg:∀c:Array Value,c.size=n*(s+1)->Instr.fill (λi=>some (i*(s+1),s+1)) c ((c7.map λp=>(p.1,a.eval p.2)):Array (Nat×Value)).toList=
      some (List.toArray (c7.toList.map λp=>(a.eval p.2).cells.toList).flatten):=by
      intro c aQ
      refine akq nD ?_ ?_ ?_ aQ
      .simp
      .simp_all
      .intro j p bq;rw[Array.toList_map,yR]at bq;grind
     have qw:fy P e=some (s+1):=ap;simp only[execOp,Instr.buildSlice,jm,h6 hu,jt,rF qw];rw[cO I];by_cases a0:n*(s+1)=0
     .rw[ev a0];simp only[jm,kp,jt];rw[Zg _ (by simp)];simp_all[Cp]
     .rw[cO a0];simp only[jm,kX,kp,jt];simp_all[Cp]
    .exact ci h
   .exact ci h
  .exact ci h
 .rename_i t l c;split at h
  .rename_i e hu;split at h
   .rename_i s z b hQ DR ap cA aB anz apk;split at h
    .rename_i a4;simp only[ig]at a4;have⟨cL,dP⟩:=a4;have cL:=dA.1 cL;rw[dT]at dP;have⟨en,c4,aP,aj⟩:=m6 h;have⟨cD,an⟩:=fi aj;have⟨dp,aM⟩:=fi an;have⟨gI,cl,a3,bs⟩:=m6 aM;have⟨ga,cp⟩:=fi bs;have⟨fX,dj⟩:=fi cp;have⟨hO,ip⟩:=fi dj;rw[dT]at cD ga hO;rw[dg]at dp fX;have⟨ax,na,ms⟩:=acA ip;rw[tG]at ms;have⟨i,g9,eR,D,F,aq,aL,bO,cr⟩:=VB cA;refine⟨_,_,ms,rfl,λae a eI=>?_⟩;have SD:eR.length=s+1:=by rw[(aL ae).length,cL]
     refine⟨_,0,_,WR (wm s) (adX (aL ae) cL bO cl) (by simp) na hO I,λw=>?_⟩;have val:∀(x:Operand)(g:cx->ca->bp)(c n:Nat),eF es ah x=⟨g⟩->g L T=.int c n->n<513->3<=c->j7 ae es ah L T a x->a.eval x=.int (jS c) n:=by intro x g c n bI aw aD aQ M;unfold j7 at M;rw[bI]at M;simp[aw]at M;have⟨bC,aX,b4⟩:=M;rw[b4,lH];rcases ud bC with⟨_,e,b7⟩|⟨_,e,b7⟩|⟨_,e,b7⟩|⟨_,e,b7⟩|⟨_,e,b7⟩|⟨_,e,b7⟩|⟨_,e,b7⟩|⟨_,e,b7⟩<;>omega
     have v1:=val l hQ en c4 anz aP dp cD (eI l (by simp[Op.operands]));have v2:=val c DR gI cl apk a3 fX ga (eI c (by simp[Op.operands]));have aln:i.bytes=b:=by simp_all[vO,GP]
     have wr:∀n:Nat,n<513->IntKind.i64.wrap (n:Int)=n:=by intro n aD;have:=tI (c:=3) (r:=n) af (by show n<18446744073709551616;omega) (x:=(n:Int)) (u0 I (by show(n:Int)<((18446744073709551616:Nat):Int);omega));rw[lH (by show n<9223372036854775808;omega)]at this;exact this
     have UC:∀n:Nat,n<513->¬(((b:Int)*(n:Int))>2 ^ 48):=by intro n aD;have:b*n<=1000*513:=Nat.mul_le_mul dP I;grind
     have qw:fy P e=some (s+1):=ap;simp only[execOp,v1,v2,Instr.makeSlice,jm,h6 hu,jt,asInt,F0,kp,typeInfo,run_program,D,aln];rw[wr c4 dp,wr cl fX];have ap5:¬(((decide ((cl:Int)<0)||decide ((b:Int)*(cl:Int)>2 ^ 48))||decide ((c4:Int)<0)||decide ((c4:Int)>(cl:Int)))=true):=by simp_all
     rw[cO ap5];simp[rF qw];by_cases a0:cl*(s+1)=0
     .have atz:cl=0:=by grind
      simp[Cp];grind
     .rw[cO a0];have:=aro (X:=eR) (n:=cl) I;simp_all[Cp]
    .exact ci h
   .exact ci h
  .exact ci h
 .split at h
  .refine⟨_,_,h,rfl,λae a eI=>⟨.map #[] 0,0,λb=>.map (some b),?_,λw=>?_⟩⟩
   .intro bG w b B5 hle ag cw;exact⟨⟨b,0,#[],ag,cw,rfl⟩,by simp_all[bP]⟩
   .rfl
  .exact ci h
 .exact ci h
end
section
variable{P:Program}{es:aO}{ah:dM}{L:cx}{T:ca}
def sc(P:Program)(ae:cX)(H:bg)(w:World)(s:Sem Next)(k:bp->bg->Bool):Prop:=
 ∃bG az v V bi,k v az=true/\bP bG v V/\Rel bG az bi/\Step ae H w bG az bi/\(s.run P w=.ok (.value V) bi\/(s.run P w=.ok .skip bi/\V=undef))
def Ge(P:Program)(ae:cX)(H:bg)(w:World)(s:Sem Value)(k:bp->bg->Bool):Prop:=
 ∃bG az v V bi,k v az=true/\bP bG v V/\Rel bG az bi/\Step ae H w bG az bi/\s.run P w=.ok V bi
def Ge.op{ae}{H}{w}{s:Sem Value}{k}(h:Ge P ae H w s k):sc P ae H w (do pure (.value (<-s))) k:=by have⟨bG,az,v,V,bi,D,F,aq,aL,bO⟩:=h;exact⟨bG,az,v,V,bi,D,F,aq,aL,.inl (by simp_all)⟩
variable{H:bg}{k:bp->bg->Bool}{w:World}{ae:cX}
def sc.congr{s dx}(h:sc P ae H w s k)(e:dx.run P w=s.run P w):sc P ae H w dx k:=by simp_all[sc]
structure D5(P:Program)(w:World)(size:Nat)(et:Value)(m:Nat)(DO:lE):Prop where
 len:∀bi,(Builtin.lenOf et).run P bi=.ok m bi
 cells:∀bi,bi.heap=w.heap->(Builtin.firstCells size m et).run P bi=.ok (List.toArray DO) bi
def PP{Bq v k}(h:ta Bq v H k):∃m l,k m l/\l.length=m/\∀(ae)(w)(V),bP ae v V->Rel ae H w->∃eR,li ae Bq l eR/\m<=2147483647/\D5 P w Bq V m eR.flatten/\∃a n c,V=.slice a n c:=by
 rcases Ob h with⟨e,D⟩|⟨a,i,l,c,u,z,e,D⟩
 .refine⟨0,[],D,rfl,λae w V gm R=>⟨[],rfl,I,?_,?_⟩⟩;all_goals
   rw[e]at gm
   simp only[bP,iS]at gm
   subst gm
  .exact⟨λbi=>rfl,λbi _=>rfl⟩
  simp_all
 .rcases iE D with⟨iw,D⟩|⟨_,D⟩
  .have iw:=dA.1 iw;subst iw;refine⟨0,[],D,rfl,λae w V gm R=>⟨[],rfl,I,?_,?_⟩⟩;all_goals
    rw[e]at gm
    simp only[bP]at gm
    obtain⟨b,cm,v1,B,rfl,oI,v2,vo,K4⟩:=gm
   .exact⟨λbi=>rfl,λbi cw=>MF bi Bq 0 _ 0 _ [] (by simp) λj x M=>by grind⟩
   simp_all
  rename_i iw;have iw:=tC iw;have⟨bC,F⟩:=fi D;have bC:=dA.1 bC;rw[pC]at F;have⟨ax,n,cJ,ak,fY,ee,qY,aq⟩:=Hi F;have⟨aX,aL⟩:=fi aq;have⟨b4,bO⟩:=fi aL;have⟨eC,bO⟩:=fi bO;rw[dT]at aX eC;have b4:=dA.1 b4;have cr:=T5 bO;refine⟨l,_,cr,Rows.Gh _ _ _,λae w V gm R=>?_⟩;rw[e]at gm;simp only[bP]at gm;obtain⟨b,cm,v1,B,rfl,oI,v2,vo,K4⟩:=gm;have oI:B=i*z:=oI.elim id λh=>absurd h.1 iw;subst oI;have aV:=R.obj a (bP.lt R v1);rw[qY]at aV;have⟨ep,gn,jq,ci,cL,dP,fW,gi,iW,gE,oc⟩:=aV;rw[v1]at cL;cases cL;have⟨eR,aj,an⟩:=gE.range l i aX;rw[<-b4,bC]at aj;have asV:i+l<=n:=aX;refine⟨eR,aj,I,⟨λbi=>rfl,λbi cw=>?_⟩,_,_,_,rfl⟩;have Y:eR.flatten.length=l*Bq:=by rw[aj.Ac,Rows.Gh]
  refine MF bi Bq l _ l _ eR.flatten Y λj x M=>?_;rw[uW,cell_of_row bi b _ jq ak ci (by simp_all)];grind
def Q4{ae}:∀(l n),li ae 1 (yQ l n) ((ez l n).map λb=>[Value.int .u8 b.toNat])
 |0,_=>rfl
 |l+1,n=>by
  refine⟨[Value.int .u8 (UInt8.ofNat (n % 256)).toNat],_,rfl,dh.cons ?_ dh.nil,rfl,by simp[bp.lQ],Q4 l (n / 256)⟩;have aB:n % 256<256:=mA _ af;have:=oZ (ae:=ae) (c:=4) (r:=n % 256) af (by simpa[cF]using aB);rw[lH (by simpa[eK]using aB)]at this;have e:(UInt8.ofNat (n % 256)).toNat=n % 256:=by simp_all
  rw[e];exact this
def Hc:∀(l n),(yQ l n).length=l
 |0,_=>rfl
 |l+1,n=>by simp[yQ,Hc l]
def PK{α fH:Type}(f:α->fH):∀l:List α,(l.map λb=>[f b]).flatten=l.map f
 |[]=>rfl
 |a::l=>by simp[PK f l]
def ahb(w)(l n):D5 P w 1 (.string ⟨(ez l n).toArray⟩) l (((ez l n).map λb=>[Value.int .u8 b.toNat]).flatten):=by refine⟨λbi=>by simp_all[Builtin.lenOf,Gf,p5],λbi _=>?_⟩;rw[PK];simp only[Builtin.firstCells,kp,WK];simp_all[Dx,p5]
def SM{t a6 bL e:TypeId}{cC:TypeDesc}{size:Nat}(au:P.underlying t=some (.slice e))(iL:P.underlying a6=some cC)(aY:∀k,cC≠.int k)(ap:fy P e=some size){base:Option Addr}{mv nb m:Nat}{et:Value}{DO:lE}{w:World}(ll:D5 P w size et m DO)(Fk:mv+m<=nb):(Builtin.append_ #[t,a6] bL #[.slice base mv nb,et]).run P w=match base with
 |some a=>((storeCells (a.add (mv*size)) DO).run P w).andThen λ_ bi=>.ok (.slice (some a) (mv+m) nb) bi
 |none=>.ok (.slice none (mv+m) nb) w:=by
 cases base with
 |none=>simp[Builtin.append_,h6 au,h6 iL,rF ap,ll.len,Fk,ll.cells w rfl]|some a=>simp[Builtin.append_,h6 au,h6 iL,rF ap,ll.len,Fk,ll.cells w rfl]
def SN{t a6 bL e:TypeId}{cC:TypeDesc}{i:TypeInfo}{z et m DO mv base nb Up}(au:P.underlying t=some (.slice e))(iL:P.underlying a6=some cC)(aY:∀k,cC≠.int k)(aN:P.info? e=some i)(cA:i.zero=some z)(ll:D5 P w i.size et m DO)(KZ:∀bi,bi.heap=w.heap->(Builtin.firstCells i.size mv (.slice base mv nb)).run P bi=.ok (List.toArray Up) bi)(Fk:nb<mv+m)(asm:((mv+m:Nat):Int)<=9223372036854775807)(LQ:Builtin.nextslicecap (mv+m) nb*i.bytes<=281474976710656):(Builtin.append_ #[t,a6] bL #[.slice base mv nb,et]).run P w=.ok (.slice (some ⟨w.heap.size,0,none⟩) (mv+m) (grownCap w (mv+m) nb e)) (w.drew.alloc (.cells (List.toArray (Up++DO)++Builtin.zeroCells z.cells (grownCap w (mv+m) nb e - (mv+m))) e)):=by have aD:¬(mv+m<=nb):=I;have aks:¬(9223372036854775807<((mv:Int)+(m:Int))):=I;have aly:¬(281474976710656<Builtin.nextslicecap (mv+m) nb*i.bytes):=I;simp[Builtin.append_,h6 au,h6 iL,sizeOf,typeInfo,zeroValue,aN,cA,ll.len,aD,aks,aly,Question.forced,ll.cells w.drew rfl,KZ w.drew rfl,newRow,grownCap];grind
def WL{z l eR n cm e V jh}(R:Rel ae H w)(cA:0<z)(Y:li ae z l eR)(aD:l.length=n)(aB:n<=2147483647)(atL:n<=cm)(iH:jh.size=(cm - n)*z)(h:Du e z n l H k)(gm:V=.slice (some ⟨w.heap.size,0,none⟩) n cm):∃bG az v,k v az/\bP bG v V/\Rel bG az (w.drew.alloc (.cells (List.toArray eR.flatten++jh) e))/\Step ae H w bG az (w.drew.alloc (.cells (List.toArray eR.flatten++jh) e)):=by
 unfold Du at h;have⟨ax,na,D⟩:=acA h;rw[tG]at D;have sU:B2 ae (.cells (ax.jl l 0) n z e true false) (.cells (List.toArray eR.flatten++jh) e) cm (λa=>.slice a 0 n 0 true z) (λb=>.slice (some ⟨b,0,none⟩) n cm):=by
  intro bG w b B5 hle ag cw;have pz:eR.flatten.length=n*z:=by rw[Y.Ac,aD]
  refine⟨⟨b,cm,_,(0,0),ag,cw,λ_=>rfl,cA,by rw[Rows.ur];exact na,?_,?_⟩,by simp only[bP];grind⟩
  .refine lc.jl (n:=0) (c:= #[]) lc.none (Y.mono hle) na I (λr ag=>.inr I) (λk ar=>?_) (λr j ag=>I);grind
  .have ap:(List.toArray eR.flatten++jh).size=cm*z:=by simp only[YH,Je,pz,iH,<-zO];simp_all
   grind
 have⟨bG,az,aj,an,aM,bs⟩:=adp R.drew sU D;subst gm;exact⟨bG,az,_,aj,an,aM,(Step.drew ae H w).trans bs⟩
end
section
variable{P:Program}{es:aO}{ah:dM}{L:cx}{T:ca}
variable{H:bg}{a b n cm:Nat}{w:World}{ae:cX}
def FV{bz}(H:bg)(aC:fv a)(cz:fv bz):(H.put a .dead).get bz=if bz=a then .dead else H.get bz:=bg.pR H a bz .dead aC cz
def ah4{k}(aC:fv a)(h:lk ae (H.put a .dead) k):lk ae H k:=by
 have⟨bz,cz,Y,cm,ag⟩:=h;rw[FV H aC cz]at Y;by_cases e:bz=a
 .rw[ev e]at Y;exact ci Y
 .rw[cO e]at Y;exact⟨bz,cz,Y,cm,ag⟩
def ak3(R:Rel ae H w)(aC:fv a):Rel ae (H.put a .dead) w:=by
 refine⟨R.next,R.p0,λbz cz=>?_,λbk bu D F cH cq b cm gn dC b3=>?_⟩
 .rw[FV H aC cz];by_cases e:bz=a
  .rw[ev e];trivial
  .rw[cO e];exact R.obj bz cz
 .rw[FV H aC D]at cH;rw[FV H aC F]at cq;by_cases aP:bk=a
  .rw[ev aP]at cH;exact ci cH
  .by_cases a3:bu=a
   .rw[ev a3]at cq;exact ci cq
   .rw[cO aP]at cH;rw[cO a3]at cq;exact R.inj bk bu D F cH cq b cm gn dC b3
def ai7(R:Rel ae H w)(aC:fv a)(Y:(H.get a).live)(ag:ae a=some (b,cm)):¬lk ae (H.put a .dead) b:=by
 rintro⟨bz,cz,iJ,gn,f7⟩;rw[FV H aC cz]at iJ;by_cases e:bz=a
 .rw[ev e]at iJ;exact absurd iJ Se
 .rw[cO e]at iJ;exact e (R.inj bz a cz aC iJ Y b gn cm f7 ag)
def adJ{ep z ax c gn e k bi}(R:Rel ae H w)(aC:fv a)(Y:(H.get a).live=true)(ag:ae a=some (b,cm))(aB:ep=b\/w.heap.size<=ep)(iH:w.heap.size<=bi.heap.size)(ar:∀k,k<w.heap.size->k≠b->bi.heap[k]?=w.heap[k]?)(au:bi.tape=w.tape)(vL:bi.os=w.os)(zI:bi.output=w.output)(cw:bi.heap[ep]?=some (.cells c e (0,0)))(cA:0<z)(aD:n<=ax.cap)(kr:n<=2147483647)(x0:lc ae ax n z c)(aQ:c.size=gn*z)(aqd:n<=gn)(h:tq (H.put a .dead) (.cells ax n z e true false) k=true):∃bG az,k H.next az=true/\bP bG (.slice H.next 0 n 0 true z) (.slice (some ⟨ep,0,none⟩) n gn)/\Rel bG az bi/\Step ae H w bG az bi:=by
 have⟨D,F⟩:=TB h;have Kl:=ak3 R aC;have atx:=ai7 R aC Y ag;have uy:ae H.next=none:=by
  cases h:ae H.next with
  |none=>rfl|some x=>exact absurd (R.p0 _ _ h) (MV _)
 have hle:ae.le (ae.set H.next (ep,gn)):=cX.EW _ uy;have nJ:(ae.set H.next (ep,gn)) H.next=some (ep,gn):=cX.Dl _ _ _;have aV:nj (ae.set H.next (ep,gn)) bi H.next (.cells ax n z e true false):=by refine⟨ep,gn,c,(0,0),nJ,cw,λ_=>rfl,cA,aD,x0.mono hle,?_⟩;simp_all[q4]
 have alx:Rel (ae.set H.next (ep,gn)) _ bi:=Vm (H:=H.put a .dead) (b:=ep) (cm:=gn) Kl D iH ?_ ?_ aV
 .refine⟨_,_,F,?_,alx,cX.EW _ uy,λbz ki=>cX.rr _ _ I,by show H.next<=H.next+1;omega,iH,?_,?_,?_,au,vL,zI⟩
  .exact⟨ep,gn,nJ,0,by simp,.inl (by simp),kr,by simpa using aqd,by simp⟩
  .intro df zj ju;exact ar df zj λe=>ju (by rw[e];exact⟨a,aC,Y,cm,ag⟩)
  .rintro df ⟨bz,cz,iJ,uC,f7⟩;have xR:({((H.put a .dead).put H.next (.cells ax n z e true false))with next:=H.next+1}:bg).get bz=if bz=H.next then .cells ax n z e true false else(H.put a .dead).get bz:=
    bg.pR (H.put a .dead) H.next bz _ D cz
   have jw:=iJ;rw[show(H.put a .dead).next=H.next from rfl]at jw;rw[xR]at jw;by_cases e:bz=H.next
   .rw[e,nJ]at f7;cases f7;rcases aB with aB|aB
    .rw[aB];exact .inr ⟨a,aC,Y,cm,ag⟩
    simp_all
   .rw[cO e]at jw;rw[cX.rr _ _ e]at f7;exact .inr (ah4 aC ⟨bz,cz,jw,uC,f7⟩)
  .intro x M aY;have kW:fv x:=gp;have xR:({((H.put a .dead).put H.next (.cells ax n z e true false))with next:=H.next+1}:bg).get x=if x=H.next then .cells ax n z e true false else(H.put a .dead).get x:=
    bg.pR (H.put a .dead) H.next x _ D kW
   have apV:(({((H.put a .dead).put H.next (.cells ax n z e true false))with next:=H.next+1}:bg).get x).live=false:=by
    rw[xR,cO I,FV H aC kW];grind
   exact apV
 all_goals grind
def aoO{q}(h:n*(b+1)<=q):n<=q:=by grind
def adK{ae}{H}{w}(R:Rel ae H w){t a6 bL e}{cC}{i}{g9}{s b}(au:P.underlying t=some (.slice e))(iL:P.underlying a6=some cC)(aY:∀k,cC≠.int k)(aN:P.info? e=some i)(cA:i.zero=some g9)(ap:i.size=s+1)(aB:i.bytes=b+1)(wO:g9.cells.size=s+1){x}{X et}{m}{l}{eR}(M:bP ae x X)(Y:li ae (s+1) l eR)(hm:l.length=m)(Ig:m<=2147483647)(ll:D5 P w (s+1) et m eR.flatten){k}(h:sV e (s+1) (b+1) x m l H k):Ge P ae H w (Builtin.append_ #[t,a6] bL #[X,et]) k:=by
 have M9:fy P e=some (s+1):=by simp[fy,GP,aN,ap]
 have pz:eR.flatten.length=m*(s+1):=by rw[Y.Ac,hm]
 have QK:D5 P w i.size et m eR.flatten:=by simp_all
 rcases Ob h with⟨fg,D⟩|⟨a,eB,len,c,u,cJ,fg,D⟩
 .rw[fg]at M;simp only[bP,iS]at M;subst M;rcases iE D with⟨q,F⟩|⟨q,F⟩
  .have q:=dA.1 q;subst q;refine⟨ae,H,.nil .s,.slice none 0 0,w,F,by simp only[bP,iS],R,Step.refl _ _ _,?_⟩;have:=SM (base:=none) (mv:=0) (nb:=0) (bL:=bL) au iL aY M9 ll I;grind
  .have q:=tC q;obtain⟨aX,aq⟩:=fi F;rw[dT]at aX;have LQ:m*(b+1)<=2147483647:=aX;have kX:=SN (base:=none) (mv:=0) (nb:=0) (Up:=[]) (bL:=bL) au iL aY aN cA QK (λbi _=>rfl) I I (growslice_fits I (by grind));simp at kX;obtain⟨bG,az,v,aj,an,aM,bs⟩:=WL R (wm s) Y hm Ig (grownCap_ge w m 0 e) (by rw[size_zeroCells,wO]) aq rfl;exact⟨bG,az,v,_,_,aj,an,aM,bs,kX⟩
 .rw[fg]at M;obtain⟨eh,cm,v1,B,rfl,oI,v2,vo,K4⟩:=M;have aC:=bP.lt R v1;have aV:=R.obj a aC;rw[pC]at D;obtain⟨ax,n,ZT,ak,fY,ee,qY,F⟩:=Hi D;obtain⟨bC,aq⟩:=C3 F;obtain⟨aX,aL⟩:=fi aq;obtain⟨b4,bO⟩:=fi aL;obtain⟨dc,cr⟩:=fi bO;rw[k5]at cr;obtain⟨eC,fK⟩:=fi cr;have aX:=dA.1 aX;have b4:=dA.1 b4;have dc:=dA.1 dc;rw[dT]at eC;have eC:(len+m)*(b+1)<=2147483647:=eC;have BW:=aoO eC;subst bC;subst aX;subst b4;subst dc;have wg:(H.get a).live=true:=by rw[qY];rfl
  rw[qY]at aV;obtain⟨asL,gn,jq,ci,cL,dP,fW,gi,iW,gE,oc⟩:=aV;rw[v1]at cL;cases cL;rw[fW rfl]at dP;have ab2:∀nb,nb<len+m->Builtin.nextslicecap (len+m) nb*i.bytes<=281474976710656:=λnb h=>growslice_fits h (by grind);rcases iE fK with⟨hu,hI⟩|⟨hu,hI⟩
  .subst hu;obtain⟨vn,lK⟩:=fi hI;subst vn;obtain⟨ic,s4⟩:=fi lK;obtain⟨hF,pp⟩:=fi s4;obtain⟨oa,Ab⟩:=fi pp;have ic:=dA.1 ic;have hF:=dA.1 hF;have oa:=dA.1 oa;subst ic;subst hF;subst oa;have oI:=oI.elim id λh=>absurd h.2.2 (Nat.lt_irrefl 0);subst oI;obtain⟨o6,s1,aj,an,aM⟩:=aa7 Ab;rw[tG,s9]at s1;have ZH:lc ae o6 len (s+1) jq:=λr ag=>by obtain⟨X',fc,gv,n5,xq⟩:=gE r ag;grind
   have BU:len+m<=(o6.jl l len).cap:=by simp_all[Rows.ur]
   by_cases Fk:len+m<=cm
   .have LQ:0+len*(s+1)+eR.flatten.length<=jq.size:=by rw[pz,oc.1,pW,<-zO];exact q4 _ Fk
    have pG:=Nn P eh (0+len*(s+1)) ak eR.flatten 0 jq w dP (by simp_all) Y.z8;have kX:=SM (base:=some ⟨eh,0*(s+1),none⟩) (mv:=len) (nb:=cm - 0) (bL:=bL) au iL aY M9 ll I;simp only[uW,JT]at kX;rw[pG]at kX;generalize wE:(List.toArray (jq.toList.take (0+len*(s+1))++eR.flatten++jq.toList.drop (0+len*(s+1)+eR.flatten.length)))=fF at*;have oh:∀q,fF[q]?=if 0+len*(s+1)<=q/\q<0+len*(s+1)+eR.flatten.length then eR.flatten[q - (0+len*(s+1))]? else jq[q]?:=by intro q;rw[<-wE,Ht,Kq _ _ _ _ (by simp_all)];simp
    have ad5:fF.size=jq.size:=by grind
    have x0:lc ae (o6.jl l len) (len+m) (s+1) fF:=by
     refine lc.jl ZH Y aj I (λr ag=>I) (λq a0=>?_) (λr j ag bl a0=>?_)
     .simp_all
     .have:=EV bl ag;grind
    obtain⟨bG,az,cT,cN,el,e0⟩:=adJ R (ep:=eh) (gn:=cm) aC wg v1 (.inl rfl) (by simp_all) (λq _ a0=>setRow_other w eh q fF a0) rfl rfl rfl
     (setRow_heap w eh jq fF ak (0,0) dP) (wm s) BU I x0 (by simp_all) Fk s1
    exact⟨bG,az,_,_,_,cT,cN,el,e0,by simp_all⟩
   .obtain⟨vQ,dC,b3⟩:=gE.range len 0 I;have afF:vQ.flatten.length=len*(s+1):=by rw[dC.Ac,Rows.Gh]
    have KZ:∀bi,bi.heap=w.heap->(Builtin.firstCells i.size len (.slice (some ⟨eh,0*(s+1),none⟩) len (cm - 0))).run P bi=.ok (List.toArray vQ.flatten) bi:=by intro bi cw;refine MF bi i.size len _ len _ vQ.flatten (by grind) λj x M=>?_;rw[uW,cell_of_row bi eh _ jq ak (0,0) (by simp_all),b3 j (by grind)];grind
    have kX:=SN (base:=some ⟨eh,0*(s+1),none⟩) (mv:=len) (nb:=cm - 0) (bL:=bL) au iL aY aN cA QK KZ I I (ab2 _ I);have kf:=grownCap_ge w (len+m) (cm - 0) ak;generalize grownCap w (len+m) (cm - 0) ak=cap at*;have am2:(vQ.flatten++eR.flatten).length=(len+m)*(s+1):=by grind
    have x0:lc ae (o6.jl l len) (len+m) (s+1) (List.toArray (vQ.flatten++eR.flatten)++Builtin.zeroCells g9.cells (cap - (len+m))):=by
     refine lc.jl ZH Y aj I (λr ag=>I) (λq a0=>?_) (λr j ag bl a0=>?_)
     .grind
     .have:=EV bl ag;grind
    have LV:(List.toArray (vQ.flatten++eR.flatten)++Builtin.zeroCells g9.cells (cap - (len+m))).size=cap*(s+1):=by simp only[YH,Je,am2,size_zeroCells,wO,<-zO];simp_all
    obtain⟨bG,az,cT,cN,el,e0⟩:=adJ R (ep:=w.heap.size) (gn:=cap) (bi:=w.drew.alloc (.cells (List.toArray (vQ.flatten++eR.flatten)++Builtin.zeroCells g9.cells (cap - (len+m))) ak)) aC wg v1 (.inr (fI _))
     (by simp_all) (λq a0 _=>CC w.drew _ a0) rfl rfl rfl
     (Kk w.drew _) (wm s) BU I x0 LV kf s1
    exact⟨bG,az,_,_,_,cT,cN,el,e0,kX⟩
  .subst hu;have oI:=oI.elim id λh=>by grind
   subst oI;obtain⟨vn,lK⟩:=C3 hI;subst vn;rcases iE lK with⟨ic,s4⟩|⟨ic,s4⟩
   .rw[dT]at ic;have ic:len+m<=c:=ic;obtain⟨hF,pp⟩:=fi s4;rw[dT]at hF;have hF:eB+(len+m)<=n:=hF;rw[tG,s9]at pp;have hle:(eB+(len+m))*(s+1)<=n*(s+1):=q4 _ hF;have LQ:eB*(s+1)+len*(s+1)+eR.flatten.length<=jq.size:=by grind
    have pG:=Nn P eh (eB*(s+1)+len*(s+1)) ak eR.flatten 0 jq w dP (by simp_all) Y.z8;simp only[Jv]at pG;have kX:=SM (base:=some ⟨eh,eB*(s+1),none⟩) (mv:=len) (nb:=c) (bL:=bL) au iL aY M9 ll ic;simp only[uW]at kX;rw[pG]at kX;simp only[jt]at kX;generalize wE:(List.toArray (jq.toList.take (eB*(s+1)+len*(s+1))++eR.flatten++jq.toList.drop (eB*(s+1)+len*(s+1)+eR.flatten.length)))=fF at*;have oh:∀q,fF[q]?=if eB*(s+1)+len*(s+1)<=q/\q<eB*(s+1)+len*(s+1)+eR.flatten.length then eR.flatten[q - (eB*(s+1)+len*(s+1))]? else jq[q]?:=by intro q;rw[<-wE,Ht,Kq _ _ _ _ (by simp_all)];simp
    have ad5:fF.size=jq.size:=by grind
    have auY:(eB+len)*(s+1)=eB*(s+1)+len*(s+1):=zO _ _ _;have x0:lc ae (ax.jl l (eB+len)) n (s+1) fF:=by
     refine lc.jl gE Y iW I (λr ag=>.inl ag) (λq a0=>?_) (λr j ag bl a0=>?_)
     .simp_all
     .rw[oh,cO ?_];rcases a0 with a0|a0
      .have:=EV bl a0;omega
      .have lD:(eB+len+m)*(s+1)<=r*(s+1):=q4 _ I;grind
    obtain⟨cN,el⟩:=SJ R aC wg v1 (B:=.cells (ax.jl l (eB+len)) n (s+1) ak false false) (bi:=w.setRow eh fF) (setRow_size _ _ _) (λq a0=>setRow_other w eh q fF a0) rfl rfl rfl
     ⟨eh,cm,fF,(0,0),v1,setRow_heap w eh jq fF ak (0,0) dP,λ_=>rfl,gi,by simp_all[Rows.ur],x0,by simp_all⟩
    refine⟨ae,_,_,_,_,pp,?_,cN,el,kX⟩;simp only[bP];simp_all
   .have ic:c<len+m:=Sg ic;obtain⟨hF,pp⟩:=fi s4;rw[dT]at hF;have Ab:=T5 pp;rw[q8]at Ab;obtain⟨vQ,dC,b3⟩:=gE.range len eB hF;have afF:vQ.flatten.length=len*(s+1):=by rw[dC.Ac,Rows.Gh]
    have KZ:∀bi,bi.heap=w.heap->(Builtin.firstCells i.size len (.slice (some ⟨eh,eB*(s+1),none⟩) len c)).run P bi=.ok (List.toArray vQ.flatten) bi:=by intro bi cw;refine MF bi i.size len _ len _ vQ.flatten (by grind) λj x M=>?_;rw[uW,cell_of_row bi eh _ jq ak (0,0) (by simp_all),b3 j (by grind)];grind
    have kX:=SN (base:=some ⟨eh,eB*(s+1),none⟩) (mv:=len) (nb:=c) (bL:=bL) au iL aY aN cA QK KZ ic I (ab2 _ ic);have nD:=dC.append Y;rw[<-List.flatten_append]at kX;obtain⟨bG,az,v,aj,an,aM,bs⟩:=WL R (wm s) nD (by simp_all[Rows.Gh]) I (grownCap_ge w (len+m) c ak) (by rw[size_zeroCells,wO]) Ab rfl;exact⟨bG,az,v,_,_,aj,an,aM,bs,kX⟩
end
section
variable{P:Program}{es:aO}{ah:dM}{L:cx}{T:ca}
def agB{e:TypeId}{q:Nat}(h:(tt P e).map (·.length)=some q):∃(i:TypeInfo)(g9:Value),P.info? e=some i/\i.zero=some g9/\g9.cells.size=q:=by
 cases cA:tt P e with
 |none=>simp_all|some l=>rw[cA]at h;have⟨i,g9,eR,D,F,aq,aL,bO,cr⟩:=VB cA;refine⟨i,g9,D,F,?_⟩;have:=(aL λ_=>none).length;simp_all
def ah3{ae}{H}{w}(R:Rel ae H w){call}{t a6 bL}{cs fh}{X et}{k a8}(h:(wW P t a6 cs fh).f call L T H k a8)(M:bP ae (cs.g L T) X)(aE:bP ae (fh.g L T) et):Ge P ae H w (Builtin.append_ #[t,a6] bL #[X,et]) k:=by
 obtain⟨cs⟩:=cs;obtain⟨fh⟩:=fh;simp at M aE;unfold wW at h;simp at h;split at h
 .rename_i e hu;split at h
  .rename_i s b q ap aB a0;obtain⟨i,g9,gV,gA,yj⟩:=agB a0;have iH:i.size=s+1:=by simp_all[fy,GP]
   have aex:i.bytes=b+1:=by simp_all[vO,GP]
   split at h
   .rename_i j5 wZ Py;split at h
    .have wZ:=dA.1 wZ;change ta (s+1) (fh L T) H (λm l=>sV e (s+1) (b+1) (cs L T) m l H k)=true at h;obtain⟨m,l,D,F,aq⟩:=PP h;obtain⟨eR,aj,an,aM,_⟩:=aq ae w et aE R;exact adK R hu Py (by simp) gV gA iH aex (yj.trans wZ) M aj F I aM D
    .exact ci h
   .rename_i wZ Py;have wZ:=dA.1 wZ;split at h
    .obtain⟨l,n,aP,D⟩:=sL h;obtain⟨F,aq⟩:=fi D;rw[dT]at F;rw[aP]at aE;obtain⟨_,rfl⟩:=aE;exact adK R hu Py (by simp) gV gA iH aex (yj.trans wZ) M (Q4 l n) (Hc l n) I (ahb w l n) aq
    .exact ci h
   .exact ci h
  .exact ci h
 .exact ci h
def ahc{ae H w a ax n z ak u b cm l eR m i}(R:Rel ae H w)(aC:fv a)(qY:H.get a=.cells ax n z ak u false)(ag:ae a=some (b,cm))(Y:li ae z l eR)(hm:l.length=m)(aN:i+m<=n):∃bi,(storeCells ⟨b,i*z,none⟩ eR.flatten).run P w=.ok () bi/\Rel ae (H.put a (.cells (ax.jl l i) n z ak u false)) bi/\Step ae H w ae (H.put a (.cells (ax.jl l i) n z ak u false)) bi:=by
 have wg:(H.get a).live=true:=by rw[qY];rfl
 have aV:=R.obj a aC;rw[qY]at aV;have⟨ep,gn,jq,ci,cL,dP,fW,gi,iW,gE,oc⟩:=aV;rw[ag]at cL;cases cL;rw[fW rfl]at dP;have pz:eR.flatten.length=m*z:=by rw[Y.Ac,hm]
 have hle:(i+m)*z<=n*z:=q4 _ aN;rw[zO]at hle;have aD:n*z<=jq.size:=by
  grind
 have LQ:i*z+eR.flatten.length<=jq.size:=by grind
 have pG:=Nn P b (i*z) ak eR.flatten 0 jq w dP (by simp_all) Y.z8;simp only[Jv]at pG;generalize wE:(List.toArray (jq.toList.take (i*z)++eR.flatten++jq.toList.drop (i*z+eR.flatten.length)))=fF at*;have oh:∀q,fF[q]?=if i*z<=q/\q<i*z+eR.flatten.length then eR.flatten[q - i*z]? else jq[q]?:=by intro q;rw[<-wE,Ht,Kq _ _ _ _ (by simp_all)];simp
 have ad5:fF.size=jq.size:=by grind
 have x0:lc ae (ax.jl l i) n z fF:=by
  refine lc.jl gE Y iW I (λr ag=>.inl ag) (λq a0=>?_) (λr j ag bl a0=>?_)
  .simp_all
  .rw[oh,cO ?_];rcases a0 with a0|a0
   .have:=EV bl a0;omega
   .have lD:(i+m)*z<=r*z:=q4 _ I;grind
 have⟨cN,el⟩:=SJ R aC wg ag (B:=.cells (ax.jl l i) n z ak u false) (bi:=w.setRow b fF) (setRow_size _ _ _) (λq a0=>setRow_other w b q fF a0) rfl rfl rfl
  ⟨b,cm,fF,(0,0),ag,setRow_heap w b jq fF ak (0,0) dP,λ_=>rfl,gi,by simp_all[Rows.ur],x0,by simp_all⟩
 simp_all
def akS{ae}{H}{w}(R:Rel ae H w){call}{t a6 bL}{cs fh}{X et}{k a8}(h:(QL P t a6 cs fh).f call L T H k a8)(M:bP ae (cs.g L T) X)(aE:bP ae (fh.g L T) et):Ge P ae H w (Builtin.copy_ #[t,a6] bL #[X,et]) k:=by
 have⟨cs⟩:=cs;simp at M aE;unfold QL at h;simp at h;split at h
 .rename_i e b7 hu vn;split at h
  .rename_i s ap auD;have⟨a,i,len,c,u,z,fg,D⟩:=afc h;rw[fg]at M;obtain⟨b,cm,v1,B,rfl,oI,v2,vo,K4⟩:=M;have⟨m,l,F,hm,aq⟩:=PP (P:=P) D;have⟨eR,aj,an,aM,_⟩:=aq ae w et aE R;have aC:=bP.lt R v1;rw[pC]at F;have⟨ax,n,cJ,ak,fY,ee,qY,aL⟩:=Hi F;have⟨bC,bO⟩:=C3 aL;have⟨aX,cr⟩:=fi bO;have⟨b4,fK⟩:=fi cr;have⟨dc,hI⟩:=fi fK;have⟨eC,lK⟩:=fi hI;have aX:=dA.1 aX;have b4:=dA.1 b4;rw[dT]at dc eC;rw[tG,s9]at lK;subst bC;rw[<-aX]at qY;rw[<-b4]at aj;have⟨bi,cT,cN,el⟩:=ahc (P:=P) R aC qY v1 aj hm eC;have cT:(storeCells ⟨b,B,none⟩ eR.flatten).run P w=.ok () bi:=oI.elim (λe=>e▸cT) λe=>by
     have a3:l=[]:=List.length_eq_zero_iff.1 (by omega)
     subst a3;cases eR with
     |nil=>exact cT
     |cons _ _=>cases aj
   refine⟨ae,_,.int 3 m,.int .i64 m,bi,lK,wS I,cN,el,?_⟩;have ak2:Nat.min m len=m:=DE dc;have qw:fy P e=some (s+1):=ap;simp[Builtin.copy_,h6 hu,aM.len,ak2,rF qw,aM.cells w rfl,cT,goInt]
  .exact ci h
 .exact ci h
end
end Go.Ev
