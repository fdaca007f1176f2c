/- Part of the proof of PrinterLines. -/
import Derived.Laws.BytesString
import Derived.Test.YtddaefckjmdfoaaGreatDoorE5
set_option linter.all false
namespace Go.Ev
open Go
section
variable{P:Program}{es:aO}{ae:dv}{L:cv}{T:b4}
variable{H:bd}{a b n ca:Nat}{w:World}{aa:cE}
def F6{bF}(H:bd)(aD:eR a)(b5:eR bF):(H.put a .dead).get bF=if bF=a then .dead else H.get bF:=bd.nG H a bF .dead aD b5
def ahS{k}(aD:eR a)(h:kI aa (H.put a .dead) k):kI aa H k:=by
 have⟨bF,b5,K,ca,ad⟩:=h;rw[F6 H aD b5] at K;by_cases e:bF=a
 .rw[b3 e] at K;exact bS K
 .rw[bA e] at K;exact⟨bF,b5,K,ca,ad⟩
def ae0(R:Rel aa H w)(aD:eR a):Rel aa (H.put a .dead) w:=by
 refine⟨R.next,R.pH,λbF b5=>?_,λbN a2 B F df cH b ca fs dc cl=>?_⟩
 .rw[F6 H aD b5];by_cases e:bF=a
  .rw[b3 e];trivial
  .rw[bA e];exact R.obj bF b5
 .rw[F6 H aD B] at df;rw[F6 H aD F] at cH;by_cases aZ:bN=a
  .rw[b3 aZ] at df;exact bS df
  .by_cases aN:a2=a
   .rw[b3 aN] at cH;exact bS cH
   .rw[bA aZ] at df;rw[bA aN] at cH;exact R.inj bN a2 B F df cH b ca fs dc cl
def agW(R:Rel aa H w)(aD:eR a)(K:(H.get a).live)(ad:aa a=some (b,ca)):¬kI aa (H.put a .dead) b:=by
 rintro⟨bF,b5,hJ,fs,fN⟩;rw[F6 H aD b5] at hJ;by_cases e:bF=a
 .rw[b3 e] at hJ;exact absurd hJ x4
 .rw[bA e] at hJ;exact e (R.inj bF a b5 aD hJ K b fs ca fN ad)
def acd{dA z am c fs e k a8}(R:Rel aa H w)(aD:eR a)(K:(H.get a).live=true)(ad:aa a=some (b,ca))(av:dA=b\/w.heap.size<=dA)(gL:w.heap.size<=a8.heap.size)(az:∀k,k<w.heap.size->k≠b->a8.heap[k]?=w.heap[k]?)(al:a8.tape=w.tape)(vd:a8.os=w.os)(x0:a8.output=w.output)(bx:a8.heap[dA]?=some (.cells c e (0,0)))(bO:0<z)(aB:n<=am.cap)(kY:n<=2147483647)(yc:kA aa am n z c)(aw:c.size=fs*z)(Z8:n<=fs)(h:sJ (H.put a .dead) (.cells am n z e true false) k=true):∃bD aq,k H.next aq=true/\bk bD (.slice H.next 0 n 0 true z) (.slice (some ⟨dA,0,none⟩) n fs)/\Rel bD aq a8/\Step aa H w bD aq a8:=by
 have⟨B,F⟩:=RG h;have IC:=ae0 R aD;have Zc:=agW R aD K ad;have rH:aa H.next=none:=by
  cases h:aa H.next with
  |none=>rfl
  |some x=>exact absurd (R.pH _ _ h) (EK _)
 have hle:aa.le (aa.set H.next (dA,fs)):=cE.CC _ rH;have kn:(aa.set H.next (dA,fs)) H.next=some (dA,fs):=cE.Df _ _ _;have ay:ng (aa.set H.next (dA,fs)) a8 H.next (.cells am n z e true false):=by refine⟨dA,fs,c,(0,0),kn,bx,λ_=>rfl,bO,aB,yc.mono hle,?_⟩;rw[b3 rfl,aw];exact⟨rfl,p0 z Z8⟩
 have aig:Rel (aa.set H.next (dA,fs)) _ a8:=Ps (H:=H.put a .dead) (b:=dA) (ca:=fs) IC B gL ?_ ?_ ay
 .refine⟨_,_,F,?_,aig,cE.CC _ rH,λbF p3=>cE.rf _ _ Y,by show H.next<=H.next+1;omega,gL,?_,?_,?_,al,vd,x0⟩
  .simp only[bk];exact⟨dA,fs,kn,by simp,kY,by simpa using Z8,by simp⟩
  .intro c8 Ie iI;exact az c8 Ie λe=>iI (by rw[e];exact⟨a,aD,K,ca,ad⟩)
  .rintro c8 ⟨bF,b5,hJ,sT,fN⟩;have v6:({((H.put a .dead).put H.next (.cells am n z e true false)) with next:=H.next+1}:bd).get bF=if bF=H.next then .cells am n z e true false else(H.put a .dead).get bF:=
    bd.nG (H.put a .dead) H.next bF _ B b5
   have gS:=hJ;rw[show(H.put a .dead).next=H.next from rfl] at gS;rw[v6] at gS;by_cases e:bF=H.next
   .rw[e,kn] at fN;cases fN;rcases av with av|av
    .rw[av];exact .inr ⟨a,aD,K,ca,ad⟩
    .exact .inl av
   .rw[bA e] at gS;rw[cE.rf _ _ e] at fN;exact .inr (ahS aD ⟨bF,b5,gS,sT,fN⟩)
  .intro x I aJ;have iU:eR x:=eN;have v6:({((H.put a .dead).put H.next (.cells am n z e true false)) with next:=H.next+1}:bd).get x=if x=H.next then .cells am n z e true false else(H.put a .dead).get x:=
    bd.nG (H.put a .dead) H.next x _ B iU
   have anX:(({((H.put a .dead).put H.next (.cells am n z e true false)) with next:=H.next+1}:bd).get x).live=false:=by
    rw[v6,bA Y,F6 H aD iU];by_cases e:x=a
    .rw[b3 e];rfl
    .rw[bA e];exact aJ
   exact anX
 .rcases av with av|av
  .rw[av];exact .inr Zc
  .exact .inl av
 .intro c8 Ie lU;exact az c8 Ie λe=>Zc (e▸lU)
def Zj{q}(h:n*(b+1)<=q):n<=q:=by have:n*1<=n*(b+1):=Pc n Y;omega
def VS{aa}{H}{w}(R:Rel aa H w){t a6 bK e}{jx}{i}{gq}{s b}(al:P.underlying t=some (.slice e))(hS:P.underlying a6=some jx)(aJ:∀k,jx≠.int k)(aH:P.info? e=some i)(bO:i.zero=some gq)(ak:i.size=s+1)(av:i.bytes=b+1)(uY:gq.cells.size=s+1){x}{X er}{m}{l}{em}(I:bk aa x X)(K:kW aa (s+1) l em)(hm:l.length=m)(Pq:m<=2147483647)(i0:E6 P w (s+1) er m em.flatten){k}(h:sz e (s+1) (b+1) x m l H k):E5 P aa H w (Builtin.append_ #[t,a6] bK #[X,er]) k:=by
 have JS:eV P e=some (s+1):=by simp [eV,EC,aH,ak]
 have kN:em.flatten.length=m*(s+1):=by rw[K.yL,hm]
 have Q2:E6 P w i.size er m em.flatten:=by rw[ak];exact i0
 unfold sz at h;rcases Le h with⟨jV,B⟩|⟨a,dE,len,c,u,cI,jV,B⟩
 .rw[jV] at I;simp only[bk,iB] at I;subst I;rcases ic B with⟨q,F⟩|⟨q,F⟩
  .have q:=cF.1 q;subst q;refine⟨aa,H,.nil .s,.slice none 0 0,w,F,by simp only[bk,iB],R,Step.refl _ _ _,?_⟩;have:=PG (base:=none) (mn:=0) (m8:=0) (bK:=bK) al hS aJ JS i0 Y;exact this
  .have q:=ts q;obtain⟨aS,ah⟩:=eH F;rw[dn] at aS;have vz:m*(b+1)<=2147483647:=aS;have ahJ:=Zj vz;have jN:=Vf (base:=none) (mn:=0) (m8:=0) (Tj:=[]) (bK:=bK) al hS aJ aH bO Q2 (λa8 _=>rfl) Y Y (growslice_fits Y (by rw[jq,av];omega));simp only[jq,kv] at jN;obtain⟨bD,aq,v,g1,g2,g3,g4⟩:=XA R (zz s) K hm Pq (grownCap_ge w m 0 e) (by rw[size_zeroCells,uY]) ah rfl;exact⟨bD,aq,v,_,_,g1,g2,g3,g4,jN⟩
 .rw[jV] at I;simp only[bk] at I;obtain⟨eT,ca,v1,rfl,v2,tJ,Bd⟩:=I;have aD:=bk.lt R v1;have ay:=R.obj a aD;rw[pN] at B;obtain⟨am,n,VF,el,fa,dK,qB,F⟩:=J8 B;obtain⟨bq,ah⟩:=Di F;obtain⟨aS,aE⟩:=eH ah;obtain⟨bU,bt⟩:=eH aE;obtain⟨cU,b1⟩:=eH bt;rw[gT] at b1;obtain⟨eI,ep⟩:=eH b1;have aS:=cF.1 aS;have bU:=cF.1 bU;have cU:=cF.1 cU;rw[dn] at eI;have eI:(len+m)*(b+1)<=2147483647:=eI;have CT:=Zj eI;clear h B F ah aE bt b1;subst bq;subst aS;subst bU;subst cU;have uq:(H.get a).live=true:=by rw[qB];rfl
  rw[qB] at ay;obtain⟨aq1,fs,hY,bS,cQ,eL,jU,nR,qR,qJ,mU⟩:=ay;rw[v1] at cQ;cases cQ;rw[jU rfl] at eL;have aci:∀m8,m8<len+m->Builtin.nextslicecap (len+m) m8*i.bytes<=281474976710656:=λm8 h=>growslice_fits h (by rw[av];omega);rcases ic ep with⟨hu,fm⟩|⟨hu,fm⟩
  .subst hu;simp only[nI] at tJ Bd;obtain⟨u3,hI⟩:=eH fm;subst u3;simp only[nI] at mU;obtain⟨eY,oc⟩:=eH hI;obtain⟨ex,pG⟩:=eH oc;obtain⟨kd,vV⟩:=eH pG;have eY:=cF.1 eY;have ex:=cF.1 ex;have kd:=cF.1 kd;clear ep fm hI oc pG;subst eY;subst ex;subst kd;obtain⟨oQ,zN,g1,g2,g3⟩:=X2 vV;rw[sR,tf] at zN;have abv:kA aa oQ len (s+1) hY:=λr ad=>by obtain⟨Xf,dS,fw,lB,pZ⟩:=qJ r ad;rw[g3 r Y];exact⟨Xf,dS,fw,lB,pZ⟩
   have zE:len+m<=(oQ.iJ l len).cap:=by rw[Rows.tH];exact g1
   by_cases DH:len+m<=ca
   .have vz:0+len*(s+1)+em.flatten.length<=hY.size:=by rw[kN,mU.1,jq,<-lE];exact p0 _ DH
    have oD:=NW P eT (0+len*(s+1)) el em.flatten 0 hY w eL (by simpa using vz) K.Az;simp only[sb] at oD;have jN:=PG (base:=some ⟨eT,0*(s+1),none⟩) (mn:=len) (m8:=ca - 0) (bK:=bK) al hS aJ JS i0 Y;simp only[vF,Aw] at jN;rw[oD] at jN;simp only[ff] at jN;generalize s0:(List.toArray (hY.toList.take (0+len*(s+1))++em.flatten++hY.toList.drop (0+len*(s+1)+em.flatten.length)))=fo at*;have mc:∀q,fo[q]?=if 0+len*(s+1)<=q/\q<0+len*(s+1)+em.flatten.length then em.flatten[q - (0+len*(s+1))]? else hY[q]?:=by intro q;rw[<-s0,wi,Jf _ _ _ _ (by simpa using vz)];simp
    have Kh:fo.size=hY.size:=by rw[<-s0];simp only[mN,gP,jC,lu,JP];omega
    have yc:kA aa (oQ.iJ l len) (len+m) (s+1) fo:=by
     refine kA.iJ abv K g1 Y (λr ad=>Y) (λq ax=>?_) (λr M ad bb ax=>?_)
     .rw[mc,b3 (by rw[kN];rw[hm] at ax;omega)];congr 1;omega
     .have:=Fa bb ad;rw[mc,bA Y]
    obtain⟨bD,aq,dr,c3,dY,e9⟩:=acd R (dA:=eT) (fs:=ca) aD uq v1 (.inl rfl) (by rw[setRow_size];exact ez _) (λq _ ax=>setRow_other w eT q fo ax) rfl rfl rfl
     (setRow_heap w eT hY fo el (0,0) eL) (zz s) zE Y yc (by rw[Kh,mU.1]) DH zN
    exact⟨bD,aq,_,_,_,dr,c3,dY,e9,by simpa using jN⟩
   .obtain⟨vr,dc,cl⟩:=qJ.range len 0 Y;have Bp:vr.flatten.length=len*(s+1):=by rw[dc.yL,Rows.Dz]
    have KJ:∀a8,a8.heap=w.heap->(Builtin.firstCells i.size len (.slice (some ⟨eT,0*(s+1),none⟩) len (ca - 0))).run P a8=.ok (List.toArray vr.flatten) a8:=by intro a8 bx;refine MM a8 i.size len _ len _ vr.flatten (by rw[ak,Bp]) λM x I=>?_;rw[vF,cell_of_row a8 eT _ hY el (0,0) (by rw[bx];exact eL),cl M (by rw[<-Bp];exact(jb.1 I).1)];exact I
    have jN:=Vf (base:=some ⟨eT,0*(s+1),none⟩) (mn:=len) (m8:=ca - 0) (bK:=bK) al hS aJ aH bO Q2 KJ Y Y (aci _ Y);have jd:=grownCap_ge w (len+m) (ca - 0) el;generalize grownCap w (len+m) (ca - 0) el=cap at*;have Rg:(vr.flatten++em.flatten).length=(len+m)*(s+1):=by rw[gP,Bp,kN,lE]
    have yc:kA aa (oQ.iJ l len) (len+m) (s+1) (List.toArray (vr.flatten++em.flatten)++Builtin.zeroCells gq.cells (cap - (len+m))):=by
     refine kA.iJ abv K g1 Y (λr ad=>Y) (λq ax=>?_) (λr M ad bb ax=>?_)
     .rw[hm] at ax;rw[Ig (by simp only[mN,Rg,lE];omega),wi,wb Y,Bp];congr 1;omega
     .have:=Fa bb ad;rw[Ig (by simp only[mN,Rg,lE];omega),wi,uX Y];have:=cl (r*(s+1)+M) Y;rw[Aw,jq] at this;exact this.symm
    have Eg:(List.toArray (vr.flatten++em.flatten)++Builtin.zeroCells gq.cells (cap - (len+m))).size=cap*(s+1):=by simp only[Kj,mN,Rg,size_zeroCells,uY,<-lE];congr 1;omega
    obtain⟨bD,aq,dr,c3,dY,e9⟩:=acd R (dA:=w.heap.size) (fs:=cap) (a8:=w.drew.alloc (.cells (List.toArray (vr.flatten++em.flatten)++Builtin.zeroCells gq.cells (cap - (len+m))) el)) aD uq v1 (.inr (ez _))
     (by rw[Mb];simp) (λq ax _=>Dm w.drew _ ax) rfl rfl rfl
     (JH w.drew _) (zz s) zE Y yc Eg jd zN
    exact⟨bD,aq,_,_,_,dr,c3,dY,e9,jN⟩
  .subst hu;simp only[n1,md] at tJ Bd;obtain⟨u3,hI⟩:=Di fm;subst u3;simp only[n1,md] at mU;rcases ic hI with⟨eY,oc⟩|⟨eY,oc⟩
   .rw[dn] at eY;have eY:len+m<=c:=eY;obtain⟨ex,pG⟩:=eH oc;rw[dn] at ex;have ex:dE+(len+m)<=n:=ex;rw[sR,tf] at pG;have hle:(dE+(len+m))*(s+1)<=n*(s+1):=p0 _ ex;have vz:dE*(s+1)+len*(s+1)+em.flatten.length<=hY.size:=by rw[kN,mU,tI,<-lE,<-lE];exact hle
    have oD:=NW P eT (dE*(s+1)+len*(s+1)) el em.flatten 0 hY w eL (by simpa using vz) K.Az;simp only[sb] at oD;have jN:=PG (base:=some ⟨eT,dE*(s+1),none⟩) (mn:=len) (m8:=c) (bK:=bK) al hS aJ JS i0 eY;simp only[vF] at jN;rw[oD] at jN;simp only[ff] at jN;generalize s0:(List.toArray (hY.toList.take (dE*(s+1)+len*(s+1))++em.flatten++hY.toList.drop (dE*(s+1)+len*(s+1)+em.flatten.length)))=fo at*;have mc:∀q,fo[q]?=if dE*(s+1)+len*(s+1)<=q/\q<dE*(s+1)+len*(s+1)+em.flatten.length then em.flatten[q - (dE*(s+1)+len*(s+1))]? else hY[q]?:=by intro q;rw[<-s0,wi,Jf _ _ _ _ (by simpa using vz)];simp
    have Kh:fo.size=hY.size:=by rw[<-s0];simp only[mN,gP,jC,lu,JP];omega
    have aeH:(dE+len)*(s+1)=dE*(s+1)+len*(s+1):=lE _ _ _;have yc:kA aa (am.iJ l (dE+len)) n (s+1) fo:=by
     refine kA.iJ qJ K qR Y (λr ad=>.inl ad) (λq ax=>?_) (λr M ad bb ax=>?_)
     .rw[hm] at ax;rw[mc,b3 (by rw[kN,aeH];omega),aeH];congr 1;omega
     .rw[mc,bA ?_];rcases ax with ax|ax
      .have:=Fa bb ax;omega
      .have js:(dE+len+m)*(s+1)<=r*(s+1):=p0 _ Y;rw[lE,lE] at js;rw[kN];omega
    obtain⟨c3,dY⟩:=St R aD uq v1 (D:=.cells (am.iJ l (dE+len)) n (s+1) el false false) (a8:=w.setRow eT fo) (setRow_size _ _ _) (λq ax=>setRow_other w eT q fo ax) rfl rfl rfl
     ⟨eT,ca,fo,(0,0),v1,setRow_heap w eT hY fo el (0,0) eL,λ_=>rfl,nR,by rw[Rows.tH];exact qR,yc,by rw[Kh];exact mU⟩
    refine⟨aa,_,_,_,_,pG,?_,c3,dY,jN⟩;simp only[bk];exact⟨eT,ca,v1,rfl,by show len+m<=_;omega,eY,Bd⟩
   .have eY:c<len+m:=Tg eY;obtain⟨ex,pG⟩:=eH oc;rw[dn] at ex;have ex:dE+len<=n:=ex;have vV:=Tq pG;rw[qM] at vV;obtain⟨vr,dc,cl⟩:=qJ.range len dE ex;have Bp:vr.flatten.length=len*(s+1):=by rw[dc.yL,Rows.Dz]
    have KJ:∀a8,a8.heap=w.heap->(Builtin.firstCells i.size len (.slice (some ⟨eT,dE*(s+1),none⟩) len c)).run P a8=.ok (List.toArray vr.flatten) a8:=by intro a8 bx;refine MM a8 i.size len _ len _ vr.flatten (by rw[ak,Bp]) λM x I=>?_;rw[vF,cell_of_row a8 eT _ hY el (0,0) (by rw[bx];exact eL),cl M (by rw[<-Bp];exact(jb.1 I).1)];exact I
    have jN:=Vf (base:=some ⟨eT,dE*(s+1),none⟩) (mn:=len) (m8:=c) (bK:=bK) al hS aJ aH bO Q2 KJ eY Y (aci _ eY);have mM:=dc.append K;rw[<-List.flatten_append] at jN;obtain⟨bD,aq,v,g1,g2,g3,g4⟩:=XA R (zz s) mM (by rw[gP,Rows.Dz,hm]) Y (grownCap_ge w (len+m) c el) (by rw[size_zeroCells,uY]) vV rfl;exact⟨bD,aq,v,_,_,g1,g2,g3,g4,jN⟩
end
section
variable{P:Program}{es:aO}{ae:dv}{L:cv}{T:b4}
def apq{e:TypeId}{q:Nat}(h:(sV P e).map (·.length)=some q):∃(i:TypeInfo)(gq:Value),P.info? e=some i/\i.zero=some gq/\gq.cells.size=q:=by
 cases bO:sV P e with
 |none=>rw[bO] at h;cases h
 |some l=>rw[bO] at h;have⟨i,gq,em,B,F,ah,aE,bt,b1⟩:=UV bO;refine⟨i,gq,B,F,?_⟩;have:=(aE λ_=>none).length;simp only[A5,Option.some.injEq] at h;rw[ah,mN,this,h]
def agS{aa}{H}{w}(R:Rel aa H w){call}{t a6 bK}{ce ee}{X er}{k aU}(h:(xk P t a6 ce ee).f call L T H k aU)(I:bk aa (ce.g L T) X)(ap:bk aa (ee.g L T) er):E5 P aa H w (Builtin.append_ #[t,a6] bK #[X,er]) k:=by
 obtain⟨ce⟩:=ce;obtain⟨ee⟩:=ee;simp only at I ap;unfold xk at h;simp only at h;split at h
 .rename_i e hu;split at h
  .rename_i s b q ak av ax;obtain⟨i,gq,lF,sH,Vr⟩:=apq ax;have gL:i.size=s+1:=by unfold eV at ak;rw[EC,lF] at ak;simpa using ak
   have Zt:i.bytes=b+1:=by unfold va at av;rw[EC,lF] at av;simpa using av
   split at h
   .rename_i kH wZ U2;split at h
    .rename_i z6;have wZ:=cF.1 wZ;change r6 (s+1) (ee L T) H (λm l=>sz e (s+1) (b+1) (ce L T) m l H k)=true at h;obtain⟨m,l,B,F,ah⟩:=PD h;obtain⟨em,g1,g2,g3,_⟩:=ah aa w er ap R;exact VS R hu U2 (by simp) lF sH gL Zt (Vr.trans wZ) I g1 F Y g3 B
    .exact bS h
   .rename_i wZ U2;have wZ:=cF.1 wZ;split at h
    .rename_i aqJ;obtain⟨l,n,aZ,B⟩:=uC h;obtain⟨F,ah⟩:=eH B;rw[dn] at F;rw[aZ] at ap;simp only[bk] at ap;obtain⟨_,rfl⟩:=ap;exact VS R hu U2 (by simp) lF sH gL Zt (Vr.trans wZ) I (SI l n) (G4 l n) Y (aim w l n) ah
    .exact bS h
   .exact bS h
  .exact bS h
 .exact bS h
def amz{aa H w a am n z el u b ca l em m i}(R:Rel aa H w)(aD:eR a)(qB:H.get a=.cells am n z el u false)(ad:aa a=some (b,ca))(K:kW aa z l em)(hm:l.length=m)(aH:i+m<=n):∃a8,(storeCells ⟨b,i*z,none⟩ em.flatten).run P w=.ok () a8/\Rel aa (H.put a (.cells (am.iJ l i) n z el u false)) a8/\Step aa H w aa (H.put a (.cells (am.iJ l i) n z el u false)) a8:=by
 have uq:(H.get a).live=true:=by rw[qB];rfl
 have ay:=R.obj a aD;rw[qB] at ay;have⟨dA,fs,hY,bS,cQ,eL,jU,nR,qR,qJ,mU⟩:=ay;rw[ad] at cQ;cases cQ;rw[jU rfl] at eL;have kN:em.flatten.length=m*z:=by rw[K.yL,hm]
 have hle:(i+m)*z<=n*z:=p0 _ aH;rw[lE] at hle;have aB:n*z<=hY.size:=by
  cases u with
  |true=>simp only[nI] at mU;exact mU.2
  |false=>simp only[n1,md] at mU;omega
 have vz:i*z+em.flatten.length<=hY.size:=by rw[kN];omega
 have oD:=NW P b (i*z) el em.flatten 0 hY w eL (by simpa using vz) K.Az;simp only[sb] at oD;generalize s0:(List.toArray (hY.toList.take (i*z)++em.flatten++hY.toList.drop (i*z+em.flatten.length)))=fo at*;have mc:∀q,fo[q]?=if i*z<=q/\q<i*z+em.flatten.length then em.flatten[q - i*z]? else hY[q]?:=by intro q;rw[<-s0,wi,Jf _ _ _ _ (by simpa using vz)];simp
 have Kh:fo.size=hY.size:=by rw[<-s0];simp only[mN,gP,jC,lu,JP];omega
 have yc:kA aa (am.iJ l i) n z fo:=by
  refine kA.iJ qJ K qR Y (λr ad=>.inl ad) (λq ax=>?_) (λr M ad bb ax=>?_)
  .rw[hm] at ax;rw[mc,b3 (by rw[kN];omega)];congr 1;omega
  .rw[mc,bA ?_];rcases ax with ax|ax
   .have:=Fa bb ax;omega
   .have js:(i+m)*z<=r*z:=p0 _ Y;rw[lE] at js;rw[kN];omega
 have⟨c3,dY⟩:=St R aD uq ad (D:=.cells (am.iJ l i) n z el u false) (a8:=w.setRow b fo) (setRow_size _ _ _) (λq ax=>setRow_other w b q fo ax) rfl rfl rfl
  ⟨b,ca,fo,(0,0),ad,setRow_heap w b hY fo el (0,0) eL,λ_=>rfl,nR,by rw[Rows.tH];exact qR,yc,by rw[Kh];exact mU⟩
 exact⟨_,oD,c3,dY⟩
def amn{aa}{H}{w}(R:Rel aa H w){call}{t a6 bK}{ce ee}{X er}{k aU}(h:(SC P t a6 ce ee).f call L T H k aU)(I:bk aa (ce.g L T) X)(ap:bk aa (ee.g L T) er):E5 P aa H w (Builtin.copy_ #[t,a6] bK #[X,er]) k:=by
 have⟨ce⟩:=ce;have⟨ee⟩:=ee;simp only at I ap;unfold SC at h;simp only at h;split at h
 .rename_i e ci hu u3;split at h
  .rename_i s ak asK;have⟨a,i,len,c,u,z,jV,B⟩:=ad6 h;rw[jV] at I;simp only[bk] at I;obtain⟨b,ca,v1,rfl,v2,tJ,Bd⟩:=I;have⟨m,l,F,hm,ah⟩:=PD (P:=P) B;have⟨em,g1,g2,g3,_⟩:=ah aa w er ap R;have aD:=bk.lt R v1;rw[pN] at F;have⟨am,n,cI,el,fa,dK,qB,aE⟩:=J8 F;have⟨bq,bt⟩:=Di aE;have⟨aS,b1⟩:=eH bt;have⟨bU,ep⟩:=eH b1;have⟨cU,fm⟩:=eH ep;have⟨eI,hI⟩:=eH fm;have aS:=cF.1 aS;have bU:=cF.1 bU;rw[dn] at cU eI;rw[sR,tf] at hI;subst bq;rw[<-aS] at qB;rw[<-bU] at g1;have⟨a8,dr,c3,dY⟩:=amz (P:=P) R aD qB v1 g1 hm eI;refine⟨aa,_,.int 3 m,.int .i64 m,a8,hI,xm Y,c3,dY,?_⟩;have ahd:Nat.min m len=m:=ws cU;have oq:eV P e=some (s+1):=ak;simp only[Builtin.copy_,wi,NT,s1,eU,hE hu,ff,g3.len,ahd,rj oq,g3.cells w rfl,dr,eB,goInt]
  .exact bS h
 .exact bS h
end
section
variable{P:Program}{es:aO}{ae:dv}{L:cv}{T:b4}
def aqo(b)(len num):cL (len+1) (b.toNat+256*num)=b::cL len num:=by have av:b.toNat<256:=b.toNat_lt;have B:(b.toNat+256*num) % 256=b.toNat:=Y;have F:(b.toNat+256*num) / 256=num:=Y;simp only[cL,B,F];simp
def aaG:∀{l}{k},B3 l k->∃num,k l.length num/\∀(aa)(em),kW aa 1 l em->em.flatten=(cL l.length num).map λb=>Value.int .u8 b.toNat
 |[],k,h=>⟨0,h,λaa em mM=>by cases mM;rfl⟩
 |r::l,k,h=>by
  unfold B3 at h;cases r with
  |nil=>exact bS h
  |cons v r=>
   have⟨c,n,e,B⟩:=n9 (v:=v) h;have⟨F,ah⟩:=eH B;have F:=cF.1 F;have⟨num,aE,bt⟩:=aaG ah;rw[gT] at aE;refine⟨n+256*num,aE,λaa em mM=>?_⟩;obtain⟨X,fX,rfl,bq,aS,bU,cU⟩:=mM;have ad:r=[]:=by simpa using aS
   subst ad;obtain⟨V,Xf,rfl,eI,my⟩:=bq.cons_inv;simp only[cK] at my;subst my;rw[e,F] at eI;simp only[bk] at eI;obtain⟨_,xo,rfl⟩:=eI;have xo:n<256:=xo;have aB:(UInt8.ofNat n).toNat=n:=by simp only[AX];exact mZ xo
   have:=aqo (UInt8.ofNat n) l.length num;rw[aB] at this;simp only[wK,nD,this,fA,bt aa fX cU,aB];rw[ke (by exact xo)];rfl
def foldl_push:∀(cC:k9)(acc),(cC.map λb=>((b.toNat:Nat):Int)).foldl (λ(r:ByteArray)(n)=>r.push (UInt8.ofNat n.toNat)) ⟨acc.toArray⟩=⟨(acc++cC).toArray⟩
 |[],acc=>by simp
 |b::cC,acc=>by
  rw[fA,x1];have:(⟨acc.toArray⟩:ByteArray).push (UInt8.ofNat (((b.toNat:Nat):Int).toNat))=⟨(acc++[b]).toArray⟩:=by apply ByteArray.ext;simp [ByteArray.push]
  rw[this,foldl_push cC (acc++[b])];simp
def tY(cC:k9)(n:Nat):Array Value:=List.toArray (cC.map λb:UInt8=>Value.int .u8 b.toNat)++Array.replicate n (Value.int .u8 0)
def agI(w:World)(c)(e):((w.alloc (.cells c e)).freeze ⟨w.heap.size,c.size,none⟩ 1).heap[w.heap.size]?=some (.cells c e (c.size,c.size+1))/\(∀k,k<w.heap.size->((w.alloc (.cells c e)).freeze ⟨w.heap.size,c.size,none⟩ 1).heap[k]?=w.heap[k]?)/\((w.alloc (.cells c e)).freeze ⟨w.heap.size,c.size,none⟩ 1).heap.size=w.heap.size+1:=by
 unfold World.freeze;rw[bA ag];refine⟨?_,λk az=>?_,?_⟩
 .simp only[Array.getElem?_modify,nI,JH,A5];rfl
 .simp only[Array.getElem?_modify];rw[bA Y];exact Dm w _ az
 .show(Array.modify _ _ _).size=_;rw[Array.size_modify];exact Mb w _
def aja{s d e}(ak:P.underlying s=some .string)(aJ:P.underlying d=some (.slice e))(hu:P.underlying e=some (.int .u8))(cC)(w):(convert s d (.string ⟨cC.toArray⟩)).run P w=.ok (.slice (some ⟨w.heap.size,0,none⟩) cC.length (grownCap w cC.length 0 e)) ((w.drew.alloc (.cells (tY cC (grownCap w cC.length 0 e - cC.length)) e)).freeze ⟨w.drew.heap.size,(tY cC (grownCap w cC.length 0 e - cC.length)).size,none⟩ 1):=by
 simp only[convert,eU,hE ak,hE aJ,hE hu,ff,Conv.stringToBytes,run_choose,Question.forced,n1,md,BU,Cq,
  markStringish,run_shape,eB]
 have sZ:∀c:Array Value,(w.drew.alloc (.cells c e)).shape? w.heap.size=some (e,c.size):=by intro c;have:=JH w.drew (.cells c e);rw[World.size_drew] at this;simp only[World.shape?,this]
 have ajH:({w with drawn:=w.drawn+1}:World)=w.drew:=rfl;simp only[ajH];rw[sZ];simp only[run_freeze,ff];simp only[tY,grownCap,List.map_toArray];rfl
def ae7{aa}{H}{w}(R:Rel aa H w){call}{s d}{ce}{X}{k aU}(h:(GQ P s d ce).f call L T H k aU)(I:bk aa (ce.g L T) X):E5 P aa H w (convert s d X) k:=by
 have⟨ce⟩:=ce;simp only at I;unfold GQ at h;simp only at h;split at h
 .rename_i e ak aJ;split at h
  .rename_i hu gL;change r6 1 (ce L T) H (λ_ l=>B3 l λlen num=>k (.str len num) H)=true at h;have⟨m,l,B,hm,F⟩:=PD (P:=P) h;have⟨num,ah,aE⟩:=aaG B;obtain⟨em,g1,g2,g3,a,n,c,rfl⟩:=F aa w X I R;have kN:=aE aa em g1;refine⟨aa,H,_,_,w,ah,QP Y,R,Step.refl _ _ _,?_⟩;have fy:=g3.len w;simp only[Builtin.lenOf,eB,Result.ok.injEq,and_true] at fy;subst fy;rw[run_convert_bytes_string w s d e a n c ak hu aJ];have aw:=g3.cells w rfl;cases a with
   |none=>
    simp only[Builtin.firstCells,eB,Result.ok.injEq,and_true] at aw;have bt:em.flatten=[]:=by have:=mJ Array.toList aw;simpa using this.symm
    rw[bt] at kN;have b1:l.length=0:=by have:=mJ List.length kN;simpa [pP] using this.symm
    rw[b1];rfl
   |some AB=>
    simp only[Builtin.firstCells,DJ] at aw;rw[kN] at aw;have aZ:(cL l.length num).map (λb=>Value.int .u8 b.toNat)=((cL l.length num).map λb=>((b.toNat:Nat):Int)).map (Value.int .u8):=by simp
    rw[aZ] at aw;rw[run_bytesToString w AB n c _ aw];have:=foldl_push (cL l.length num) [];rw[show(ByteArray.empty:ByteArray)=⟨([]:k9).toArray⟩ from rfl,this];simp
  .exact bS h
 .rename_i e ak aJ;split at h
  .rename_i hu gL;have⟨l,n,aZ,B⟩:=uC h;rw[aZ] at I;simp only[bk] at I;obtain⟨K,rfl⟩:=I;have⟨TS,B⟩:=eH B;have⟨am,lK,agB,F⟩:=aqi (dn.1 TS) B;rw[sR] at F;have⟨ah,aE⟩:=RG F;have rH:aa H.next=none:=by
    cases h:aa H.next with
    |none=>rfl
    |some x=>exact absurd (R.pH _ _ h) (EK _)
   have jd:=grownCap_ge w l 0 e;have jN:=aja ak aJ hu (cL l n) w;rw[pP] at jN;generalize grownCap w l 0 e=cap at*;have⟨gN,gj,hU⟩:=agI w.drew (tY (cL l n) (cap - l)) e;have JS:(tY (cL l n) (cap - l)).size=cap:=by simp only[tY,Kj,mN,dt,pP,Array.size_replicate];omega
   have hle:aa.le (aa.set H.next (w.heap.size,cap)):=cE.CC _ rH;have kn:(aa.set H.next (w.heap.size,cap)) H.next=some (w.heap.size,cap):=cE.Df _ _ _;have zE:l<=(am.iJ (vJ l n) 0).cap:=by rw[Rows.tH];exact lK
   have ars:(am.iJ (vJ l n) 0).cap<=512:=by rw[Rows.tH];exact agB
   have ay:∀a8:World,a8.heap[w.heap.size]?=some (.cells (tY (cL l n) (cap - l)) e ((tY (cL l n) (cap - l)).size,(tY (cL l n) (cap - l)).size+1))->
    ng (aa.set H.next (w.heap.size,cap)) a8 H.next (.cells (am.iJ (vJ l n) 0) l 1 e true true):=by
    intro a8 S0
    refine⟨w.heap.size,cap,_,_,kn,S0,λh=>absurd h ag,Nat.one_pos,zE,?_,?_⟩
    .refine kA.iJ (n:=0) (c:= #[]) kA.none (SI l n) lK (by rw[G4];omega) (λr ad=>.inr (by rw[G4];omega)) (λk az=>?_) (λr M ad=>Y);rw[G4] at az;rw[SA,Aw,jq];unfold tY;rw[Ig (by simp only[mN,dt,pP];omega)];simp
    .rw[b3 rfl,JS];omega
   have gL:w.heap.size<=((w.drew.alloc (.cells (tY (cL l n) (cap - l)) e)).freeze ⟨w.drew.heap.size,(tY (cL l n) (cap - l)).size,none⟩ 1).heap.size:=by rw[hU];simp
   refine⟨aa.set H.next (w.heap.size,cap),_,_,_,_,aE,?_,Ps R ah gL (.inl (ez _)) (λk az _=>gj k az) (ay _ gN),
    XZ R ah gL (.inl (ez _)) (λk az _=>gj k az) ?_ ?_ ?_,jN⟩
   .simp only[bk];exact⟨w.heap.size,cap,kn,by simp,Y,by simpa using jd,by simp⟩
   all_goals
    unfold World.freeze
    rw[bA ag]
    rfl
  .exact bS h
 .exact bS h
end
structure Dd(bI:World)(aa:cE)(H:bd)(w:World):Prop where
 size:bI.heap.size<=w.heap.size
 same:∀b,b<bI.heap.size->w.heap[b]?=bI.heap[b]?
 zj:∀b,kI aa H b->bI.heap.size<=b
 tape:w.tape=bI.tape
 os:w.os=bI.os
 output:w.output=bI.output
variable{H:bd}{T:b4}{V:Value}{a:Act}{call:cG}{d i aP t:Nat}{es l:aO}{k aU:bl->bd->Bool}{D:Oper}{v:bl}{w a8:World}{aa bD:cE}
def Dd.step{bI aq}(h:Dd bI aa H w)(s:Step aa H w bD aq a8):Dd bI bD aq a8 where
 size:=mq h.size s.size
 same b av:=(s.frame b (nV av h.size) λay=>by have:=h.zj b ay;omega).trans (h.same b av)
 zj b ay:=by
  rcases s.own b ay with B|B
  .exact mq h.size B
  .exact h.zj b B
 tape:=s.tape.trans h.tape
 os:=s.os.trans h.os
 output:=s.output.trans h.output
structure gQ(bI:World)(aa:cE)(H:bd)(w:World):Prop where
 rel:Rel aa H w
 jr:Dd bI aa H w
def IV(bI:World)(aa:cE)(H:bd)(w:World)(k:r9->bd->Bool):Ending->World->Prop:=λe a8=>
 ∃bD aq,gQ bI bD aq a8/\Step aa H w bD aq a8/\match e with
  |.returned V=>∃v,bk bD v V/\k (.val v) aq=true
  |.panicked KH=>∃v V,KH=[{v:=V,recovered:=false}]/\bk bD v V/\k (.nv v) aq=true
  |.outgrown=>False
def qx(P:Program)(bI:World)(call:cG):Prop:=∀(f:Nat)(args:cv)(H:bd)(k:r9->bd->Bool),call f args H k=true->
 ∃fn,P.funcs[f]?=some fn/\fn.body.isSome=true/\∀(aa:cE)(w:World)(g0:lh),cK aa args g0->gQ bI aa H w->Calls P f (List.toArray g0) w (IV bI aa H w k)
def Ol(P:Program)(bI:World)(aa:cE)(H:bd)(w:World)(D:Oper)(a:Act)(k aU:bl->bd->Bool):Prop:=
 ∀(next:Act->World->Prop)(bZ:Exit->Act->World->Prop),
  (∀bD aq v V a8,gQ bI bD aq a8->Step aa H w bD aq a8->bk bD v V->k v aq=true->next (a.put D.dst V) a8)->
  (∀bD aq v V a8,gQ bI bD aq a8->Step aa H w bD aq a8->bk bD v V->aU v aq=true->bZ (.panic [{v:=V,recovered:=false}]) a a8)->D.wp P a w next bZ
def oV(P:Program):Prop:=∀(f:Nat)(fn:Func),P.funcs[f]?=some fn->fn.body.isSome=true->(fn.name== "runtime.NumGoroutine")=false
section
variable{P:Program}{es:aO}{ae:dv}{L:cv}{T:b4}{bI:World}
def sd.out(R:gQ bI aa H w)(h:sd P aa H w (execOp a.eval D) k):Ol P bI aa H w D a k aU:=by
 intro next bZ B F
 have⟨bD,aq,v,V,a8,g1,g2,g3,g4,g5⟩:=h;have aB:=B bD aq v V a8 ⟨g3,R.jr.step g4⟩ g4 g2 g1;unfold Oper.wp;rcases g5 with g5|⟨g5,rfl⟩
 .rw[g5];exact aB
 .rw[g5];exact aB
def apv{c}{f}(aw:c.callee=.value f){aa}{bK}{g:Nat}{X er}{fn}(aI:aa f=.func (.func g) X er)(aB:oV P)(B:P.funcs[g]?=some fn)(F:fn.body.isSome)(w):(do let d <-resolve aa c bK;invoke d.target d.args:Sem Next).run P w=.ok (.enter g (X++c.args.map aa++er)) w:=by
 have av:fn.body.isNone=false:=by
  cases h:fn.body with
  |none=>rw[h] at F;cases F
  |some c=>rfl
 have akn:(callFunc g (X++c.args.map aa++er)).run P w=.ok (.enter g (X++c.args.map aa++er)) w:=by unfold callFunc;rw[eU,run_program,ff,B];simp only[aB g fn B F,av,n1,md,eB]
 unfold resolve;rw[aw];rw[eU];simp only[Deferred.ofValue,aI,eB,ff,invoke];exact akn
def alS{f c}(R:gQ bI aa H w)(f5:qx P bI call)(aB:oV P)(ay:D.op=.call c)(aw:c.callee=.value f)(h:(q3 es ae f c.args.toList).f call L T H k aU)(aI:i1 aa es ae L T a f)(q2:∀x∈c.args.toList,i1 aa es ae L T a x):Ol P bI aa H w D a k aU:=by
 intro next bZ B F
 have has:=JL q2;have dC:∀(g:Nat)(bY bJ:cv)(X er:Array Value),a.eval f=.func (.func g) X er->cK aa bY X.toList->cK aa bJ er.toList->
  call g (bY++((ol es ae c.args.toList).g L T++bJ)) H (λr H=>Ac r (λv=>k v H) (λv=>aU v H))=true->D.wp P a w next bZ:=by
  intro g bY bJ X er ar ch i0 mC
  have⟨fn,g1,g2,g3⟩:=f5 _ _ _ _ mC
  have jN:(execOp a.eval D).run P w=.ok (.enter g (X++c.args.map a.eval++er)) w:=by unfold execOp;rw[ay];exact apv aw ar aB g1 g2 w
  have K:X++c.args.map a.eval++er=List.toArray (X.toList++(c.args.toList.map a.eval++er.toList)):=by apply Array.ext';simp
  have sG:=g3 aa w (X.toList++(c.args.toList.map a.eval++er.toList)) (ch.append (has.append i0)) R
  rw[<-K] at sG
  unfold Oper.wp
  rw[jN]
  refine Calls.mono sG λe a8 mM=>?_
  have⟨bD,aq,dc,cl,hD⟩:=mM
  cases e with
  |returned V=>have⟨v,lS,oo⟩:=hD;exact B bD aq v V a8 dc cl lS oo
  |panicked KH=>obtain⟨v,V,rfl,lS,oo⟩:=hD;exact F bD aq v V a8 dc cl lS oo
  |outgrown=>exact hD.elim
 unfold q3 at h;generalize ol es ae c.args.toList=hH at h has dC;have⟨da⟩:=hH;unfold i1 at aI;generalize Yk:db es ae f=pz at h aI;have⟨pz⟩:=pz;have Vs:(BK (pz L T) λf bY bJ=>nx (da L T) bJ λr=>nx bY r λargs=>call f args H λr H=>Ac r (λv=>k v H) (λv=>aU v H))=true->D.wp P a w next bZ:=by intro h;have⟨g,bY,bJ,e,ah⟩:=adu h;simp only at aI;rw[e] at aI;simp only[bk] at aI;have⟨x8,yh,bq,aS,bU⟩:=aI;rw[qM,qM] at ah;exact dC g bY bJ (List.toArray x8) (List.toArray yh) bq aS bU ah
 cases f with
 |func g=>exact dC g [] [] #[] #[] rfl (by simpa using cK.nil) (by simpa using cK.nil) (by rw[kv,oK];exact h)
 |tmp t=>exact Vs h
 |const v=>exact Vs h
 |global g=>exact Vs h
def aj1{x y}{t}(ay:D.op=.store t x y)(f:Operand->Value)(h:(Instr.storeAt t (f x) (f y)).run P w=.ok () a8):(execOp f D).run P w=.ok .skip a8:=by unfold execOp;rw[ay];show(do Instr.storeAt t (f x) (f y);pure .skip:Sem Next).run P w=_;rw[eU,h];rfl
def Zd(R:gQ bI aa H w)(f5:qx P bI call)(aB:oV P)(h:(hN P es ae D.op).f call L T H k aU)(dT:∀x∈D.op.operands.toList,i1 aa es ae L T a x):Ol P bI aa H w D a k aU:=by
 have ay:D.op=D.op:=rfl;generalize Cv:D.op=op at h dT ay;unfold hN at h;split at h
 .rename_i t x;split at h;rename_i ce f Bm aI;have I:=dT x (by simp [Op.operands]);unfold i1 at I;rw[Bm] at I;have b5:(il P t).f (ce L T) H (λv=>k v H)=true:=by rw[aI];exact h
  have⟨v,bN,r,s,z,g1,g2,g3,g4⟩:=Vc b5;have wY:∃y,aa bN=some y:=by simp only at I;rw[g2] at I;simp only[bk] at I;have⟨b,ca,q,_⟩:=I;exact⟨_,q⟩
  have⟨y,ap⟩:=wY;have⟨yo,g5,g6⟩:=g4 aa w _ I (R.rel.obj bN (bk.lt R.rel ap));refine sd.out R ⟨aa,H,v,yo,w,g1,g5,R.rel,Step.refl _ _ _,.inl ?_⟩;unfold execOp;rw[Cv];show(do pure (.value (<-Instr.loadAt t (a.eval x))):Sem Next).run P w=_;rw[eU,g6];rfl
 .rename_i t x y;split at h;rename_i ce ee f Bm alO aI;have I:=dT x (by simp [Op.operands]);have ap:=dT y (by simp [Op.operands]);unfold i1 at I ap;rw[Bm] at I;rw[alO] at ap;have b5:(oy P t).f (ce L T) (ee L T) H (λH=>k .undef H)=true:=by rw[aI];exact h
  have⟨bN,r,s,z,bH,g1,g2,g3,g4,g5,g6⟩:=amQ b5;have wY:∃y,aa bN=some y:=by simp only at I;rw[g1] at I;simp only[bk] at I;have⟨b,ca,q,_⟩:=I;exact⟨_,q⟩
  have⟨q,ax⟩:=wY;have aD:=bk.lt R.rel ax;have⟨a8,b,ca,bq,aS,bU,cU,eI,my,xo,Ga⟩:=g6 aa w _ _ I ap (R.rel.obj bN aD);have⟨c3,dY⟩:=St R.rel aD g3 aS bU cU eI my xo Ga;exact sd.out R ⟨aa,_,.undef,undef,a8,g2,DN,c3,dY,.inr ⟨aj1 Cv a.eval bq,rfl⟩⟩
 .rename_i s d x;have:=(ae7 R.rel h (dT x (by simp [Op.operands]))).op;refine sd.out R (this.congr ?_);unfold execOp;rw[Cv]
 .rename_i x;split at h;rename_i ce Bm;have I:=dT x (by simp [Op.operands]);unfold i1 at I;rw[Bm] at I;have⟨t,v,e,B⟩:=aet h;simp only at I;rw[e] at I;have lq:=I;simp only[bk] at lq;have⟨X,ch,_⟩:=lq;intro next bZ g1 g2
  have jN:(execOp a.eval D).run P w=.halt (.panic (a.eval x)) w:=by unfold execOp;rw[Cv];show(do pure (.value (<-Instr.panic (a.eval x))):Sem Next).run P w=_;rw[eU,ch];rfl
  unfold Oper.wp;rw[jN];exact g2 aa H _ _ w R (Step.refl _ _ _) I B
 .rename_i c;split at h
  .rename_i f aw;refine alS R f5 aB Cv aw h (dT f (by simp [Op.operands,Call.operands,aw])) λx I=>dT x ?_;simp only[Op.operands,Call.operands,aw,Kx,jD];exact .inr I
  .rename_i aw;split at h
   .rename_i t a6 x y al I;have al:=Lo al;have iU:=Lo I;have:=(agS (bK:=D.type) R.rel h (dT x (by simp [Op.operands,Call.operands,aw,iU])) (dT y (by simp [Op.operands,Call.operands,aw,iU]))).op;refine sd.out R (this.congr ?_);unfold execOp;rw[Cv];simp only;have e:(#[x,y]:Array Operand).map a.eval= #[a.eval x,a.eval y]:=by simp
    rw[FO aw,al,iU,e];rfl
   .exact bS h
  .rename_i aw;split at h
   .rename_i t a6 x y al I;have al:=Lo al;have iU:=Lo I;have:=(amn (bK:=D.type) R.rel h (dT x (by simp [Op.operands,Call.operands,aw,iU])) (dT y (by simp [Op.operands,Call.operands,aw,iU]))).op;refine sd.out R (this.congr ?_);unfold execOp;rw[Cv];simp only;have e:(#[x,y]:Array Operand).map a.eval= #[a.eval x,a.eval y]:=by simp
    rw[FO aw,al,iU,e];rfl
   .exact bS h
  .exact bS h
 .exact bS h
end
def b4.zi(T:b4):C6->cS bl
 |.d0=>T.n5|.d1=>T.cw|.d2=>T.c7|.d3=>T.fu|.d4=>T.fh|.d5=>T.hC|.d6=>T.j9|.d7=>T.nL
def b4.st(T:b4)(d:C6)(v:cS bl):b4:=
 match d with
 |.d0=>{T with n5:=v}|.d1=>{T with cw:=v}|.d2=>{T with c7:=v}|.d3=>{T with fu:=v}|.d4=>{T with fh:=v}|.d5=>{T with hC:=v}|.d6=>{T with j9:=v}|.d7=>{T with nL:=v}
def b4.zP(T:b4)(s:Nat)(v:bl):b4:=T.st (dG (s / 8 % 8)) ((T.zi (dG (s / 8 % 8))).set (dG (s % 8)) v)
def b4.JJ(T:b4)(s):T.slot s=(T.zi (dG (s / 8 % 8))).get (dG (s % 8)):=by unfold b4.slot b4.zi;rfl
def b4.ail(T:b4)(d jx)(v:cS bl):(T.st d v).zi jx=if jx=d then v else T.zi jx:=by cases d<;>cases jx<;>rfl
def b4.Kq(T:b4)(s)(v):(T.zP s v).ae=T.ae:=by unfold b4.zP b4.st;cases dG (s / 8 % 8)<;>rfl
def b4.OC(T:b4)(s cP)(v)(h:s<64)(b5:cP<64):(T.zP s v).slot cP=if cP=s then v else T.slot cP:=by
 simp only[b4.JJ,b4.zP,b4.ail];by_cases e:cP=s
 .subst e;simp [cS.qZ]
 .rw[bA e];by_cases aZ:dG (cP / 8 % 8)=dG (s / 8 % 8)
  .rw[b3 aZ,cS.qZ,bA,aZ];intro aN;have:=aeD (nb _ ag) (nb _ ag) aZ;omega
  .rw[bA aZ]
def aeP(d)(T)(f:cS bl->(cS bl->Bool)->Bool)(k):(slt d).u T f k=f (T.zi d) λv=>k (T.st d v):=by cases d<;>rfl
def JN(s)(T)(v)(k):(xZ s).N T v k=k (T.zP s v):=by change(slt (dG (s / 8 % 8))).u T (λt k=>(bQ (dG (s % 8))).u t (λ_ k=>k v) k) k=_;rw[aeP,z8];rfl
def XB:∀{l:aO}{t i M},yb t l i=some M->i<=M/\l[M - i]?=some t
 |[],t,i,M,h=>by rw[ahj] at h;cases h
 |a::l,t,i,M,h=>by
  cases av:Nat.beq a t with
  |true=>rw[akS l i av] at h;cases h;refine⟨ez _,?_⟩;rw[Nat.sub_self,cF.1 av];rfl
  |false=>
   rw[amH l i av] at h;have⟨B,F⟩:=XB h;have B:i+1<=M:=B;refine⟨Y,?_⟩;have e:M - i=(M - Nat.succ i)+1:=by show M - i=(M - (i+1))+1;omega
   rw[e];simpa using F
def Nj(h:i2 t l=some i):l[i]?=some t:=by have:=(XB (show yb t l 0=some i from h)).2;simpa using this
def aao{a6}(h:i2 t l=some i)(b5:i2 a6 l=some i):t=a6:=by have B:=Nj h;rw[Nj b5] at B;exact(Er B).symm
def QH:∀{l}{t i},jp t l=some i->l[i]?=some (some t)
 |[],t,i,h=>by simp [jp] at h
 |none::l,t,i,h=>by
  simp only[jp] at h;cases ax:jp t l with
  |none=>rw[ax] at h;cases h
  |some M=>rw[ax] at h;simp at h;subst h;simpa using QH ax
 |some a::l,t,i,h=>by
  simp only[jp] at h;split at h
  .rename_i av;cases h;rw[cF.1 av];rfl
  .cases ax:jp t l with
   |none=>rw[ax] at h;cases h
   |some M=>rw[ax] at h;simp at h;subst h;simpa using QH ax
def aiz(aa:cE)(d:Ly)(aY:Deferred):Prop:=∃(g0 DI:lh),aY={target:=.fn (.func d.f) (List.toArray DI),args:=List.toArray g0}/\cK aa d.args g0/\cK aa d.cap DI
def EA(aa:cE):List Ly->List Deferred->Prop
 |[],aY=>aY=[]
 |d::l,aY=>∃X nA,aY=X::nA/\aiz aa d X/\EA aa l nA
def EA.mono(h:aa.le bD):∀{l}{aY},EA aa l aY->EA bD l aY
 |[],_,e=>e
 |_::_,_,⟨X,nA,e,⟨bP,C,B,F,ah⟩,aE⟩=>⟨X,nA,e,⟨bP,C,B,cK.mono h _ _ F,cK.mono h _ _ ah⟩,aE.mono h⟩
structure TR(aa:cE)(es:aO)(aP:Nat)(T:b4)(a:Act):Prop where
 size:a.tmps.size=aP
 tmp:∀t s,i2 t es=some s->s<64->bk aa (T.slot s) (a.tmps.getD t undef)
 defers:EA aa T.ae a.defers
def TR.mono(h:aa.le bD)(r:TR aa es aP T a):TR bD es aP T a:=
 ⟨r.size,λt s B F=>bk.mono h _ _ (r.tmp t s B F),r.defers.mono h⟩
structure ll(aa:cE)(es:aO)(aP:Nat)(ae:dv)(L:cv)(T:b4)(a:Act):Prop extends TR aa es aP T a where
 len:L.length=ae.length
 loc:∀t i,jp t ae=some i->bk aa (L.getD i .any) (a.tmps.getD t undef)
def ll.mono{ae L}(h:aa.le bD)(r:ll aa es aP ae L T a):ll bD es aP ae L T a:=
 ⟨r.toTR.mono h,r.len,λt i aH=>bk.mono h _ _ (r.loc t i aH)⟩
section
variable{P:Program}{es:aO}{aP:Nat}{ae:dv}{L:cv}{T:b4}{bI:World}{aa:cE}{a:Act}
def ll.start(r:TR aa es aP T a):ll aa es aP [] [] T a:=⟨r,rfl,λt i h=>by simp [jp] at h⟩
def ll.NG(r:ll aa es aP ae L T a)(t):wx aa es ae L T a t:=by
 unfold wx ki;cases hp:jp t ae with
 |some i=>simp only;rw[CN];exact r.loc t i hp
 |none=>
  simp only;cases aH:i2 t es with
  |none=>exact CV _
  |some s=>
   simp only;cases ak:Nat.blt s 64 with
   |true=>simp only;rw[Km];exact r.tmp t s aH (cZ.1 ak)
   |false=>exact CV _
def ll.wj(r:ll aa es aP ae L T a)(x):i1 aa es ae L T a x:=i1.ac3 λt _=>r.NG t
def Ic(bY:Array Value)(d t)(v)(h:d<bY.size):(bY.setIfInBounds d v).getD t undef=if t=d then v else bY.getD t undef:=by
 by_cases e:t=d
 .subst e;simp [Array.getD,h]
 .rw[bA e];simp only[zn];rw[Array.getElem?_setIfInBounds_ne (λq=>e q.symm)]
def AD(a:Act)(d:Nat)(v):(a.put (some d) v).tmps=a.tmps.setIfInBounds d v:=rfl
def ll.aa6(r:ll aa es aP ae L T a)(aJ:d<aP)(au:bk aa v V):∀t i,jp t (some d::ae)=some i->bk aa ((v::L).getD i .any) ((a.put (some d) V).tmps.getD t undef):=by
 intro t i h;rw[AD,Ic _ _ _ _ (by rw[r.size];exact aJ)];simp only[jp] at h;split at h
 .rename_i av;cases h;rw[b3 (cF.1 av).symm];exact au
 .rename_i av;have av:=ts av;rw[bA (λe=>av e.symm)];cases ax:jp t ae with
  |none=>rw[ax] at h;cases h
  |some M=>rw[ax] at h;simp at h;subst h;exact r.loc t M ax
def ll.acY(r:ll aa es aP ae L T a)(aJ:d<aP)(aH:i2 d es=none)(au:bk aa v V):ll aa es aP (some d::ae) (v::L) T (a.put (some d) V):=by
 refine⟨⟨?_,λt s B F=>?_,r.defers⟩,by simp [r.len],r.aa6 aJ au⟩
 .rw[AD,Array.size_setIfInBounds];exact r.size
 .rw[AD,Ic _ _ _ _ (by rw[r.size];exact aJ),bA]
  .exact r.tmp t s B F
  .intro e;subst e;rw[aH] at B;cases B
def ll.akb{ij}(r:ll aa es aP ae L T a)(aJ:d<aP)(aH:i2 d es=some ij)(ak:ij<64)(au:bk aa v V):ll aa es aP (some d::ae) (v::L) (T.zP ij v) (a.put (some d) V):=by
 refine⟨⟨?_,λt s B F=>?_,by rw[b4.Kq];exact r.defers⟩,by simp [r.len],?_⟩
 .rw[AD,Array.size_setIfInBounds];exact r.size
 .rw[AD,Ic _ _ _ _ (by rw[r.size];exact aJ),b4.OC _ _ _ _ ak F];by_cases e:t=d
  .subst e;rw[aH] at B;cases B;rw[b3 rfl,b3 rfl];exact au
  .have dB:s≠ij:=λq=>e (aao B (by rw[q];exact aH));rw[bA e,bA dB];exact r.tmp t s B F
 .exact r.aa6 aJ au
def GW{an:Array Oper}{D}{M:Nat}{k2}{d:Nat}(br:D.guard=some (M,k2))(aJ:(an[M]?).bind (·.dst)=some d)(ak:wx aa es ae L T a d):(∀b,(ki es ae d).g L T=.bool b->Region.wanted D (yielded an a.tmps)=(b==k2))/\((ki es ae d).g L T=.undef->Region.wanted D (yielded an a.tmps)=false):=by
 unfold wx at ak;unfold Region.wanted yielded;rw[br];simp only[aJ,Option.bind_some];refine⟨λb av=>?_,λav=>?_⟩
 .rw[av] at ak;simp only[bk] at ak;have:a.tmps[d]?=some (.bool b):=by
   rw[zn] at ak;cases h:a.tmps[d]? with
   |none=>rw[h] at ak;simp [undef] at ak
   |some x=>rw[h] at ak;simpa using ak
  rw[this];cases b<;>cases k2<;>rfl
 .rw[av] at ak;simp only[bk] at ak;rw[zn] at ak;cases h:a.tmps[d]? with
  |none=>rfl
  |some x=>rw[h] at ak;simp at ak;rw[ak];rfl
end
end Go.Ev
