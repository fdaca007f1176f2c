/- Part of the proof of PrinterLines. -/
import Derived.Test.YtddaefckjmdfoaaGreatDoorT2
set_option linter.all false
namespace Go.Tx
open Go Go.Ev
section
variable{P:dy}{H:bd}{X:aO}
variable{a el m n r z:Nat}{c:cv}{k8 nY:bl}{am:Ev.Rows}{u:Bool}
def Yn{t}(ak:eV P t=some (m+1))(hp:k8=.ptr a r 0 z)(br:H.get a=.cells am n z el u false)(ad:r<n)(aw:∀k,jR nY (m+1) k=k c)(bO:m+1=z)(k):(oy P t).f k8 nY H k=k (H.put a (.cells (am.mT r c) n z el u false)):=by unfold oy;rw[ak];simp only;rw[hp,Ar,aw,pN,br];show a7 false false (a7 (Nat.blt r n) (a7 (Nat.beq z z) (a7 (Nat.beq (m+1) z) (a7 (Nat.beq 0 0) (setRow am r c λam=>qq H a (.cells am n z el u false) k) false) _) false) false)=_;rw[mF,wW ad,fY rfl,fY bO,fY rfl,fz,fz,fz,fz,BJ,tf]
def aag{aT}{t}(ak:eV P t=some (m+1))(hp:k8=.ptr a r aT z)(br:H.get a=.cells am n z el u false)(ad:r<n)(lK:n<=am.cap)(aw:∀k,jR nY (m+1) k=k c)(bO:m+1≠z)(hq:(am.row r).length=z)(RL:aT+(m+1)<=z)(k):(oy P t).f k8 nY H k=k (H.put a (.cells (am.mT r ((am.row r).take aT++(c++(am.row r).drop (aT+(m+1))))) n z el u false)):=by
 unfold oy;rw[ak];simp only;rw[hp,Ar,aw,pN,br];show a7 false false (a7 (Nat.blt r n) (a7 (Nat.beq z z) (a7 (Nat.beq (m+1) z) _
  (Ev.rowAt am r λaF=>rN aF aT λq=>pc aF (aT+(m+1)) λw=>nx c w λw=>nx q w λaF=>setRow am r aF λam=>qq H a (.cells am n z el u false) k)) false) false)=_
 rw[mF,wW ad,fY rfl,tO bO,fz,fz,mF,Kw _ _ Y,xJ _ _ _ Y,wo _ _ _ Y,qM,qM,BJ,tf]
end
section
variable{U:dO}{Z:Nat->Nat}{S:c5}{P:dy}{H:bd}{X:aO}
variable{r:cv}{aF:ul}{A:be}{z:Nat}
def n6.length(h:n6 U Z A z aF r):r.length=z:=by
 cases aF with
 |cc l=>exact h.2.length.trans h.1
 |bE l=>exact h.2.length.trans h.1
def ags(h:n6 U Z A z aF r):fl U Z A (Gr z aF) r/\(Gr z aF).length=z:=by
 cases aF with
 |cc l=>have⟨B,F⟩:=h;subst B;simp only[Gr,LG];exact⟨F.qG,by simp⟩
 |bE l=>exact⟨h.2,h.1⟩
def ajL{N v bw k8 nY}{t}(aW:bL U Z S.A H)(h:ve P t S N v=some bw)(ahC:zH X N=false)(hp:cd U Z S.A N k8)(au:cd U Z S.A v nY):∃aq,(∀k,(oy P t).f k8 nY H k=k aq)/\bL U Z bw aq/\eQ X U Z S.A H U Z bw aq/\Shape S.A bw:=by
 unfold ve at h;split at h
 .rename_i m ak;split at h
  .rename_i s aT;split at h
   .rename_i el z aF K;have kN:f6 X s (.box el z aF)=false:=ahC;have⟨am,g1,g2,g3,g4⟩:=aW.obj s _ K;have sP:=hp _ _ _ K;have Gv:∀(fB:ul)(c:cv),(∀k,jR nY (m+1) k=k c)->aT=0->m+1=z->(n6 U Z (kr S.A s (.box el z fB)) z fB c)->bw=kr S.A s (.box el z fB)->
     ∃aq,(∀k,(oy P t).f k8 nY H k=k aq)/\bL U Z bw aq/\eQ X U Z S.A H U Z bw aq/\Shape S.A bw:=by
     intro fB c aw ay bO ad e
     subst e
     subst ay
     refine⟨_,λk=>Yn ak sP g1 Y aw bO k,aW.v5 K rfl rfl (yT K) ⟨_,bd.Nl eN,?_,g3,?_⟩,eQ.v5 K rfl kN,yT K⟩
     .rw[Rows.wf];exact g2
     .rw[Rows.F5 _ _ _ _ Y Y,b3 rfl];exact ad
    cases q:(Nat.beq aT 0&&Nat.beq (m+1) z) with
    |true=>
     rw[q] at h;simp only[c6] at q;have ay:=cF.1 q.1;have bO:=cF.1 q.2;simp only at h;split at h
     .rename_i a6;split at h
      .obtain⟨aS,rfl⟩:=gJ h;refine Gv (.cc [_]) [nY] (λk=>?_) ay bO (show n6 _ _ _ _ (.cc _) _ from⟨rfl,.cons au .nil⟩) rfl;rw[bO];unfold jR;rw[Hu aS au];rfl
      .obtain⟨aS,rfl⟩:=gJ h;have⟨aZ,aS⟩:=I6 aS;rw[cd.J,aZ] at au;simp only[bp] at au;have⟨aM,aN,c9⟩:=au;refine Gv (.cc _) aM (λk=>?_) ay bO (show n6 _ _ _ _ (.cc _) _ from⟨aS,c9⟩) rfl;rw[aN,bO,aS];exact D0 _ _ _
     .have⟨c,B,h⟩:=i9 h;cases h;have⟨l,dz,gg,mg⟩:=Hc B au;rw[bO.symm] at dz mg;refine Gv (.bE c) l dz ay bO (show n6 _ _ _ _ (.bE _) _ from⟨?_,(yT K).qG gg⟩) rfl;rw[<-gg.length,mg,bO]
    |false=>
     rw[q] at h;simp only at h;cases aS:Nat.ble (aT+(m+1)) z<;>rw[aS] at h<;>try(cases h;done)
     have aS:=dn.1 aS;simp only at h;have⟨c,B,h⟩:=i9 h;cases h;have⟨l,dz,gg,mg⟩:=Hc B au;have dB:m+1≠z:=by intro e;have:aT=0:=Y;rw[fY this,fY e] at q;cases q
     have⟨dc,cl⟩:=ags g4;have mC:=gg.length;refine⟨_,λk=>aag ak sP g1 Y g2 dz dB g4.length aS k,aW.v5 K rfl rfl (yT K) ⟨_,bd.Nl eN,?_,g3,?_⟩,eQ.v5 K rfl kN,yT K⟩
     .rw[Rows.wf];exact g2
     .rw[Rows.F5 _ _ _ _ Y Y,b3 rfl];unfold LP;rw[show aT+c.length=aT+(m+1) by omega];refine⟨?_,(yT K).qG ((dc.take aT).append (gg.append (dc.drop _)))⟩;simp only[gP,jC,lu,cl];omega
   .cases h
  .rename_i s r aT;split at h
   .rename_i el z ab u K;split at h
    .rename_i a6 q;simp only[c6] at q;have ay:=cF.1 q.1.1;have bO:=cF.1 q.1.2;have aV:=cZ.1 q.2;subst ay;have nT:∀f7:gF,f7.length=ab.length->(eS.arr el z f7 u).real=true:=λf7 e=>by
      cases f7 with
      |nil=>simp at e;omega
      |cons=>cases u<;>rfl
     have⟨am,g1,g2,g3,g4⟩:=aW.obj s _ K (nT ab rfl);have sP:=hp _ _ _ _ K;have Gv:∀(fB:di)(c:cv),(∀k,jR nY (m+1) k=k c)->fB.length=z->cJ U fB c->bw=kr S.A s (.arr el z (ab.set r fB) u)->
      ∃aq,(∀k,(oy P t).f k8 nY H k=k aq)/\bL U Z bw aq/\eQ X U Z S.A H U Z bw aq/\Shape S.A bw:=by
      intro fB c aw B F e
      subst e
      have sZ:=alW (f7:=ab.set r fB) K (by simp)
      refine⟨_,λk=>Yn ak sP g1 aV aw bO k,aW.v5 K (nT ab rfl) (nT _ (by simp)) sZ (λ_=>⟨_,by rw[HE];exact bd.Nl eN,?_,g3,?_⟩),eQ.v5 K (nT ab rfl) rfl,sZ⟩
      .rw[Rows.wf,HE];exact g2
      .refine fI.of λM aF bb=>?_;have xN:=(jb.1 bb).1;rw[HE] at xN;rw[jq,Rows.F5 _ _ _ _ Y Y];by_cases e:M=r
       .subst e;rw[List.getElem?_set_self aV] at bb;cases bb;rw[b3 rfl];exact⟨B,F⟩
       .rw[List.getElem?_set_ne (λh=>e h.symm)] at bb;rw[bA e];have:=g4.get M bb;rwa [jq] at this
     split at h
     .obtain⟨aS,rfl⟩:=gJ h;refine Gv [a6] [nY] (λk=>?_) rfl (.cons au .nil) rfl;rw[bO];unfold jR;rw[Hu aS au];rfl
     .obtain⟨aS,rfl⟩:=gJ h;have⟨aZ,aS⟩:=I6 aS;rw[cd.J,aZ] at au;simp only[bp] at au;have⟨aM,aN,c9⟩:=au;refine Gv (qF a6) aM (λk=>?_) aS c9 rfl;rw[aN,bO,aS];exact D0 _ _ _
    .cases h
   .cases h
  .cases h
 .cases h
end
def Ha:∀(A:be)(aX:aO)(s:Nat),look (keeps A aX) s=match cr s aX with|true=>look A s|false=>none
 |[],aX,s=>by simp only[keeps,look];cases cr s aX<;>rfl
 |(a,D)::l,aX,s=>by
  simp only[keeps];cases h:cr a aX with
  |true=>
   simp only;rw[hO,hO,Ha l aX s];by_cases e:s=a
   .subst e;rw[b3 rfl,b3 rfl,h]
   .rw[bA e,bA e]
  |false=>
   simp only;rw[hO,Ha l aX s];by_cases e:s=a
   .subst e;rw[h]
   .rw[bA e]
def uN:∀(A:be)(aX:aO)(s:Nat),look (jS A aX) s=match cr s aX with|true=>none|false=>look A s
 |[],aX,s=>by simp only[jS,look];cases cr s aX<;>rfl
 |(a,D)::l,aX,s=>by
  simp only[jS];cases h:cr a aX with
  |true=>
   simp only;rw[hO,uN l aX s];by_cases e:s=a
   .subst e;rw[h]
   .rw[bA e]
  |false=>
   simp only;rw[hO,hO,uN l aX s];by_cases e:s=a
   .subst e;rw[b3 rfl,b3 rfl,h]
   .rw[bA e,bA e]
def wB(Z:Nat->Nat)(A:be)(aX:aO)(a:Nat):Prop:=∃s D,cr s aX=true/\look A s=some D/\D.real=true/\Z s=a
open Classical in
noncomputable def hQ(U:dO)(Z:Nat->Nat)(A:be)(H:bd)(aX:aO):dO:=λa=>if wB Z A aX a then some (H.get a) else U a
section
variable{U:dO}{Z:Nat->Nat}{A:be}{H:bd}{aX:aO}
def rr(aW:bL U Z A H):U.le (hQ U Z A H aX):=by
 intro a D h;unfold hQ;rw[bA]
 .exact h
 .rintro⟨s,bs,B,F,ah,rfl⟩;rw[(aW.lt s bs F ah).2] at h;cases h
variable{D:eS}{s:Nat}
def xy(B:cr s aX)(F:look A s=some D)(ah:D.real):hQ U Z A H aX (Z s)=some (H.get (Z s)):=by unfold hQ;rw[b3 ⟨s,D,B,F,ah,rfl⟩]
def FL{a}(h:¬wB Z A aX a):hQ U Z A H aX a=U a:=by unfold hQ;rw[bA h]
def NJ(h:look (keeps A aX) s=some D):cr s aX/\look A s=some D:=by
 rw[Ha] at h;cases q:cr s aX with
 |true=>rw[q] at h;exact⟨rfl,h⟩
 |false=>rw[q] at h;cases h
def Nh{n hF l bX fb}(bB:∀e t v,g7 (keeps A aX) n e=some t->cN U Z A e v->bp hF t v)(h:gD (g7 (keeps A aX) n) l=some bX)(au:fl U Z A l fb):cJ hF bX fb:=by
 induction l generalizing bX fb with
 |nil=>simp only[gD,Option.some.injEq] at h;subst h;simp only[fl] at au;subst au;exact .nil
 |cons e l R2=>
  simp only[gD] at h;cases B:g7 (keeps A aX) n e with
  |none=>rw[B] at h;cases h
  |some t=>
   rw[B] at h;simp only at h;cases F:gD (g7 (keeps A aX) n) l with
   |none=>rw[F] at h;cases h
   |some mI=>rw[F] at h;cases h;obtain⟨v,aM,rfl,g1,g2⟩:=au;exact .cons (bB _ _ _ B g1) (R2 F g2)
def KB(aW:bL U Z A H):∀(n)(e)(t)(v),g7 (keeps A aX) n e=some t->cN U Z A e v->bp (hQ U Z A H aX) t v:=by
 intro n;induction n with
 |zero=>
  intro e t v h au;cases e with
  |J a6=>simp only[g7,Option.some.injEq] at h;subst h;exact bp.mono (rr aW) _ _ au
  |bT=>simp only[g7,Option.some.injEq] at h;subst h;simp only[cN] at au;simp only[bp];exact .inl ⟨trivial,.inl au⟩
  |bQ s=>
   simp only[g7] at h;split at h
   .rename_i el z ab u K;cases h;have⟨hm,K⟩:=NJ K;have au:=au _ _ _ _ K;cases ad:(eS.arr el z ab u).real with
    |true=>
     have⟨am,g1,g2,g3,g4⟩:=aW.obj s _ K ad;have aI:=xy (U:=U) (Z:=Z) (H:=H) hm K ad;rw[g1] at aI;simp only[bp];rcases NR au with⟨B,F⟩|⟨c,F⟩
     .exact .inl ⟨B,.inl F⟩
     .refine .inr ⟨Z s,0,c,u,z,am,ab.length,el,u,false,F,aI,Y,g2,⟨?_,rfl⟩,fI.mono (rr aW) _ _ _ _ g4,by cases u<;>simp only[Bool.toNat_true,Bool.toNat_false]<;>omega,λbx=>?_⟩
      .intro hu;subst hu;have:v=.slice (Z s) 0 ab.length ab.length false z:=by unfold yw at au;cases ab<;>exact au
       rw[F] at this;injection this with _ _ _ hB
       omega
      .cases u with
       |false=>simp only[Bool.toNat_false] at bx;omega
       |true=>
        cases ab with
        |nil=>cases ad
        |cons r ab=>
         have:v=.slice (Z s) 0 (r::ab).length 0 true z:=au;rw[F] at this;injection this with _ _ _ hB
         exact⟨by simp,rfl,hB,rfl,rfl,rfl,rfl,g3⟩
    |false=>
     cases ab with
     |cons=>cases u<;>cases ad
     |nil=>cases u with
      |false=>cases ad
      |true=>simp only[bp];exact .inl ⟨trivial,.inl au⟩
   .cases h
  |fF s r aT=>
   simp only[g7] at h;split at h
   .rename_i el z ab u K;split at h
    .rename_i aF hq;cases h;have⟨hm,K⟩:=NJ K;have au:=au _ _ _ _ K;have aV:=(jb.1 hq).1;have ad:(eS.arr el z ab u).real=true:=by cases ab<;>first|(simp at aV;done)|(cases u<;>rfl)
     have⟨am,g1,g2,g3,g4⟩:=aW.obj s _ K ad;have aI:=xy (U:=U) (Z:=Z) (H:=H) hm K ad;rw[g1] at aI;have⟨g5,g6⟩:=g4.get r hq;rw[jq] at g6;simp only[bp];exact⟨Z s,r,z,am,ab.length,el,u,false,au,aI,aV,g2,g5,g6.z9 (rr aW),Y,λ_=>rfl,λq=>Y⟩
    .cases h
   .cases h
  |bH s aT=>simp [g7] at h
  |iy=>simp [g7] at h
  |agg l=>simp [g7] at h
  |fn f x y=>simp [g7] at h
 |succ n bB=>
  intro e t v h au;cases e with
  |J a6=>simp only[g7,Option.some.injEq] at h;subst h;exact bp.mono (rr aW) _ _ au
  |bT=>exact bB .bT t v (by cases n<;>exact h) au
  |bQ s=>exact bB (.bQ s) t v (by cases n<;>exact h) au
  |fF s r aT=>exact bB (.fF s r aT) t v (by cases n<;>exact h) au
  |bH s aT=>
   simp only[g7] at h;split at h
   .rename_i el z l K;cases h;have⟨hm,K⟩:=NJ K;have au:=au _ _ _ K;have⟨am,g1,g2,g3,g4⟩:=aW.obj s _ K;have aI:=xy (U:=U) (Z:=Z) (H:=H) hm K rfl;rw[g1] at aI;simp only[bp];exact⟨Z s,0,z,am,1,el,false,false,au,aI,Y,g2,g4.1,g4.2.z9 (rr aW),Y,λ_=>rfl,λ_=>⟨rfl,rfl,rfl,g3⟩⟩
   .rename_i el z l K;split at h
    .rename_i bX BI;cases h;have⟨hm,K⟩:=NJ K;have au:=au _ _ _ K;have⟨am,g1,g2,g3,g4⟩:=aW.obj s _ K;have aI:=xy (U:=U) (Z:=Z) (H:=H) hm K rfl;rw[g1] at aI;have g5:=Nh bB BI g4.2;simp only[bp];refine⟨Z s,0,z,am,1,el,false,false,au,aI,Y,g2,?_,g5,Y,λ_=>rfl,λ_=>⟨rfl,rfl,rfl,g3⟩⟩;rw[<-g5.length,g4.2.length,g4.1]
    .cases h
   .cases h
  |iy=>simp [g7] at h
  |agg l=>simp [g7] at h
  |fn f x y=>simp [g7] at h
def MY{e t v}(aW:bL U Z A H)(h:pR (keeps A aX) e=some t)(au:cd U Z A e v):bp (hQ U Z A H aX) t v:=by
 unfold pR at h;split at h
 .split at h
  .rename_i bY bJ B F;cases h;obtain⟨da,cC,rfl,g1,g2⟩:=au;simp only[bp];exact⟨da,cC,rfl,Nh (KB aW 3) B g1,Nh (KB aW 3) F g2⟩
  .cases h
 .split at h
  .rename_i aM bX BI;cases h;obtain⟨l,rfl,g⟩:=au;have g2:=Nh (KB aW 3) BI g;simp only[bp];exact⟨l,by rw[<-g2.length,g.length],g2⟩
  .cases h
 .rename_i B F;refine KB aW 3 e t v h ?_;cases e with
  |agg l=>exact absurd rfl (F l)
  |fn f x y=>exact absurd rfl (B f x y)
  |_=>exact au
def RA(aW:bL U Z A H):ji (lk (keeps A aX) aX) U Z A (hQ U Z A H aX) Z (fL (lk (keeps A aX) aX) (jS A aX)):=by
 have Td:∀(e:a1)(v:bl),cN U Z A e v->cN (hQ U Z A H aX) Z (fL (lk (keeps A aX) aX) (jS A aX)) (EN (g7 (keeps A aX) 3 e)) v:=by
  intro e v au;cases aJ:g7 (keeps A aX) 3 e with
  |none=>simp only[EN,cN,bp]
  |some t=>exact KB aW 3 e t v aJ au
 have e8:∀t,cr t aX=false->look (fL (lk (keeps A aX) aX) (jS A aX)) t=(look A t).map (gx (lk (keeps A aX) aX)):=λt al=>by rw[nQ,uN,al]
 have Tb:∀{t:Nat}{D:eS},look (keeps A aX) t=none->look (fL (lk (keeps A aX) aX) (jS A aX)) t=some D->cr t aX=false/\look (fL (lk (keeps A aX) aX) (jS A aX)) t=some D:=λ{t D} B F=>by
  refine⟨?_,F⟩;rw[nQ,uN] at F;cases q:cr t aX with
  |false=>rfl
  |true=>rw[q] at F;cases F
 intro e v h;cases e with
 |J t=>exact bp.mono (rr aW) _ _ h
 |bT=>exact h
 |iy=>exact h
 |bH t aT=>
  simp only[lk];cases ma:look (keeps A aX) t with
  |some _=>exact Td (.bH t aT) v h
  |none=>
   intro el z aF K;have⟨q,K⟩:=Tb ma K;rw[e8 t q] at K;cases az:look A t with
   |none=>rw[az] at K;cases K
   |some D=>
    rw[az] at K;cases D with
    |box eC cI fB=>cases fB<;>(cases K;exact h _ _ _ az)
    |arr=>cases K
 |bQ t=>
  simp only[lk];cases ma:look (keeps A aX) t with
  |some _=>exact Td (.bQ t) v h
  |none=>
   intro el z ab u K;have⟨q,K⟩:=Tb ma K;rw[e8 t q] at K;cases az:look A t with
   |none=>rw[az] at K;cases K
   |some D=>
    rw[az] at K;cases D with
    |box eC cI fB=>cases fB<;>cases K
    |arr=>cases K;exact h _ _ _ _ az
 |fF t r aT=>
  simp only[lk];cases ma:look (keeps A aX) t with
  |some _=>exact Td (.fF t r aT) v h
  |none=>
   intro el z ab u K;have⟨q,K⟩:=Tb ma K;rw[e8 t q] at K;cases az:look A t with
   |none=>rw[az] at K;cases K
   |some D=>
    rw[az] at K;cases D with
    |box eC cI fB=>cases fB<;>cases K
    |arr=>cases K;exact h _ _ _ _ az
 |agg l=>exact h
 |fn f x y=>exact h
def bL.ft(aW:bL U Z A H):bL (hQ U Z A H aX) Z (fL (lk (keeps A aX) aX) (jS A aX)) H:=by
 have e8:∀t D,look (fL (lk (keeps A aX) aX) (jS A aX)) t=some D->cr t aX=false/\∃bs,look A t=some bs/\D=gx (lk (keeps A aX) aX) bs:=λt D al=>by
  rw[nQ,uN] at al;cases q:cr t aX with
  |true=>rw[q] at al;cases al
  |false=>
   rw[q] at al;cases az:look A t with
   |none=>rw[az] at al;cases al
   |some bs=>rw[az] at al;cases al;exact⟨rfl,bs,rfl,rfl⟩
 refine⟨λa D aD=>?_,λt D al ad=>?_,λt a6 D bs al hS ad fN e=>?_,λt D al=>?_⟩
 .by_cases aI:wB Z A aX a
  .obtain⟨s,bs,B,F,ah,rfl⟩:=aI;rw[xy B F ah] at aD;cases aD;exact⟨rfl,(aW.lt s bs F ah).1⟩
  .rw[FL aI] at aD;exact aW.gf a D aD
 .obtain⟨q,bs,B,rfl⟩:=e8 t D al;rw[lJ] at ad;have:=aW.lt t bs B ad;refine⟨this.1,?_⟩;rw[FL]
  .exact this.2
  .rintro⟨s,eL,g1,g2,g3,g4⟩;have:=aW.inj s t eL bs g2 B g3 ad g4;subst this;rw[g1] at q;cases q
 .obtain⟨_,cQ,B,rfl⟩:=e8 t D al;obtain⟨_,eL,F,rfl⟩:=e8 a6 bs hS;rw[lJ] at ad fN;exact aW.inj t a6 cQ eL B F ad fN e
 .obtain⟨_,bs,B,rfl⟩:=e8 t D al;exact(aW.obj t bs B).hZ (RA aW) (rr aW) rfl λ_=>rfl
def eQ.ft{X}(aW:bL U Z A H):eQ X U Z A H (hQ U Z A H aX) Z (fL (lk (keeps A aX) aX) (jS A aX)) H:=by
 refine⟨λa D h _=>rr aW a D h,ez _,λ_ _ _ _=>rfl,λa D aD=>?_,λt D al ad=>?_⟩
 .by_cases aI:wB Z A aX a
  .obtain⟨s,bs,B,F,ah,rfl⟩:=aI;exact .inr (.inr (.inl ⟨s,bs,F,ah,rfl⟩))
  .rw[FL aI] at aD;exact .inl aD
 .rw[nQ,uN] at al;cases q:cr t aX with
  |true=>rw[q] at al;cases al
  |false=>
   rw[q] at al;cases az:look A t with
   |none=>rw[az] at al;cases al
   |some bs=>rw[az] at al;cases al;rw[lJ] at ad;exact .inr ⟨t,bs,az,ad,rfl,λh=>by rw[Bl];exact h⟩
end
def xK(U:dO)(Z:Nat->Nat)(A:be)(D:gB):eS->Prop
 |.box el z aF=>∃am,D=.cells am 1 z el false false/\1<=am.cap/\0<z/\n6 U Z A z aF (am.row 0)
 |.arr el z ab u=>∃am,D=.cells am ab.length z el u false/\ab.length<=am.cap/\0<z/\fI U z am 0 ab
variable{el s z:Nat}{ab:gF}{u:Bool}
theorem TV{U Z A H}:hQ U Z A H []=U:=by funext a;exact FL (by rintro⟨s,D,h,_⟩;cases h)
def Uw(n):∃am,AE n=some am/\n<=am.cap:=by
 have:∃am,AE n=some am:=by unfold AE;cases Nat.ble n 1<;>cases Nat.ble n 8<;>cases Nat.ble n 64<;>cases Nat.ble n 512<;>exact⟨_,rfl⟩
 have⟨am,h⟩:=this;exact⟨am,h,Oj h⟩
def V6{U}{z}{am:Ev.Rows}{ab:gF}{l:ql}(aw:ab.length<=am.cap)(K:l.length=ab.length)(h:∀(M:Nat)(aF:di),ab[M]?=some aF->aF.length=z/\∃r,l[M]?=some r/\cJ U aF r):fI U z (am.iJ l 0) 0 ab:=by refine fI.of λM aF bb=>?_;have aV:=(jb.1 bb).1;have⟨B,r,F,ah⟩:=h M aF bb;refine⟨B,?_⟩;rw[jq,Rows.Gk _ _ _ _ Y Y,b3 Y];rw[show M - 0=M by omega,oE,F];exact ah
def T6{α gd}{f:α->Option gd}:∀{l:List α}{m:List gd},gD f l=some m->l.length=m.length/\∀(M:Nat)(b),m[M]?=some b->∃a,l[M]?=some a/\f a=some b
 |[],m,h=>by simp only[gD,Option.some.injEq] at h;subst h;exact⟨rfl,λM b av=>by simp at av⟩
 |a::l,m,h=>by
  simp only[gD] at h;cases B:f a with
  |none=>rw[B] at h;cases h
  |some b=>
   rw[B] at h;simp only at h;cases F:gD f l with
   |none=>rw[F] at h;cases h
   |some r=>
    rw[F] at h;cases h;have⟨g1,g2⟩:=T6 F;refine⟨by simp [g1],λM dA av=>?_⟩;cases M with
    |zero=>simp at av;subst av;exact⟨a,rfl,B⟩
    |succ M=>simpa using g2 M dA (by simpa using av)
section
variable{U:dO}{Z:Nat->Nat}{P:dy}{H:bd}{es:aO}{ae:dv}{S:c5}{L:cv}{T:b4}{bf:Hint}
def acv{aX}(aW:bL U Z S.A H):∀{cg}{l}{i}{ab:gF},sj U Z S.A L T cg l->cg.map Prod.fst=List.range' i cg.length->gD (λN=>cw (pR (keeps S.A aX) N.2) λt=>cw (ns S.A (.J t) s) (gD (g7 S.A 0))) cg=some ab->∃(r:ZZ)(q:ql),BD s i l=some r/\(∀k,r.f L T k=k q)/\q.length=ab.length/\∀(M:Nat)(aF:di),ab[M]?=some aF->aF.length=s/\∃c,q[M]?=some c/\cJ (hQ U Z S.A H aX) aF c
 |[],l,i,ab,hp,aH,h=>by simp only[sj] at hp;subst hp;simp only[gD,Option.some.injEq] at h;subst h;exact⟨_,[],rfl,λk=>rfl,rfl,λM aF bb=>by simp at bb⟩
 |(M,e)::cg,l,i,ab,hp,aH,h=>by
  obtain⟨g,aM,rfl,br,hp⟩:=hp;simp only[fA,nD,List.range'_succ] at aH;injection aH with bb aH
  subst bb;simp only[gD] at h;cases B:cw (pR (keeps S.A aX) e) λt=>cw (ns S.A (.J t) s) (gD (g7 S.A 0)) with
  |none=>rw[B] at h;cases h
  |some aF=>
   rw[B] at h;simp only at h;cases F:gD (λN=>cw (pR (keeps S.A aX) N.2) λt=>cw (ns S.A (.J t) s) (gD (g7 S.A 0))) cg with
   |none=>rw[F] at h;cases h
   |some f7=>
    rw[F] at h;cases h;have⟨t,ah,aE⟩:=i9 B;have⟨c,bt,b1⟩:=i9 aE;have al:=MY aW ah br;have⟨lp,dz,gg,mg⟩:=Hc (U:=hQ U Z S.A H aX) (Z:=Z) bt (cd.J.2 al);have dC:∀(c:bG)(aF:di)(lp:cv),gD (g7 S.A 0) c=some aF->fl (hQ U Z S.A H aX) Z S.A c lp->(∀x∈c,∃t,x=.J t)->cJ (hQ U Z S.A H aX) aF lp:=by
     intro c;induction c with
     |nil=>intro aF lp h aw _;simp only[gD,Option.some.injEq] at h;subst h;simp only[fl] at aw;subst aw;exact .nil
     |cons x c bB=>
      intro aF lp h aw I;obtain⟨t,rfl⟩:=I x (by simp);simp only[gD,g7] at h;cases F:gD (g7 S.A 0) c with
      |none=>rw[F] at h;cases h
      |some r=>rw[F] at h;cases h;obtain⟨v,aM,rfl,g1,g2⟩:=aw;exact .cons g1 (bB _ _ F g2 λy ap=>I y (by simp [ap]))
    have m9:∀x∈c,∃t,x=.J t:=by
     generalize I:a1.J t=oF at bt;unfold ns at bt;split at bt
     .cases I
     .obtain⟨_,rfl⟩:=gJ bt;intro x I;simp only[iF] at I;exact⟨_,I⟩
     .obtain⟨_,rfl⟩:=gJ bt;intro x I;simp only[re] at I;obtain⟨t,_,rfl⟩:=I;exact⟨t,rfl⟩
     .cases I
     .cases I
     .cases I
     .cases bt
    have hq:=dC c aF lp b1 gg m9;have⟨r,q,bq,aS,bU,cU⟩:=acv aW hp aH F;have⟨g⟩:=g;have⟨r⟩:=r;simp only at aS;refine⟨⟨λL T k=>jR (g L T) s λc=>r L T λq=>k (c::q)⟩,lp::q,?_,λk=>?_,by simp [bU],λM fB bb=>?_⟩
    .unfold BD;rw[bq,fY rfl]
    .show jR (g L T) s (λc=>r L T λq=>k (c::q))=_;rw[dz,aS]
    .cases M with
     |zero=>simp at bb;subst bb;exact⟨by rw[<-hq.length,mg],lp,rfl,hq⟩
     |succ M=>simpa using cU M fB (by simpa using bb)
def RN{d}{op}{r}(aW:bL U Z S.A H)(cn:eW U Z S.A S.L L)(bR:gp U Z S.A es.length S.E T)(h:Ag bf P es ae d op S=some r):∃D gb,(∀k,(xz P es ae op).f L T k=k D gb)/\((∃el z aF,r=(.bH d 0,some (.box el z aF))/\gb=(λa=>.ptr a 0 0 z)/\xK U Z S.A D (.box el z aF))\/(∃el z ab,r=(.bQ d,some (.arr el z ab false))/\gb=(λa=>.slice a 0 ab.length ab.length false z)/\xK U Z S.A D (.arr el z ab false))\/(∃el z ab,r=(.J (.aQ (2*el) ab),none)/\gb=(λa=>.slice a 0 ab.length ab.length false z)/\xK (hQ U Z S.A H (nF es ae op S)) Z S.A D (.arr el z ab false))):=by
 unfold Ag at h;unfold xz;split at h
 .rename_i el;simp only;split at h
  .rename_i z n bO ak;obtain⟨q,rfl⟩:=gJ h;have eh:=cF.1 q;simp only[bO,ak,q];refine⟨_,_,λk=>rfl,.inl ⟨el,n+1,_,rfl,rfl,.fG z,rfl,ez _,Y,by rw[dt];exact eh,Oi z⟩⟩
  .cases h
 .rename_i el x;simp only;have I:=kD (ae:=ae) cn bR x;split at h
  .rename_i n ak;simp only[ak];generalize db es ae x=g at I ⊢;have⟨g⟩:=g;have lC:∀(aF:ul)(c:cv),(∀k,jR (g L T) (n+1) k=k c)->n6 U Z S.A (n+1) aF c->r=(.bH d 0,some (.box el (n+1) aF))->
    ∃D gb,(∀k:gB->(Nat->bl)->Bool,(jR (g L T) (n+1) λc=>k (FM el (n+1) c) λa=>.ptr a 0 0 (n+1))=k D gb)/\
    ((∃el z aF,r=(.bH d 0,some (.box el z aF))/\gb=(λa=>.ptr a 0 0 z)/\xK U Z S.A D (.box el z aF))\/
     (∃el z ab,r=(.bQ d,some (.arr el z ab false))/\gb=(λa=>.slice a 0 ab.length ab.length false z)/\xK U Z S.A D (.arr el z ab false))\/
     (∃eC z ab,r=(.J (.aQ (2*eC) ab),none)/\gb=(λa=>.slice a 0 ab.length ab.length false z)/\xK (hQ U Z S.A H (nF es ae (.box el x) S)) Z S.A D (.arr eC z ab false))):=by
    intro aF c aw ad e
    exact⟨FM el (n+1) c,_,λk=>by rw[aw],.inl ⟨el,n+1,aF,e,rfl,.fG c,rfl,ez _,Y,ad⟩⟩
   split at h
   .rename_i a6 al;rw[al] at I;split at h
    .obtain⟨q,rfl⟩:=gJ h;exact lC (.cc [a6]) [g L T] (λk=>by unfold jR;rw[Hu q I];rfl) (show n6 _ _ _ _ (.cc _) _ from⟨rfl,.cons I .nil⟩) rfl
    .obtain⟨q,rfl⟩:=gJ h;have⟨aZ,q⟩:=I6 q;rw[cd.J,aZ] at I;simp only[bp] at I;have⟨aM,aN,c9⟩:=I;exact lC (.cc (qF a6)) aM (λk=>by rw[aN,q];exact D0 _ _ _) (show n6 _ _ _ _ (.cc _) _ from⟨q,c9⟩) rfl
   .have⟨c,B,h⟩:=i9 h;cases h;have⟨l,dz,gg,mg⟩:=Hc B I;exact lC (.bE c) l dz (show n6 _ _ _ _ (.bE _) _ from⟨by rw[<-gg.length,mg],gg⟩) rfl
  .cases h
 .rename_i t n cg;simp only;split at h
  .rename_i e hu;simp only[hu];split at h
   .rename_i s ak;cases q:(Nat.beq cg.toList.length n&&((rz es ae S cg.toList).map Prod.fst==List.range n)&&Nat.blt 0 n&&Nat.ble (n*(s+1)) 100000&&(p4 P e).isSome) with
    |false=>rw[q] at h;cases h
    |true=>
     rw[q] at h;simp only[c6] at q;obtain⟨⟨⟨⟨bq,aS⟩,bU⟩,cU⟩,eI⟩:=q;have Y7:=cF.1 bq;simp only at h;have⟨ab,B,h⟩:=i9 h;have fy:(rz es ae S cg.toList).length=cg.toList.length:=by
      have:∀l:List (Nat×Operand),(rz es ae S l).length=l.length:=by
       intro l;induction l with
       |nil=>rfl
       |cons a l bB=>have⟨i,x⟩:=a;simp [rz,bB]
      exact this _
     have Em:(rz es ae S cg.toList).map Prod.fst=List.range' 0 (rz es ae S cg.toList).length:=by rw[fy,Y7,<-List.range_eq_range'];simpa using aS
     have⟨QK,my,dz,gg,mg,vL⟩:=acv (aX:=nF es ae (.buildSlice t n cg) S) aW (TZ cn bR _) Em B;have⟨am,aZ,aN⟩:=Uw n;have⟨QK⟩:=QK;have pn:ab.length=n:=by rw[<-(T6 B).1,fy,Y7]
     have c9:(Nat.beq cg.toList.length n&&Nat.ble (n*(s+1)) 100000&&(p4 P e).isSome)=true:=by rw[bq,cU,eI];rfl
     simp only[ak,aZ,c9,dz];have pK:xK (hQ U Z S.A H (nF es ae (.buildSlice t n cg) S)) Z S.A (.cells (am.iJ my 0) n (s+1) e false false) (.arr e (s+1) ab false):=
      ⟨_,by rw[pn],by rw[Rows.tH];omega,Y,V6 Y mg vL⟩
     simp only at gg;refine⟨.cells (am.iJ my 0) n (s+1) e false false,λa=>.slice a 0 n n false (s+1),λk=>?_,?_⟩
     .show QK L T _=_;rw[gg,sR]
     .split at h
      .split at h
       .rename_i v8;cases h;refine .inr (.inl ⟨e,s+1,ab,rfl,by rw[pn],?_⟩);rw[v8,TV] at pK;exact pK
       .cases h
      .cases h;exact .inr (.inr ⟨e,s+1,ab,rfl,by rw[pn],pK⟩)
   .cases h
  .cases h
 .rename_i t l c;simp only;split at h
  .rename_i e hu;simp only[hu];split at h
   .rename_i s z ak bO;cases q:(Nat.beq z.length (s+1)&&Nat.ble ((va P e).getD 1001) 1000) with
    |false=>rw[q] at h;cases h
    |true=>
     rw[q] at h;simp only at h;have⟨n,m,B,F,h⟩:=rU h;cases aS:(Nat.beq n m&&Nat.blt n 513) with
     |false=>rw[aS] at h;cases h
     |true=>
      rw[aS] at h;simp only at h;have⟨aF,ah,h⟩:=i9 h;cases h;simp only[c6] at q aS;have l0:=cF.1 aS.1;subst l0;have aB:=cZ.1 aS.2;cases av:va P e with
      |none=>rw[av] at q;simp at q
      |some b=>
       rw[av] at q;have c9:(Nat.beq z.length (s+1)&&Nat.ble b 1000)=true:=by rw[q.1];exact q.2
       have K:=yy B (kD (ae:=ae) cn bR l);have aw:=yy F (kD (ae:=ae) cn bR c);simp only[ak,bO];generalize db es ae l=gl at K ⊢;generalize db es ae c=tK at aw ⊢;have⟨gl⟩:=gl;have⟨tK⟩:=tK;simp only[c9] at K aw ⊢;have⟨am,hB,mo⟩:=Uw n;have hq:cJ U aF z:=by
        have dC:∀(z:cv)(aF:di),gD (λv=>g7 S.A 0 (py v)) z=some aF->cJ U aF z:=by
         intro z;induction z with
         |nil=>intro aF h;simp only[gD,Option.some.injEq] at h;subst h;exact .nil
         |cons v z bB=>
          intro aF h;simp only[gD] at h;cases g1:g7 S.A 0 (py v) with
          |none=>rw[g1] at h;cases h
          |some t=>
           rw[g1] at h;simp only at h;cases g2:gD (λv=>g7 S.A 0 (py v)) z with
           |none=>rw[g2] at h;cases h
           |some r=>
            rw[g2] at h;cases h;refine .cons ?_ (bB _ g2);have au:=Sq (U:=U) (Z:=Z) (A:=S.A) v;unfold py at g1 au;split at g1
            .simp only[g7,Option.some.injEq] at g1;subst g1;simp only[bp];exact .inl ⟨trivial,.inl trivial⟩
            .split at g1
             .rename_i a6 hS;simp only[g7,Option.some.injEq] at g1;subst g1;exact YX hS
             .simp only[g7,Option.some.injEq] at g1;subst g1;simp only[bp]
        exact dC z aF ah
       have an3:=cF.1 q.1;refine⟨.cells (am.iJ (List.replicate n z) 0) n (s+1) e false false,_,λk=>?_,.inr (.inl ⟨e,s+1,List.replicate n aF,rfl,by rw[vW],_,by rw[vW],by rw[vW,Rows.tH];exact mo,Y,V6 (by rw[vW];exact mo) (by simp) λM fB bb=>?_⟩)⟩
       .show od (gl L T) 513 _=_;rw[K,Qh Y aB,aw,Qh Y aB,wO (ez n),fz];unfold yv;rw[hB];simp only;rw[sR]
       .have⟨aa3,ZG⟩:=jb.1 bb;rw[List.getElem_replicate] at ZG;subst ZG;rw[vW] at aa3;exact⟨by rw[<-hq.length,an3],z,by rw[List.getElem?_replicate,b3 aa3],hq⟩
   .cases h
  .cases h
 .cases h
end
def X5(am)(n):∃oQ,(∀k,grow am n k=k oQ)/\n<=oQ.cap/\am.cap<=oQ.cap/\∀i,i<am.cap->oQ.row i=am.row i:=by
 have dC:∃oQ,∀k,grow am n k=k oQ:=by
  cases am with
  |fG r=>
   cases B:Nat.ble n 1<;>cases F:Nat.ble n 8<;>cases ah:Nat.ble n 64<;>cases aE:Nat.ble n 512<;>
    exact⟨_,λk=>by
     show a7 (Nat.ble n 1) _ (a7 (Nat.ble n 8) _ (a7 (Nat.ble n 64) _ (a7 (Nat.ble n 512) _ _)))=_
     rw[B,F,ah,aE];rfl⟩
  |dc t=>
   cases F:Nat.ble n 8<;>cases ah:Nat.ble n 64<;>cases aE:Nat.ble n 512<;>
    exact⟨_,λk=>by
     show a7 (Nat.ble n 8) _ (a7 (Nat.ble n 64) _ (a7 (Nat.ble n 512) _ _))=_
     rw[F,ah,aE];rfl⟩
  |cl t=>
   cases ah:Nat.ble n 64<;>cases aE:Nat.ble n 512<;>
    exact⟨_,λk=>by
     show a7 (Nat.ble n 64) _ (a7 (Nat.ble n 512) _ _)=_
     rw[ah,aE];rfl⟩
  |hD t=>
   cases aE:Nat.ble n 512<;>
    exact⟨_,λk=>by
     show a7 (Nat.ble n 512) _ _=_
     rw[aE];rfl⟩
  |j3 g c=>
   cases aE:Nat.ble n c<;>
    exact⟨_,λk=>by
     show a7 (Nat.ble n c) _ _=_
     rw[aE];rfl⟩
 have⟨oQ,B⟩:=dC
 refine⟨oQ,B,?_⟩
 classical
 have⟨lm,g1,g2,g3,g4⟩:=X2 (am:=am) (n:=n) (k:=λr=>decide (r=oQ)) (by rw[B];simp)
 have:lm=oQ:=by simpa using g1
 subst this
 exact⟨g2,g3,g4⟩
def ZH:∀(m)(am)(i),i+m<=am.cap->∃l,(∀k,ya am m i k=k l)/\l.length=m/\∀M,M<m->l[M]?=some (am.row (i+M))
 |0,am,i,_=>⟨[],λk=>rfl,rfl,λM h=>Y⟩
 |m+1,am,i,h=>by
  have⟨l,g1,g2,g3⟩:=ZH m am (i+1) Y;refine⟨am.row i::l,λk=>?_,by simp [g2],λM bb=>?_⟩
  .rw[aew,Kw _ _ Y];exact g1 λl=>k (am.row i::l)
  .cases M with
   |zero=>rfl
   |succ M=>rw[s1,g3 M Y,show i+1+M=i+(M+1) by omega]
def pW(U:dO)(z:Nat)(ab:gF)(l:ql):Prop:=l.length=ab.length/\∀(M:Nat)(aF:di),ab[M]?=some aF->aF.length=z/\∃c,l[M]?=some c/\cJ U aF c
section
variable{U:dO}{Z:Nat->Nat}{H:bd}{X:aO}{S:c5}{L:cv}{T:b4}
def abE{A:be}{z i n:Nat}{am}{ab}(h:fI U z am i ab)(aw:i+ab.length<=am.cap):∃l,(∀k,ya am ab.length i k=k l)/\pW U z ab l:=by have⟨l,g1,g2,g3⟩:=ZH ab.length am i aw;refine⟨l,g1,g2,λM aF bb=>?_⟩;have⟨B,F⟩:=h.get M bb;exact⟨B,_,g3 M (jb.1 bb).1,F⟩
def adz{z}{e}{ab:gF}{v}(aW:bL U Z S.A H)(h:DL S.A z e=some ab)(au:cd U Z S.A e v):∃l,(∀k,r6 z v H k=k ab.length l)/\pW U z ab l:=by
 have none:∀k,r6 z (.nil .s) H k=k 0 []:=λk=>by unfold r6;rw[Ef]
 have empty:∀a i c u cI k,r6 z (.slice a i 0 c u cI) H k=k 0 []:=λa i c u cI k=>by unfold r6;rw[yF,fY rfl,fz]
 have aeM:∀(a i c:Nat)(u:Bool)(am:Ev.Rows)(n el:Nat)(fa dK:Bool),H.get a=.cells am n z el fa dK->i+ab.length<=n->n<=am.cap->ab≠[]->ab.length<=2147483647->fI U z am i ab->
  ∃l,(∀k,r6 z (.slice a i ab.length c u z) H k=k ab.length l)/\pW U z ab l:=by
  intro a i c u am n el fa dK br B F ah aE bt
  have⟨l,g1,g2⟩:=abE (A:=S.A) (n:=0) bt Y
  refine⟨l,λk=>?_,g2⟩
  have dB:Nat.beq ab.length 0=false:=tO λe=>ah (xH.1 e)
  unfold r6
  rw[yF,dB,mF,fY rfl,fz,pN,br]
  show a7 (Nat.ble (i+ab.length) n) (a7 (Nat.beq z z) (a7 (Nat.ble ab.length 2147483647) (ya am ab.length i λr=>k ab.length r) false) false) false=_
  rw[wO B,fY rfl,wO aE,fz,fz,fz]
  exact g1 _
 have EJ:∀U,pW U z [] []:=λU=>⟨rfl,λM aF bb=>by simp at bb⟩;unfold DL at h;split at h
 .cases h;simp only[cd,cN] at au;subst au;exact⟨[],none,EJ _⟩
 .rename_i a6;obtain⟨q,rfl⟩:=gJ h;simp only[c6] at q;rw[cd.J,Ek q.1.1] at au;simp only[bp] at au;have hle:=dn.1 q.2;by_cases ad:jl a6=[]
  .rw[ad] at au ⊢;rcases au with⟨_,au|⟨_,a,i,c,u,cI,au⟩⟩|⟨a,i,c,u,cI,am,n,el,fa,dK,au,_⟩
   .subst au;exact⟨[],none,EJ _⟩
   .subst au;exact⟨[],empty _ _ _ _ _,EJ _⟩
   .subst au;exact⟨[],empty _ _ _ _ _,EJ _⟩
  .rcases au with⟨au,_⟩|⟨a,i,c,u,cI,am,n,el,fa,dK,au,g2,g3,g4,g6,g5,gA⟩
   .exact absurd au ad
   .subst au;have Gd:0<(jl a6).length:=List.length_pos_iff.2 ad;have cb:=Ms _ 0 Gd;have bO:=(g5.get 0 cb).1;have He:(ib (jl a6) 0).length=z:=by have:=f0.1 q.1.2 _ (uo cb);exact zy this
    rw[He] at bO;subst bO;exact aeM a i c u am n el fa dK (aW.gf _ _ g2).1 g3 g4 ad hle g5
 .rename_i s;split at h
  .rename_i el cI f7 u K;obtain⟨q,rfl⟩:=gJ h;simp only[c6] at q;have bO:=cF.1 q.1;subst bO;have hle:=dn.1 q.2;have au:=au _ _ _ _ K;by_cases ad:f7=[]
   .subst ad;cases u with
    |true=>rw[show v=.nil .s from au];exact⟨[],none,EJ _⟩
    |false=>rw[show v=.slice (Z s) 0 0 0 false z from au];exact⟨[],empty _ _ _ _ _,EJ _⟩
   .have nT:(eS.arr el z f7 u).real=true:=by
     cases f7 with
     |nil=>exact absurd rfl ad
     |cons=>cases u<;>rfl
    have⟨am,g1,g2,g3,g4⟩:=aW.obj s _ K nT;rcases NR au with⟨B,_⟩|⟨c,F⟩
    .exact absurd B ad
    .rw[F];exact aeM _ 0 c u am _ el u false g1 Y g2 ad hle g4
  .cases h
 .cases h
end
def dO.iz(X:aO)(U hF:dO):Prop:=∀a D,U a=some D->cr (l1 D) X=false->hF a=some D
def tk{a b}(h:(a||b)=false):a=false/\b=false:=by cases a<;>cases b<;>first|(cases h;done)|exact⟨rfl,rfl⟩
mutual
def bp.iz{X:aO}{U hF:dO}(h:U.iz X hF):∀(t:b2)(v:bl),cA X t=false->bp U t v->bp hF t v
 |.undef,_,_,g|.bool _,_,_,g|.int _ _,_,_,g|.str _,_,_,g|.nil _,_,_,g|.op _ _,_,_,g=>by simp only[bp] at g ⊢;try exact g
 |.aQ e [],_,_,g=>by
  simp only[bp] at g ⊢;rcases g with g|⟨a,i,c,u,z,am,n,el,fa,dK,g1,g2,g3,g4,g6,g5,gA,j4⟩
  .exact .inl g
  .refine .inl ⟨trivial,.inr ⟨?_,a,i,c,u,z,g1⟩⟩;by_cases q:e % 2=1
   .exact absurd rfl (j4 q).1
   .omega
 |.aQ e (r::ab),_,I,g=>by
  simp only[cA] at I;have⟨dS,fw⟩:=tk I;simp only[bp] at g ⊢;rcases g with⟨g,_⟩|⟨a,i,c,u,z,am,n,el,fa,dK,g1,g2,g3,g4,g6,g5,gA,j4⟩
  .cases g
  .exact .inr ⟨a,i,c,u,z,am,n,el,fa,dK,g1,h _ _ g2 (by subst gA;exact dS),g3,g4,g6,fI.iz h z am i (r::ab) fw g5,gA,j4⟩
 |.gc e aF aT,_,I,g=>by simp only[cA] at I;have⟨dS,fw⟩:=tk I;simp only[bp] at g ⊢;have⟨a,r,z,am,n,el,u,dK,g1,g2,g3,g4,g5,g6,gA,j4⟩:=g;exact⟨a,r,z,am,n,el,u,dK,g1,h _ _ g2 (by subst gA;exact dS),g3,g4,g5,cJ.iz h aF _ fw g6,gA,j4⟩
 |.fn _ bY bJ,_,I,g=>by simp only[cA] at I;have⟨dS,fw⟩:=tk I;simp only[bp] at g ⊢;have⟨da,cC,g1,g2,g3⟩:=g;exact⟨da,cC,g1,cJ.iz h bY _ dS g2,cJ.iz h bJ _ fw g3⟩
 |.agg l,_,I,g=>by simp only[cA] at I;simp only[bp] at g ⊢;have⟨aM,g1,g2⟩:=g;exact⟨aM,g1,cJ.iz h l _ I g2⟩
 |.eJ l,_,I,g=>by simp only[cA] at I;simp only[bp] at g ⊢;have⟨aM,g1,g2⟩:=g;exact⟨aM,g1,cJ.iz h l _ I g2⟩
def cJ.iz{X:aO}{U hF:dO}(h:U.iz X hF):∀(t:di)(v:cv),dw X t=false->cJ U t v->cJ hF t v
 |[],_,_,g=>by simpa only[cJ] using g
 |t::bX,_,I,g=>by simp only[dw] at I;have⟨dS,fw⟩:=tk I;simp only[cJ] at g ⊢;have⟨v,aM,g1,g2,g3⟩:=g;exact⟨v,aM,g1,bp.iz h t v dS g2,cJ.iz h bX aM fw g3⟩
def fI.iz{X:aO}{U hF:dO}(h:U.iz X hF):∀(z:Nat)(am:Ev.Rows)(i:Nat)(ab:gF),hy X ab=false->fI U z am i ab->fI hF z am i ab
 |_,_,_,[],_,g=>by simp only[fI]
 |z,am,i,r::ab,I,g=>by simp only[hy] at I;have⟨dS,fw⟩:=tk I;simp only[fI] at g ⊢;exact⟨g.1,cJ.iz h r _ dS g.2.1,fI.iz h z am (i+1) ab fw g.2.2⟩
end
def bp.bz{X}{U hF}(h:U.iz X hF){t}{v}(g:bp U t v):bp hF (i7 X t) v:=by
 unfold i7;cases q:cA X t with
 |true=>simp only[bp]
 |false=>exact bp.iz h t v q g
def cJ.bz{X}{U hF}(h:U.iz X hF):∀{t}{v},cJ U t v->cJ hF (t.map (i7 X)) v
 |[],_,g=>by simpa only[cJ,je] using g
 |t::bX,_,g=>by obtain⟨v,aM,rfl,g1,g2⟩:=g.inv;exact .cons (g1.bz h) (cJ.bz h g2)
def fI.bz{X}{U hF}(h:U.iz X hF){z}{am}:∀{i}{ab},fI U z am i ab->fI hF z am i (ab.map λr=>r.map (i7 X))
 |_,[],g=>by simp only[fI,je]
 |i,r::ab,g=>by simp only[fI,fA,dt] at g ⊢;exact⟨g.1,g.2.1.bz h,fI.bz h g.2.2⟩
def w4(X):∀(A)(s),look (nm X A) s=(look A s).map (ob X)
 |[],s=>rfl
 |(t,D)::l,s=>by
  simp only[nm,look];cases Nat.beq t s
  .exact w4 X l s
  .rfl
def uZ(X)(D):(ob X D).real=D.real:=by
 cases D with
 |box el z aF=>cases aF<;>rfl
 |arr el z ab u=>cases ab<;>cases u<;>rfl
section
variable{X:aO}{U hF:dO}{Z:Nat->Nat}{A:be}{H aq:bd}
def apH{aF}(h:look (nm X A) s=some (.box el z aF)):∃i6,look A s=some (.box el z i6)/\ob X (.box el z i6)=.box el z aF:=by
 rw[w4] at h;cases az:look A s with
 |none=>rw[az] at h;cases h
 |some D=>
  rw[az] at h;cases D with
  |box eC cI fB=>cases fB<;>(cases h;exact⟨_,rfl,rfl⟩)
  |arr=>cases h
def Y4(h:look (nm X A) s=some (.arr el z ab u)):∃ey,look A s=some (.arr el z ey u)/\ab=ey.map λr=>r.map (i7 X):=by
 rw[w4] at h;cases az:look A s with
 |none=>rw[az] at h;cases h
 |some D=>
  rw[az] at h;cases D with
  |box eC cI fB=>cases fB<;>cases h
  |arr=>cases h;exact⟨_,rfl,rfl⟩
def aoD{a v f}(h:yw a z ab u v):yw a z (ab.map f) u v:=So (by simp) h
def Rc(h:U.iz X hF):ji (ip X) U Z A hF Z (nm X A):=by
 intro e v g;cases e with
 |J t=>exact bp.bz h g
 |iy=>exact g
 |bT=>exact g
 |bH s aT=>intro el z aF K;have⟨i6,B,_⟩:=apH K;exact g _ _ _ B
 |bQ s=>intro el z ab u K;obtain⟨ey,B,rfl⟩:=Y4 K;exact aoD (g _ _ _ _ B)
 |fF s r aT=>intro el z ab u K;obtain⟨ey,B,rfl⟩:=Y4 K;exact g _ _ _ _ B
 |agg l=>exact g
 |fn f x y=>exact g
def ox.bz{D bV bw cP}(h:ox U Z A H s D)(aI:ji (ip X) U Z A hF bV bw)(hle:U.iz X hF)(aH:bV cP=Z s)(br:D.real->aq.get (Z s)=H.get (Z s)):ox hF bV bw aq cP (ob X D):=by
 cases D with
 |box el z aF=>
  have⟨am,g1,g2,g3,g4⟩:=h;rw[<-br rfl,<-aH] at g1;cases aF with
  |cc l=>exact⟨am,g1,g2,g3,by rw[dt];exact g4.1,g4.2.bz hle⟩
  |bE l=>exact⟨am,g1,g2,g3,by rw[dt];exact g4.1,aI.d8 g4.2⟩
 |arr el z ab u=>intro ad;have ad:(ob X (.arr el z ab u)).real=true:=ad;rw[uZ] at ad;have⟨am,g1,g2,g3,g4⟩:=h ad;rw[<-br ad,<-aH] at g1;exact⟨am,by rw[dt];exact g1,by rw[dt];exact g2,g3,g4.bz hle⟩
def bL.bz(aW:bL U Z A H)(hle:U.iz X hF)(amj:∀a D,hF a=some D->aq.get a=D/\a<aq.next)(aB:H.next<=aq.next)(hp:∀s D,look A s=some D->D.real->aq.get (Z s)=H.get (Z s)/\hF (Z s)=none):bL hF Z (nm X A) aq:=by
 have e8:∀t D,look (nm X A) t=some D->∃bs,look A t=some bs/\D=ob X bs:=λt D al=>by
  rw[w4] at al;cases az:look A t with
  |none=>rw[az] at al;cases al
  |some bs=>rw[az] at al;cases al;exact⟨bs,rfl,rfl⟩
 refine⟨amj,λt D al ad=>?_,λt a6 D bs al hS ad fN e=>?_,λt D al=>?_⟩
 .obtain⟨bs,B,rfl⟩:=e8 t D al;rw[uZ] at ad;exact⟨nV (aW.lt t bs B ad).1 aB,(hp t bs B ad).2⟩
 .obtain⟨cQ,B,rfl⟩:=e8 t D al;obtain⟨eL,F,rfl⟩:=e8 a6 bs hS;rw[uZ] at ad fN;exact aW.inj t a6 cQ eL B F ad fN e
 .obtain⟨bs,B,rfl⟩:=e8 t D al;exact(aW.obj t bs B).bz (Rc hle) hle rfl λad=>(hp t bs B ad).1
end
mutual
def WL:∀t:b2,cA [] t=false
 |.undef|.bool _|.int _ _|.str _|.nil _|.op _ _=>by simp only[cA]
 |.aQ _ []=>by simp only[cA]
 |.aQ _ (r::ab)=>by simp only[cA,cr,acC (r::ab),k5]
 |.gc _ aF _=>by simp only[cA,cr,Cm aF,k5]
 |.fn _ bY bJ=>by simp only[cA,Cm bY,Cm bJ,k5]
 |.agg l=>by simp only[cA,Cm l]
 |.eJ l=>by simp only[cA,Cm l]
def Cm:∀t:di,dw [] t=false
 |[]=>by simp only[dw]
 |t::l=>by simp only[dw,WL t,Cm l,k5]
def acC:∀t:gF,hy [] t=false
 |[]=>by simp only[hy]
 |t::l=>by simp only[hy,Cm t,acC l,k5]
end
theorem S5:i7 []=id:=by funext t;unfold i7;rw[WL];rfl
theorem aex:ip []=id:=by funext e;cases e<;>simp only[ip,S5,id]
def Vx(D):ob [] D=D:=by
 cases D with
 |box el z aF=>cases aF<;>simp [ob,S5,aex]
 |arr el z ab u=>simp [ob,S5]
def abm:∀A,nm [] A=A
 |[]=>rfl
 |(s,D)::l=>by simp only[nm,Vx,abm l]
def Pn(S:c5)(X):S.bz X=⟨S.L.map (dJ (ip X)),S.E.map (dJ (ip X)),nm X S.A⟩:=by
 cases X with
 |nil=>rw[aex,abm,show(dJ id)=id from uj td];simp [c5.bz]
 |cons=>rfl
end Go.Tx
