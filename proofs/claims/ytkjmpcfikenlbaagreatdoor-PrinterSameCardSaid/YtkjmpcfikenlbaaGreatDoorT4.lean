/- A part. -/
import Derived.Test.YtkjmpcfikenlbaaGreatDoorT3
set_option linter.all false
namespace Go.Tx
open Go Go.Ev
section
variable{U:ek}{Z:Nat->Nat}{A:bf}{H:bg}{X:aO}
variable{l:p9}{Q:g4}{z:Nat}
def b0.drop{a}(h:b0 U Z A H)(iR)(D:U a=none)(F:∀t B,look A t=some B->B.real->Z t≠a):b0 U Z A (H.put a iR):=by
 refine⟨λb B aB=>?_,h.lt,h.inj,λt B au=>?_⟩
 .have⟨aj,an⟩:=h.e6 b B aB;refine⟨?_,an⟩;rw[bg.sh gp gp,aj];grind
 .have:=h.obj t B au;cases B with
  |box ak z aJ=>have⟨ax,aj,an⟩:=this;exact⟨ax,by rw[bg.sh gp gp (F t _ au rfl)];grind,an⟩
  |bF ak z Q u=>intro ag;have⟨ax,aj,an⟩:=this ag;simp_all[bg.sh]
def AT(H:bg)(B):(∀a,a<H.next->(H.add B).get a=H.get a)/\(H.add B).get H.next=B/\(H.add B).next=H.next+1:=
 ⟨λa aC=>bg.Xj gp aC,bg.ako gp,rfl⟩
def Xh{ak u}(h:Q≠[]):(fB.bF ak z Q u).real:=by
 cases Q with
 |nil=>simp_all
 |cons=>cases u<;>rfl
def OF{s d e z:Nat}{Q:g4}{cM}(a4:b0 U Z A cM)(aI:Q≠[]){ax}(aQ:Q.length<=ax.cap)(cA:0<z)(au:gY U z ax 0 Q):b0 U (mc Z d cM.next) ((d,.bF e z Q true)::gh (e1 d) (rem A d)) (cM.add (.cells ax Q.length z (ln e) true false))/\co U (mc Z d cM.next) ((d,.bF e z Q true)::gh (e1 d) (rem A d)) (.bD d) (.slice cM.next 0 Q.length 0 true z):=by
 have⟨bk,bu,b1⟩:=AT cM (.cells ax Q.length z (ln e) true false);refine⟨a4.put (by simp_all) bk (λ_=>⟨by simp_all,λ_=>⟨ax,by rw[m2];exact bu,aQ,cA,au⟩⟩) (λag=>by simp_all[Xh]),?_⟩;intro e8 cJ gw fY Y;rw[iC,ev rfl]at Y;cases Y;rw[m2];cases Q with
 |nil=>simp_all|cons=>rfl
def XZ{n e}(aD:l.length=n):∃ax,n<=ax.cap/\(∀j,j<n->ax.row j=l.getD j [])/\∀k,Du e z n l H k=k (.slice H.next 0 n 0 true z) (H.add (.cells ax n z e true false)):=by
 have⟨ax,D,F⟩:=PQ n;refine⟨ax.jl l 0,by simp_all[Rows.ur],λj bl=>?_,λk=>?_⟩
 .rw[Rows.F9 _ _ _ _ I I,ev I];rfl
 simp_all[Du,yr,tG,LB]
def qt.E5{z}{ax:Ev.Rows}{Q}{l}(h:qt U z Q l)(ag:∀j,j<Q.length->ax.row j=l.getD j []):gY U z ax 0 Q:=by refine gY.of λj aJ bl=>?_;have be:=(oo.1 bl).1;have⟨D,c,F,aq⟩:=h.2 j aJ bl;simp_all
def qt.append{gw aK}(h:qt U z Q l)(cz:qt U z gw aK):qt U z (Q++gw) (l++aK):=by
 refine⟨by simp[h.1,cz.1],λj aJ bl=>?_⟩;rcases m4 j Q.length with be|kf
 .rw[DB be]at bl;rw[DB (by rw[h.1];grind)];exact h.2 j aJ bl
 .rw[Ff kf]at bl;rw[Ff (by rw[h.1];grind),h.1];exact cz.2 _ aJ bl
def RC{d e z b}{Q}{l}(a4:b0 U Z A H)(Y:qt U z Q l)(cA:0<z)(aB:Q.length*b<=2147483647):∃v az b2,(∀k,sV (ln e) z b (.nil .s) Q.length l H k=k v az)/\b0 U b2 ((d,.bF e z Q true)::gh (e1 d) (rem A d)) az/\fz X U Z A H U b2 ((d,.bF e z Q true)::gh (e1 d) (rem A d)) az/\jV (e1 d) U Z A U b2 ((d,.bF e z Q true)::gh (e1 d) (rem A d))/\co U b2 ((d,.bF e z Q true)::gh (e1 d) (rem A d)) (.bD d) v/\(∀s,s≠d->b2 s=Z s):=by
 by_cases ag:Q=[]
 .subst ag;refine⟨.nil .s,H,mc Z d H.next,λk=>?_,?_,?_,yB _ _,λak cJ gw u iJ=>?_,λs q=>j6 q⟩
  .simp_all[sV]
  .exact a4.put (fI _) (λ_ _=>rfl) (λh=>by cases h) (λ_ H=>λh=>by cases h)
  .simp_all[fz.put]
  .rw[iC,ev rfl]at iJ;cases iJ;rfl
 .have ed:Nat.beq Q.length 0=false:=u1 λh=>ag (HY.1 h);have⟨ax,c4,cl,dm⟩:=XZ (e:=ln e) (z:=z) (H:=H) Y.1;have⟨aj,an⟩:=OF (s:=0) (d:=d) (e:=e) a4 ag c4 cA (Y.E5 cl);refine⟨_,_,_,λk=>?_,aj,fz.put a4 (by simp) (AT _ _).1,yB _ _,an,λs q=>j6 q⟩;unfold sV;rw[an8,ed,o9,show Nat.ble (Nat.mul Q.length b) 2147483647=true from zA aB,iG,dm]
end
section
variable{U:ek}{Z:Nat->Nat}{H:bg}{X:aO}{S:c8}{L:cx}{T:ca}
variable{az:bg}{ei:c8}{d s t:Nat}{f g:a2->a2}{A bE:bf}{bm sD:ek}{b2 LX:Nat->Nat}
def jV.comp{J5}(h:jV f U Z A bm b2 bE)(cz:jV g bm b2 bE sD LX J5):jV (λe=>g (f e)) U Z A sD LX J5:=λe v x=>cz _ _ (h e v x)
def ajJ(f g:a2->a2)(a1:∀e,(match e with|.agg _=>False|.fn _ _ _=>False|_=>True)->(match f e with|.agg _=>False|.fn _ _ _=>False|_=>True))(e:a2):dF g (dF f e)=dF (λe=>g (f e)) e:=by
 cases e with
 |agg l=>simp[dF]|fn h x y=>simp[dF]|J t=>have:=a1 (.J t) trivial;simp[dF];grind|i4=>have:=a1 .i4 trivial;simp[dF];grind|bx=>have:=a1 .bx trivial;simp[dF];grind|bN s B=>have:=a1 (.bN s B) trivial;simp[dF];grind|bD s=>have:=a1 (.bD s) trivial;simp[dF];grind|fU s r B=>have:=a1 (.fU s r B) trivial;simp[dF];grind
def o1(f:a2->a2):Prop:=∀e,f e=e\/∃t,f e=.J t
def GX(f:a2->a2)(s:Nat):Prop:=∀B r,f (.bN s B)=.bN s B/\f (.bD s)=.bD s/\f (.fU s r B)=.fU s r B
structure fM(X:aO)(d:Nat)(U:ek)(Z:Nat->Nat)(H:bg)(S:c8)(bm:ek)(b2:Nat->Nat)(az:bg)(ei:c8):Prop where
 ok:b0 bm b2 ei.A az
 iB:fz X U Z S.A H bm b2 ei.A az
 aN:∀s,s≠d->b2 s=Z s
 fresh:∀s,s≠d->look S.A s=none->look ei.A s=none
 mp:∃f:a2->a2,o1 f/\(∀s,s≠d->look S.A s=none->GX f s)/\ei.L=S.L.map (dF f)/\ei.E=S.E.map (dF f)/\jV f U Z S.A bm b2 ei.A
def fM.sy(h:fM X d U Z H S bm b2 az ei):∀l,f9 U Z S.A S.L l->f9 bm b2 ei.A ei.L l:=λl g=>by have⟨f,_,_,D,_,F⟩:=h.mp;rw[D];exact F.lC g
def fM.ru(h:fM X d U Z H S bm b2 az ei):∀n T,gR U Z S.A n S.E T->gR bm b2 ei.A n ei.E T:=λn T g=>by have⟨f,_,_,_,D,F⟩:=h.mp;rw[D];exact F.xg g
def o1.id:o1 id:=λe=>.inl rfl
def o1.comp(a1:o1 f)(bI:o1 g):o1 λe=>g (f e):=λe=>by
 rcases a1 e with h|⟨t,h⟩
 .show g (f e)=e\/∃t,g (f e)=.J t;rw[h];exact bI e
 .show g (f e)=e\/∃t,g (f e)=.J t;rw[h];rcases bI (.J t)with F|F
  all_goals simp_all
def o1.atom{f:a2->a2}(a1:o1 f)(e:a2)(h:match e with|.agg _=>False|.fn _ _ _=>False|_=>True):match f e with|.agg _=>False|.fn _ _ _=>False|_=>True:=by
 rcases a1 e with D|⟨t,D⟩
 all_goals simp_all
theorem Yl(a1:o1 f)(l:bK):(l.map (dF f)).map (dF g)=l.map (dF λe=>g (f e)):=by rw[List.map_map];congr 1;funext e;exact ajJ f g (λe h=>a1.atom e h) e
def fM.refl(a4:b0 U Z S.A H):fM X d U Z H S U Z H S:=
 ⟨a4,fz.refl _ _ _ _,λ_ _=>rfl,λ_ _ h=>h,id,o1.id,λ_ _ _ _ _=>⟨rfl,rfl,rfl⟩,by rw[show(dF id)=id from tZ sT];simp,by rw[show(dF id)=id from tZ sT];simp,λ_ _ h=>h⟩
def fM.trans{aer Y1}(h:fM X d U Z H S bm b2 az ei)(cz:fM X d bm b2 az ei sD LX aer Y1):fM X d U Z H S sD LX aer Y1:=by
 have⟨f,f1,f2,f3,f4,f5⟩:=h.mp;have⟨g,aj,an,aM,bs,cp⟩:=cz.mp;refine⟨cz.ok,h.iB.trans cz.iB,λs q=>(cz.aN s q).trans (h.aN s q),λs q e=>cz.fresh s q (h.fresh s q e),λe=>g (f e),f1.comp aj,λs q e B r=>?_,?_,?_,f5.comp cp⟩
 .have⟨bk,bu,b1⟩:=f2 s q e B r;have⟨cD,dp,ga⟩:=an s q (h.fresh s q e) B r;simp_all
 .rw[aM,f3,Yl f1]
 .rw[bs,f4,Yl f1]
def fM.of_map(hm:jV f U Z S.A bm b2 bE)(ok:b0 bm b2 bE az)(iB:fz X U Z S.A H bm b2 bE az)(aN:∀s,s≠d->b2 s=Z s)(fresh:∀s,s≠d->look S.A s=none->look bE s=none)(ay:o1 f)(HW:∀s,s≠d->look S.A s=none->GX f s):fM X d U Z H S bm b2 az ⟨S.L.map (dF f),S.E.map (dF f),bE⟩:=⟨ok,iB,aN,fresh,f,ay,HW,rfl,rfl,hm⟩
def yh(s):o1 (e1 s):=λe=>by
 cases e with
 |bN t B=>simp[e1];grind|bD t=>simp[e1];grind|fU t r B=>simp[e1];grind|_=>exact .inl rfl
def yz(h:t≠s):GX (e1 s) t:=λB r=>by simp_all[e1,u1]
def Sp(X):o1 (i5 X):=λe=>by
 cases e with
 |J t=>exact .inr ⟨_,rfl⟩|_=>exact .inl rfl
def UM(X)(t):GX (i5 X) t:=λB r=>⟨rfl,rfl,rfl⟩
def Rq(B):∃t,F4 B=.J t:=by cases B<;>exact⟨_,rfl⟩
def arA(A)(aU):o1 (lZ A aU):=λe=>by
 cases e with
 |bN t B=>
  simp[lZ];cases look A t
  .simp_all
  .exact .inr (Rq _)
 |bD t=>
  simp[lZ];cases look A t
  .simp_all
  .exact .inr (Rq _)
 |fU t r B=>
  simp[lZ];cases look A t
  .simp_all
  .exact .inr (Rq _)
 |_=>exact .inl rfl
def ahU{aU}(h:look A t=none):GX (lZ A aU) t:=λB r=>by simp_all[lZ]
def aaB(h:look A t=none):look (gh (e1 s) (rem A s)) t=none:=by
 simp_all[nB,rU]
def Bz{B}(ed:t≠s)(h:look A t=none):look ((s,B)::gh (e1 s) (rem A s)) t=none:=by simp_all[iC,aaB]
def fM.kill(a4:b0 U Z S.A H)(s)(ap:s=d\/look S.A s≠none):fM X d U Z H S U Z H (S.kill s):=
 fM.of_map Tn (a4.kill s) ⟨λ_ _ h _=>h,fI _,λ_ _ _ _=>rfl,λ_ _ h=>.inl h,λt B au ag=>by
  rw[nB,rU]at au;by_cases e:t=s
  .simp_all
  .rw[cO e]at au;cases ar:look S.A t with
   |none=>simp_all
   |some cL=>rw[ar]at au;cases au;rw[mi]at ag;exact .inr ⟨t,cL,ar,ag,rfl,λh=>by rw[BP];exact h⟩⟩ (λ_ _=>rfl) (λt _ h=>aaB h) (yh s)
  λt au h=>yz λe=>by simp_all
def fM.fZ(a4:b0 U Z S.A H)(aU):fM X d U Z H S (h8 U Z S.A H aU) Z H (S.fZ aU):=by
 cases aU with
 |nil=>rw[UV];exact fM.refl a4
 |cons a aU=>exact fM.of_map (SI a4) a4.fZ (fz.fZ a4) (λ_ _=>rfl) (λs _ h=>by rw[nB,vw,h];grind) (arA _ _) λs _ h=>ahU (by rw[HG,h];grind)
def uo:∀{l}{t},cn t l=true↔t∈l
 |[],t=>by simp[cn]
 |a::l,t=>by
  simp[cn];cases q:Nat.beq a t with
  |true=>simp_all
  |false=>
   simp only[uo,hS];have:=tu q;grind
def akb{l:di}{n}(h:gC l n):l.length=n:=dA.1 h
def afI{d e z b:Nat}{a6:b9}{tO:bp}{Q:g4}{l:p9}{r:a2×c8}(a4:b0 U Z S.A H)(h:(match rL a6&&Nat.beq (wv a6) (2*e+1)&&gC (fT (jJ a6) 0) z&&cn e (fq X)&&Nat.ble (((jJ a6).length+Q.length)*b) sn with
 |true=>some (a2.bD d,(S.bJ [e]).put d (.bF e z ((jJ a6++Q).map λr=>r.map (jo [e])) true))
 |false=>match rL a6&&Nat.beq (wv a6 % 2) 1&&Nat.beq (jJ a6).length 0&&Nat.ble (Q.length*b) sn with
  |true=>some (.bD d,S.put d (.bF e z Q true))
  |false=>none)=some r)(M:co U Z S.A (.J a6) tO)(Y:qt U z Q l)(cA:0<z):
 ∃v az bm b2,(∀k,sV (ln e) z b tO Q.length l H k=k v az)/\fM X d U Z H S bm b2 az r.2/\co bm b2 r.2.A r.1 v:=by
 cases q:(rL a6&&Nat.beq (wv a6) (2*e+1)&&gC (fT (jJ a6) 0) z&&cn e (fq X)&&Nat.ble (((jJ a6).length+Q.length)*b) sn)with
 |false=>
  rw[q]at h;obtain⟨q,rfl⟩:=hC h;simp only[ig]at q;obtain⟨⟨⟨bC,aX⟩,b4⟩,dc⟩:=q;have aX:=dA.1 aX;have b4:jJ a6=[]:=HY.1 (dA.1 b4);rw[co.J,Fu bC,b4]at M;simp only[bR]at M;have aI:tO=.nil .s:=by
   simp_all
  subst aI;obtain⟨v,az,b2,aj,an,aM,bs,cp,dj⟩:=RC (d:=d) (e:=e) a4 Y cA (dT.1 dc);exact⟨v,az,U,b2,aj,fM.of_map bs an aM dj (λs q e=>Bz q e) (yh d) λs q _=>yz q,cp⟩
 |true=>
  rw[q]at h;cases h;simp only[ig]at q;obtain⟨⟨⟨⟨bC,aX⟩,b4⟩,dc⟩,eC⟩:=q;have aX:=dA.1 aX;have b4:=akb b4;have aB:((jJ a6).length+Q.length)*b<=2147483647:=dT.1 eC;rw[Fu bC]at M;generalize jJ a6=fk at M b4 aB ⊢;have ag:fk≠[]:=by intro aP;rw[aP]at b4;have:(0:Nat)=z:=b4;omega
  rcases M with⟨M,_⟩|⟨a,i,c,u,cJ,ax,n,ak,fY,ee,aI,a1,aM,dP,dj,gi,ip,ms⟩
  .simp_all
  obtain⟨-,rfl,rfl,rfl,rfl,rfl,rfl,Nz⟩:=ms I;have rZ:ak=e:=I;subst rZ;have Qp:cJ=z:=by
   cases fk with
   |nil=>grind|cons fC fk=>simp[gY]at gi;have:fC.length=z:=b4;omega
  subst Qp;obtain⟨cL,fW⟩:=a4.e6 _ _ a1;obtain⟨qs,en,gI,l3,tz⟩:=aeO ax (fk.length+Q.length);have ii:=Y.1;let iP:ek:=λb=>match U b with
   |some B=>if mQ B=ak then none else some B|none=>none
  have nk:∀b B,iP b=some B->U b=some B/\mQ B≠ak:=by
   grind
  have hle:U.jz [ak] iP:=by intro b B aB M;show(match U b with|some B=>if mQ B=ak then none else some B|none=>none)=some B;rw[aB];simp only;rw[cO];intro F;rw[F]at M;simp only[cn,kN rfl]at M;grind
  have ed:∀b B,iP b=some B->b≠a:=by intro b B aB aP;obtain⟨D,F⟩:=nk b B aB;rw[aP,a1]at D;cases D;exact F rfl
  have Di:∀s B,look S.A s=some B->B.real=true->Z s≠a:=by intro s B D F aP;have:=(a4.lt s B D F).2;grind
  have mj:b0 iP Z (qB [ak] S.A) (H.put a .dead):=by
   refine a4.bJ hle (λb B aB=>?_) (fI _) λs B D F=>⟨bg.sh gp gp (Di s B D F),?_⟩
   .have D:=a4.e6 b B (nk b B aB).1;exact⟨by rw[bg.sh gp gp (ed b B aB)];grind,D.2⟩
   .cases aq:iP (Z s)with
    |none=>rfl|some bH=>have:=(nk _ _ aq).1;rw[(a4.lt s B D F).2]at this;grind
  have yx:fM X d U Z H S iP Z (H.put a .dead) (S.bJ [ak]):=by
   refine fM.of_map (U8 hle) mj ⟨λb B aB M=>hle b B aB ?_,fI _,λb AS kR Bh=>bg.sh gp gp ?_,λb B aB=>.inl (nk b B aB).1,λs B D F=>.inr ?_⟩ (λ_ _=>rfl) (λs _ h=>by rw[w7,h];rfl) (Sp _) λs _ _=>UM _ s
   .cases aL:cn (mQ B) [ak]with
    |false=>rfl|true=>have:=uo.1 aL;grind
   .grind
   .rw[w7]at D;cases ar:look S.A s with
    |none=>grind
    |some cL=>rw[ar]at D;cases D;rw[vV]at F;exact⟨s,cL,ar,F,rfl,λh=>by rw[Ow];exact h⟩
  have aj4:=gi.bJ hle;have iJ:qt iP cJ (Q.map λr=>r.map (jo [ak])) l:=by
   refine⟨by grind,λj aJ bl=>?_⟩;rw[yR]at bl;cases D:Q[j]? with
   |none=>grind
   |some fC=>rw[D]at bl;cases bl;obtain⟨ic,c,hF,oa⟩:=Y.2 j fC D;exact⟨by grind,c,hF,oa.bJ hle⟩
  have E5:gY iP cJ (qs.jl l fk.length) 0 ((fk++Q).map λr=>r.map (jo [ak])):=by
   rw[jj];refine gY.of λj aJ bl=>?_;have Qc:=(oo.1 bl).1;rw[fP,ex,ex]at Qc;rw[pW,Rows.F9 _ _ _ _ I I];rcases m4 j fk.length with aeh|kf
   .rw[DB (by grind)]at bl;rw[cO I,tz j I];have:=aj4.get j bl;grind
   .rw[Ff (by grind),ex]at bl;rw[ev I];obtain⟨ic,c,hF,oa⟩:=iJ.2 _ aJ bl;grind
  have zy:((fk++Q).map λr=>r.map (jo [ak])).length=fk.length+Q.length:=by simp
  obtain⟨aj,an⟩:=OF (s:=0) (d:=d) (e:=ak) (Q:=(fk++Q).map λr=>r.map (jo [ak])) mj (by simp[ag]) (ax:=qs.jl l fk.length) (by rw[Rows.ur];omega) cA E5;have a8:fz X iP Z (S.bJ [ak]).A (H.put a .dead) iP (mc Z d (H.put a .dead).next) _ _:=fz.put (s:=d) (B:=.bF ak cJ ((fk++Q).map λr=>r.map (jo [ak])) true) mj (by simp) (AT (H.put a .dead) (.cells (qs.jl l fk.length) ((fk++Q).map λr=>r.map (jo [ak])).length cJ (ln ak) true false)).1;refine⟨_,_,iP,_,λk=>?_,yx.trans (fM.of_map (yB _ _) aj a8 (λs q=>j6 q) (λs q e=>Bz q e) (yh d) λs q _=>yz q),an⟩;subst aI;unfold sV;rw[IC,pC,cL];show bd false false (bd (Nat.beq (ln ak) (ln ak)) (bd (Nat.beq cJ cJ) (bd (Nat.beq cJ cJ) (gr (Nat.add fk.length Q.length) λbx=>bd (Nat.ble (Nat.mul bx b) 2147483647)
   (bd true (bd true (bd (Nat.beq 0 0) (bd (Nat.beq 0 0) (bd (Nat.beq fk.length fk.length) (grow ax bx λax=>uI l ax fk.length λax=>qz H a .dead λH=>tq H (.cells ax bx cJ (ln ak) true false) λa H=>k (.slice a 0 bx 0 true cJ) H) false) false) false) false) _) false) false) false) false)=_
  rw[o9,kN rfl,kN rfl,iG,iG,iG,k5,show Nat.ble (Nat.mul (Nat.add fk.length Q.length) b) 2147483647=true from zA aB,iG,iG,iG,kN rfl,kN rfl,iG,iG,iG];show grow ax (fk.length+Q.length) _=_;rw[en,tG,s9,LB gp,zy];rfl
def alL{d e z b}{x}{tO}{Q:g4}{l}{r}(a4:b0 U Z S.A H)(h:yo X S d e z b x Q=some r)(M:co U Z S.A x tO)(Y:qt U z Q l)(cA:0<z):∃v az bm b2,(∀k,sV (ln e) z b tO Q.length l H k=k v az)/\fM X d U Z H S bm b2 az r.2/\co bm b2 r.2.A r.1 v:=by
 unfold yo at h;split at h
 .exact afI a4 h M Y cA
 .obtain⟨q,rfl⟩:=hC h;subst M;obtain⟨v,az,b2,aj,an,aM,bs,cp,dj⟩:=RC (d:=d) (e:=e) a4 Y cA (dT.1 q);exact⟨v,az,U,b2,aj,fM.of_map bs an aM dj (λs q e=>Bz q e) (yh d) λs q _=>yz q,cp⟩
 .rename_i s;split at h
  .rename_i b7 cJ fk qL;obtain⟨q,rfl⟩:=hC h;simp only[ig]at q;have aw:=dA.1 q.1.1;have JH:=dA.1 q.1.2;subst aw JH;have aB:(fk.length+Q.length)*b<=2147483647:=dT.1 q.2;have aI:=M _ _ _ _ qL;have yx:=fM.kill (X:=X) (d:=d) (S:=S) a4 s (.inr (by simp_all));by_cases ag:fk=[]
   .subst ag;subst aI;obtain⟨v,az,b2,aj,an,aM,bs,cp,dj⟩:=RC (d:=d) (e:=e) yx.ok Y cA (by simpa using aB);exact⟨v,az,U,b2,aj,yx.trans (fM.of_map bs an aM dj (λs q e=>Bz q e) (yh d) λs q _=>yz q),cp⟩
   .have lP:=Xh (ak:=e) (z:=z) (u:=true) ag;obtain⟨ax,cL,dP,fW,gi⟩:=a4.obj s _ qL lP;have be:=a4.lt s _ qL lP;have aI:tO=.slice (Z s) 0 fk.length 0 true z:=by
     cases fk with
     |nil=>simp_all|cons=>exact aI
    obtain⟨qs,en,gI,l3,tz⟩:=aeO ax (fk.length+Q.length);have ii:=Y.1;have mj:b0 U Z (S.kill s).A (H.put (Z s) .dead):=by
     refine yx.ok.drop .dead be.2 λt B au adf aP=>?_;have au:look (gh (e1 s) (rem S.A s)) t=some B:=au;rw[nB,rU]at au;by_cases a3:t=s
     .simp_all
     .rw[cO a3]at au;cases ar:look S.A t with
      |none=>simp_all
      |some dP=>rw[ar]at au;cases au;rw[mi]at adf;exact a3 (a4.inj t s dP _ ar qL adf lP aP)
    have E5:gY U z (qs.jl l fk.length) 0 (fk++Q):=by
     refine gY.of λj aJ bl=>?_;have Qc:=(oo.1 bl).1;rw[fP]at Qc;rw[pW,Rows.F9 _ _ _ _ I I];rcases m4 j fk.length with aeh|kf
     .rw[DB aeh]at bl;rw[cO I,tz j I];have:=gi.get j bl;simp_all
     .rw[Ff kf]at bl;rw[ev I];obtain⟨ic,c,hF,oa⟩:=Y.2 _ aJ bl;simp_all
    obtain⟨aj,an⟩:=OF (s:=s) (d:=d) (e:=e) (Q:=fk++Q) mj (by simp[ag]) (ax:=qs.jl l fk.length) (by simp_all[Rows.ur]) cA E5;have a8:fz X U Z (S.kill s).A (H.put (Z s) .dead) U (mc Z d (H.put (Z s) .dead).next) _ _:=fz.put (s:=d) (B:=.bF e z (fk++Q) true) mj (by simp) (AT (H.put (Z s) .dead) (.cells (qs.jl l fk.length) (fk++Q).length z (ln e) true false)).1;have bn:fz X U Z S.A H U Z (S.kill s).A (H.put (Z s) .dead):=by refine⟨λ_ _ h _=>h,fI _,λa aC ap _=>bg.sh gp gp λe=>ap s _ qL lP rfl e.symm,λ_ _ h=>.inl h,yx.iB.fE⟩
    have apz:fM X d U Z H S U Z (H.put (Z s) .dead) (S.kill s):=⟨mj,bn,yx.aN,yx.fresh,yx.mp⟩;refine⟨_,_,U,_,λk=>?_,apz.trans (fM.of_map (yB _ _) aj a8 (λs q=>j6 q) (λs q e=>Bz q e) (yh d) λs q _=>yz q),an⟩;subst aI;unfold sV;rw[IC,pC,cL];show bd false false (bd (Nat.beq (ln e) (ln e)) (bd (Nat.beq z z) (bd (Nat.beq z z) (gr (Nat.add fk.length Q.length) λbx=>bd (Nat.ble (Nat.mul bx b) 2147483647)
     (bd true (bd true (bd (Nat.beq 0 0) (bd (Nat.beq 0 0) (bd (Nat.beq fk.length fk.length) (grow ax bx λax=>uI l ax fk.length λax=>qz H (Z s) .dead λH=>tq H (.cells ax bx z (ln e) true false) λa H=>k (.slice a 0 bx 0 true z) H) false) false) false) false) _) false) false) false) false)=_
    rw[o9,kN rfl,kN rfl,iG,iG,iG,k5,show Nat.ble (Nat.mul (Nat.add fk.length Q.length) b) 2147483647=true from zA aB,iG,iG,iG,kN rfl,kN rfl,iG,iG,iG];show grow ax (fk.length+Q.length) _=_;simp_all[tG,s9,LB]
  .rename_i b7 cJ fk qL;obtain⟨q,rfl⟩:=hC h;simp only[ig,U9]at q;have aw:=dA.1 q.1.1.1.1;have JH:=dA.1 q.1.1.1.2;subst aw JH;have aB:(fk.length+Q.length)*b<=2147483647:=dT.1 q.1.1.2;have Lq:=dg.1 q.1.2;have aI:=M _ _ _ _ qL;have lP:(fB.bF (ln e) z fk false).real=true:=by cases fk<;>rfl
   obtain⟨ax,cL,dP,fW,gi⟩:=a4.obj s _ qL lP;have aI:tO=.slice (Z s) 0 fk.length fk.length false z:=by cases fk<;>exact aI
   obtain⟨pk,dC,b3⟩:=ac5 (A:=S.A) (n:=0) gi I;have om:=b3.append Y;obtain⟨yY,c4,cl,dm⟩:=XZ (e:=ln e) (z:=z) (n:=fk.length+Q.length) (H:=H) (l:=pk++l) (by rw[om.1,fP]);have ed:fk++Q≠[]:=by intro h;simp_all
   obtain⟨aj,an⟩:=OF (s:=s) (d:=d) (e:=e) a4 ed (ax:=yY) (by simp_all) cA (om.E5 λj bl=>cl j (by simp_all));refine⟨_,_,U,_,λk=>?_,fM.of_map (yB _ _) aj (fz.put a4 (by simp) (AT _ _).1) (λs q=>j6 q) (λs q e=>Bz q e) (yh d) λs q _=>yz q,an⟩;subst aI;unfold sV;rw[IC,pC,cL];show bd false false (bd (Nat.beq (ln e) (ln e)) (bd (Nat.beq z z) (bd (Nat.beq z z) (gr (Nat.add fk.length Q.length) λbx=>bd (Nat.ble (Nat.mul bx b) 2147483647)
    (bd false _ (bd false false (bd (Nat.ble bx fk.length) _ (bd (Nat.ble (0+fk.length) fk.length) (y4 ax fk.length 0 λpk=>nL pk l λl=>Du (ln e) z bx l H k) false)))) false) false) false) false)=_
   rw[o9,kN rfl,kN rfl,iG,iG,iG,k5,show Nat.ble (Nat.mul (Nat.add fk.length Q.length) b) 2147483647=true from zA aB,iG,o9,o9,
    show Nat.ble (Nat.add fk.length Q.length) fk.length=false from ain (I:fk.length<fk.length+Q.length),o9,zA (I:0+fk.length<=fk.length),iG,dC,q8]
   simp_all
  grind
 grind
end
def bU(C:Nat->cE)(X:aO)(f:Nat)(args:bK)(A:bf)(b8:b9->bf->Prop):Prop:=
 ∀(U:ek)(Z:Nat->Nat)(H:bg)(fV:cx),b0 U Z A H->f9 U Z A args fV->
  ∃r bE v az bm b2,b8 r bE/\(∃cS,∀m,cS<=m->∀k,C m f fV H k=k (.val v) az)/\b0 bm b2 bE az/\fz X U Z A H bm b2 bE az/\bR bm r v/\∀s B,look A s=some B->b2 s=Z s
def Gg(P:dK)(t:TypeId)(p v:b9)(bX:di)(ej:bf)(b8:di->bf->Prop):Prop:=
 ∀(U:ek)(Z:Nat->Nat)(H:bg)(lg l4:bp)(xw:cx),b0 U Z ej H->bR U p lg->bR U v l4->c5 U bX xw->
  ∃nI kL az bm b2,b8 nI kL/\(∀k,(px P t).f lg l4 H k=k az)/\b0 bm b2 kL az/\fz [nz p / 4] U Z ej H bm b2 kL az/\(∀s B,look ej s=some B->b2 s=Z s)/\c5 bm nI xw
variable{a9:aO}{ak s z:Nat}{f:a2->a2}{B:fB}{aJ:uq}{Q:g4}{A:bf}{u:Bool}{bm:ek}{Z:Nat->Nat}
def Gg.imp{P p v bX ej b8 ov}{t}(h:Gg P t p v bX ej b8)(a0:∀bX ej,b8 bX ej->ov bX ej):Gg P t p v bX ej ov:=λU Z H lg l4 xw D F aq aL=>by have⟨nI,kL,az,bm,b2,AI,g⟩:=h U Z H lg l4 xw D F aq aL;grind
def As(C:Nat->cE)(f:Nat)(bX:di)(b8:Nat->Nat->di->Prop):Prop:=
 ∀(U:ek)(Z:Nat->Nat)(H:bg)(fV:cx),b0 U Z [] H->c5 U bX fV->
  ∃ak z aJ a ax az bm,b8 ak z aJ/\(∃cS,∀m,cS<=m->∀k,C m f fV H k=k (.val (.ptr a 0 0 z)) az)/\U.le bm/\H.next<=az.next/\(∀b,b<H.next->az.get b=H.get b)/\(∀b B,bm b=some B->az.get b=xU B/\b<az.next)/\
   (∀b B,bm b=some B->U b=some B\/H.next<=b)/\H.next<=a/\a<az.next/\bm a=none/\az.get a=.cells ax 1 z ak false false/\1<=ax.cap/\0<z/\aJ.length=z/\c5 bm aJ (ax.row 0)
def eE(body:(bK->bf->Prop)->bK->bf->Prop):Nat->bK->bf->Prop
 |0=>λ_ _=>False|n+1=>body (eE body n)
def dH(C:Nat->cE):Bw Prop where
 fail:=False
 test:=lY
 call X g dw A k:=∃f b5 cV,g=.fn f b5 cV/\bU C X f (b5.map .J++(dw++cV.map .J)) A k
 loop body E A:=∃n,eE body n E A
 iK P t p v bX ej k:=Gg P t p v bX ej k
 adW g bX k:=∃f b5 cV,g=.fn f b5 cV/\As C f (b5++(bX++cV)) k
def X8{C b}{x y}(h:(dH C).test b x y):(b/\x)\/(b=false/\y):=by
 rcases h with⟨h,M⟩|⟨h,aE⟩
 all_goals simp_all
def kJ{C}{α}{B:Option α}{k}(h:hG (dH C) B k):∃x,B=some x/\k x:=by
 cases B with
 |none=>exact h.elim|some x=>exact⟨x,rfl,h⟩
section
variable{C:Nat->cE}{U:ek}{Z:Nat->Nat}{H:bg}{S:c8}{L:cx}{T:ca}
def f9.append:∀{a b}{l m},f9 U Z A a l->f9 U Z A b m->f9 U Z A (a++b) (l++m)
 |[],_,_,_,h,cz=>by simp_all[f9]
 |e::a,_,_,_,h,cz=>by obtain⟨v,aK,rfl,g,h⟩:=h;exact⟨v,_,rfl,g,f9.append h cz⟩
def c5.lC{l aK}(h:c5 U l aK):f9 U Z A (l.map .J) aK:=co.eU h.qo
def aes{r aU}(a4:b0 U Z S.A H)(ag:∀i,r i=false):∀{args:bK}{i:Nat}{dw:bK}{fV:cx},k8 r [] (keeps S.A aU) i args=some dw->f9 U Z S.A args fV->∃bX,dw=bX.map .J/\c5 (h8 U Z S.A H aU) bX fV
 |[],i,dw,fV,h,aI=>by simp[k8]at h;subst h;subst aI;exact⟨[],rfl,.nil⟩
 |e::args,i,dw,fV,h,aI=>by
  obtain⟨v,aK,rfl,aj,an⟩:=aI;have h:dp (oA (keeps S.A aU) e) (k8 r [] (keeps S.A aU) (i+1) args) (λt r=>some (.J t::r))=some dw:=by simp_all[k8]
  have⟨t,jh,D,F,h⟩:=qW h;cases h;obtain⟨bX,rfl,aM⟩:=aes a4 ag F an;exact⟨t::bX,rfl,.cons (KQ a4 D aj) aM⟩
def aok{t v}(h:yu t)(aI:bR U t v):bR bm t v:=by
 cases t<;>simp only[yu]at h<;>try(cases h;done)
 all_goals first
  |(simp only[bR]at aI ⊢;exact aI)
  |skip
 rename_i l;obtain⟨aK,e,g⟩:=aI;refine⟨aK,e,?_⟩;clear e;induction l generalizing aK with
 |nil=>simpa only[c5]using g
 |cons t l bQ=>simp only[IW,ig]at h;obtain⟨v,Wk,rfl,aj,an⟩:=g.inv;refine .cons ?_ (bQ h.2 Wk an);cases t<;>first|(exact absurd h.1 Se)|(simp only[bR]at aj ⊢;grind)
def LD{f}{b5 cV:di}{dw:bK}{b8}{aU}{args:bK}(ap:bU C [] f (b5.map .J++(dw++cV.map .J)) [] b8)(aC:k8 (λ_=>false) [] (keeps S.A aU) 0 args=some dw):∀(U)(Z)(H)(jg dw cQ),b0 U Z S.A H->c5 U b5 jg->f9 U Z S.A args dw->c5 U cV cQ->∃r bE v az bm,b8 r bE/\(∃cS,∀m,cS<=m->∀k,C m f (jg++(dw++cQ)) H k=k (.val v) az)/\bR bm r v/\(h8 U Z S.A H aU).le bm/\H.next<=az.next/\(∀a,a<H.next->az.get a=H.get a)/\(∀a B,bm a=some B->az.get a=xU B/\a<az.next)/\(∀a B,bm a=some B->h8 U Z S.A H aU a=some B\/H.next<=a):=by
 intro U Z H jg fV cQ a4 M ki aE;obtain⟨bX,rfl,DC⟩:=aes a4 (λ_=>rfl) aC ki;have hle:=rk (aU:=aU) a4;have IB:b0 (h8 U Z S.A H aU) Z [] H:=⟨a4.fZ.e6,λs B h=>(by cases h),λs dx B bH h=>(by cases h),λs B h=>(by cases h)⟩;have om:f9 (h8 U Z S.A H aU) Z [] (b5.map .J++(bX.map .J++cV.map .J)) (jg++(fV++cQ)):=(M.zW hle).lC.append (DC.lC.append (aE.zW hle).lC);have⟨r,bE,v,az,bm,b2,br,D,F,aq,aL,_⟩:=ap _ Z H _ IB om;refine⟨r,bE,v,az,bm,br,D,aL,λa B aV=>aq.le a B aV rfl,aq.next,λa aC=>aq.same a aC (λs B h=>(by cases h)) λ_ _=>rfl,F.e6,λa B aV=>?_⟩;rcases aq.new a B aV with h|h|⟨s,_,h,_⟩|⟨_,_,h⟩
 .simp_all
 .simp_all
 .cases h
 .cases h
def agN{X}{d}{aU}{az:bg}{bm}(a4:b0 U Z S.A H)(hle:(h8 U Z S.A H aU).le bm)(aD:H.next<=az.next)(bI:∀a,a<H.next->az.get a=H.get a)(a1:∀a B,bm a=some B->az.get a=xU B/\a<az.next)(sU:∀a B,bm a=some B->h8 U Z S.A H aU a=some B\/H.next<=a):fM X d U Z H S bm Z az (S.fZ aU):=by
 have bB:=fM.fZ (X:=X) (d:=d) (S:=S) a4 aU;have G0:∀{A:bf},jV id (h8 U Z S.A H aU) Z A bm Z A:=λ{A} e v h=>by
  cases e with
  |J t=>exact bR.mono hle _ _ h|_=>exact h
 have td:b0 bm Z (S.fZ aU).A az:=by
  refine⟨a1,λs B Y ag=>?_,bB.ok.inj,λs B Y=>?_⟩
  .have:=bB.ok.lt s B Y ag;refine⟨pD this.1 aD,?_⟩;cases ar:bm (Z s)<;>grind
  .have:=(bB.ok.obj s B Y).iB (bm:=bm) (bE:=(S.fZ aU).A) (az:=az) G0 hle rfl λag=>bI _ (bB.ok.lt s B Y ag).1;have e:g8 id B=B:=by
    cases B with
    |box ak z aJ=>cases aJ<;>simp[g8]
    |bF=>rfl
   simp_all
 have a9:fM X d (h8 U Z S.A H aU) Z H (S.fZ aU) bm Z az (S.fZ aU):=by have:=fM.of_map (S:=S.fZ aU) (X:=X) (d:=d) (H:=H) G0 td ⟨λa B h _=>hle a B h,aD,λa aC _ _=>bI a aC,λa B aV=>(sU a B aV).elim .inl λh=>.inr (.inl h),λs B Y ag=>.inr ⟨s,B,Y,ag,rfl,λh=>h⟩⟩ (λ_ _=>rfl) (λ_ _ h=>h) o1.id λ_ _ _ _ _=>⟨rfl,rfl,rfl⟩;rwa[show(S.fZ aU).L.map (dF id)=(S.fZ aU).L from by rw[show(dF id)=id from tZ sT];simp,show(S.fZ aU).E.map (dF id)=(S.fZ aU).E from by rw[show(dF id)=id from tZ sT];simp]at this
 exact bB.trans a9
end
def JL:∀{a9}{i s j},place a9 i s=some j->∃n,j=i+n/\a9[n]?=some s
 |[],_,_,_,h=>by cases h
 |a::l,i,s,j,h=>by
  simp[place]at h;cases q:Nat.beq a s with
  |true=>simp_all
  |false=>rw[q]at h;obtain⟨n,rfl,F⟩:=JL h;grind
def Fx(h:RX B):B.real:=by
 cases B with
 |box=>rfl
 |bF ak z Q u=>cases u<;>first|(cases h;done)|(cases Q<;>rfl)
def F7:∀{l}{i}{ej},rE a9 A i l=some ej->(∀j B,look ej j=some B->∃n s fD,j=i+n/\l[n]?=some s/\look A s=some fD/\RX fD/\B=g8 (qT a9 1000) fD)/\(∀(n s),l[n]?=some s->∃fD,look A s=some fD/\look ej (i+n)=some (g8 (qT a9 1000) fD))
 |[],i,ej,h=>by simp[rE]at h;subst h;exact⟨λj B h=>(by cases h),λn s h=>(by grind)⟩
 |s::l,i,ej,h=>by
  unfold rE at h;split at h
  .rename_i fD Y;split at h
   .rename_i a1;have⟨r,D,h⟩:=it h;cases h;have⟨aj,an⟩:=F7 D;constructor
    .intro j B bl;rw[iC]at bl;by_cases e:j=i
     .simp_all
     .rw[cO e]at bl;have⟨n,dx,bH,bC,aX,b4,dc⟩:=aj j B bl;exact⟨n+1,dx,bH,I,by simp_all,b4,dc⟩
    .intro n dx aD;cases n with
     |zero=>simp at aD;simp_all[iC]
     |succ n=>have⟨bH,bC,aX⟩:=an n dx (by simp_all);exact⟨bH,bC,by rw[iC,cO I,show i+(n+1)=i+1+n by omega];grind⟩
   grind
  grind
def S1:∀{a9}{n cI s:Nat},lw a9->a9[n]?=some s->a9[cI]?=some s->n=cI
 |[],n,cI,s,_,h,_=>by grind
 |a::l,n,cI,s,aY,h,cz=>by
  simp only[lw]at aY;cases q:l.contains a with
  |true=>simp_all
  |false=>
   rw[q]at aY;have aD:a∉l:=by simp_all
   cases n with
   |zero=>grind
   |succ n=>cases cI with
    |zero=>grind
    |succ cI=>exact fr (· +1) (S1 aY (by simpa using h) (by simp_all))
def vg(Z:Nat->Nat)(a9:aO):Nat->Nat:=λj=>Z (a9.getD (j - 1000) 0)
def wT{n}(h:a9[n]?=some s):vg Z a9 (1000+n)=Z s:=by unfold vg;simp_all
def nX.U5{U H b2 bE dx az}(h:nX U Z A H s B)(a1:jV f U Z A bm b2 bE)(hle:U.le bm)(aN:b2 dx=Z s)(bI:B.real->az.get (Z s)=H.get (Z s)):nX bm b2 bE az dx (g8 f B):=by
 cases B with
 |box ak z aJ=>
  have⟨ax,aj,an,aM,bs⟩:=h;have cp:=a1.row hle bs;have dj:az.get (b2 dx)=.cells ax 1 z ak false false:=by rw[aN,bI rfl];grind
  cases aJ with
  |cb l=>exact⟨ax,dj,an,aM,cp⟩|bS l=>exact⟨ax,dj,an,aM,cp⟩
 |bF ak z Q u=>intro ag;have⟨ax,aj,an,aM,bs⟩:=h ag;exact⟨ax,by simp_all,an,aM,gY.mono hle _ _ _ _ bs⟩
section
variable{U:ek}{Z:Nat->Nat}{A ej:bf}{H:bg}{a9:aO}
def VY(h:g8 f B=.box ak z aJ):∃mf,B=.box ak z mf:=by
 cases B with
 |box e8 cJ gj=>cases gj<;>(cases h;simp_all)
 |bF=>cases h
def TP(h:g8 f B=.bF ak z Q u):B=.bF ak z Q u:=by
 cases B with
 |box e8 cJ gj=>cases gj<;>cases h
 |bF=>exact h
def aa3(aB:rE a9 A 1000 a9=some ej)(aY:lw a9):jV (qT a9 1000) U Z A U (vg Z a9) ej:=by
 intro e v h;cases e with
 |J t=>exact h|bx=>exact h|i4=>simp[qT,dE,bR]
 |bN s aR=>
  simp[qT];cases q:place a9 1000 s with
  |none=>simp[dE,bR]
  |some j=>obtain⟨n,rfl,aD⟩:=JL q;intro ak z aJ Y;have⟨cI,dx,fD,aP,a3,cW,_,g5⟩:=(F7 aB).1 _ _ Y;have:cI=n:=I;subst this;rw[aD]at a3;cases a3;rw[wT aD];obtain⟨mf,rfl⟩:=VY g5.symm;exact h _ _ _ cW
 |bD s=>
  simp[qT];cases q:place a9 1000 s with
  |none=>simp[dE,bR]
  |some j=>obtain⟨n,rfl,aD⟩:=JL q;intro ak z Q u Y;have⟨cI,dx,fD,aP,a3,cW,_,g5⟩:=(F7 aB).1 _ _ Y;have:cI=n:=I;subst this;rw[aD]at a3;cases a3;rw[wT aD];have:=TP g5.symm;subst this;exact h _ _ _ _ cW
 |fU s r aR=>simp[qT,dE,bR]|agg l=>exact h.elim|fn f x y=>exact h.elim
def MR(a4:b0 U Z A H)(aB:rE a9 A 1000 a9=some ej)(aY:lw a9):b0 U (vg Z a9) ej H:=by
 have⟨aj,an⟩:=F7 aB;refine⟨a4.e6,λj B bl ag=>?_,λj ql B bH bl xT ag f7 e=>?_,λj B bl=>?_⟩
 .obtain⟨n,s,fD,rfl,a3,cW,uN,rfl⟩:=aj j B bl;rw[wT a3];exact a4.lt s _ cW (Fx uN)
 .obtain⟨n,s,fD,rfl,a3,cW,uN,rfl⟩:=aj j B bl;obtain⟨cI,dx,TW,rfl,Fw,ai3,amm,rfl⟩:=aj ql bH xT;rw[wT a3,wT Fw]at e;have:=a4.inj s dx _ _ cW ai3 (Fx uN) (Fx amm) e;subst this;rw[S1 aY a3 Fw]
 .obtain⟨n,s,fD,rfl,a3,cW,uN,rfl⟩:=aj j B bl;exact(a4.obj s _ cW).U5 (aa3 aB aY) (ek.le_refl U) (wT a3) λ_=>rfl
def aah:∀{l}{i}{r A bE},lw l->sB a9 i l r A=some bE->(∀t,t∉l->look bE t=look A t)/\(∀(n s),l[n]?=some s->∃B fD,look r (i+n)=some B/\look A s=some fD/\xm fD B/\look bE s=some (g8 (yU a9) B))
 |[],i,[],A,bE,_,h=>by simp_all[sB]
 |[],i,_::_,A,bE,_,h=>by simp[sB]at h
 |s::l,i,[],A,bE,_,h=>by simp[sB]at h
 |s::l,i,(j,B)::r,A,bE,aY,h=>by
  unfold sB at h;split at h
  .rename_i bH q Y;split at h
   .rename_i aX;have q:=dA.1 q;have GG:s∉l/\lw l=true:=by
     simp only[lw]at aY;grind
    have⟨aj,an⟩:=aah GG.2 h;constructor
    .simp_all[sH]
    .intro n dx aD;cases n with
     |zero=>simp at aD;simp_all[iC,sH]
     |succ n=>
      have l9:l[n]?=some dx:=by simp_all
      have⟨dP,fW,aP,a3,g5,cW⟩:=an n dx l9;refine⟨dP,fW,?_,?_,g5,cW⟩
      .rw[iC,cO I,show i+(n+1)=i+1+n by omega];grind
      .rw[sH,cO (λe=>by grind)]at a3;grind
   grind
  grind
def abV(h:xm B (.box ak z aJ)):∃mf,B=.box ak z mf:=by
 cases B with
 |box e8 cJ gj=>simp_all[xm]
 |bF=>cases h
def acM(h:xm B (.bF ak z Q u)):u=false/\∃fk:g4,fk.length=Q.length/\B=.bF ak z fk false:=by
 cases B with
 |box=>cases h
 |bF e8 cJ gw fY=>simp only[xm,ig,U9]at h;simp_all
def aew{bH}(h:xm B bH):B.real/\bH.real:=by
 cases bH with
 |box ak z aJ=>obtain⟨r,rfl⟩:=abV h;exact⟨rfl,rfl⟩
 |bF ak z Q u=>obtain⟨rfl,r,_,rfl⟩:=acM h;exact⟨by cases r<;>rfl,by cases Q<;>rfl⟩
def YS{a}:∀{a9 l},kS a9 l->a∈a9->cn a l=false
 |[],_,_,h=>by cases h
 |b::a9,l,h,hm=>by
  have a0:∀l:aO,kS.GW b l=cn b l:=by
   intro l;induction l with
   |nil=>rfl|cons a l bQ=>simp_all[kS.GW,cn]
  simp[kS,a0]at h;rcases hS.1 hm with rfl|hm
  .grind
  .exact YS h.2 hm
def aeI{l aK t}:∀{a9}{i n},O1 l aK i a9->a9[n]?=some t->cn t l->cn (i+n) aK
 |[],_,_,_,h,_=>by grind
 |b::a9,i,n,h,aD,au=>by
  simp[O1]at h;cases n with
  |zero=>simp_all
  |succ n=>rw[show i+(n+1)=i+1+n by omega];exact aeI h.2 (by simp_all) au
def aji{a9 X et}{n t ak z e8 cJ}{aJ gj}(h:xc a9 X et)(aD:a9[n]?=some t)(a1:hr et t (.box ak z aJ)):hr X (1000+n) (.box e8 cJ gj):=by
 cases et with
 |nil=>cases a1
 |cons a l=>cases a with
  |succ a=>cases a1
  |zero=>
   have a1:cn t l=true:=a1;have dv:kS a9 l=true->False:=λh=>by rw[YS h (Kg aD)]at a1;grind
   cases X with
   |nil=>exact(dv h).elim
   |cons b aK=>cases b with
    |succ b=>exact(dv h).elim|zero=>exact aeI (l:=l) (aK:=aK) h aD a1
def Zw{X}{s}{B}(h:hr X s B):∃ak z aJ,B=.box ak z aJ:=by
 cases B with
 |box=>simp_all
 |bF=>cases h
def Pq{X et g9}(wO:∀x,cn x (fq X)->cn x g9)(ZQ:∀x,cn x (fq X)->cn x (fq et))(UN:xc a9 X et){bm}{b2}{kL bE}{az}(a4:b0 U Z A H)(aB:rE a9 A 1000 a9=some ej)(aY:lw a9)(aQ:b0 bm b2 kL az)(ar:fz X U (vg Z a9) ej H bm b2 kL az)(aN:∀s B,look ej s=some B->b2 s=vg Z a9 s)(h:sB a9 1000 a9 kL (qB g9 A)=some bE):b0 bm Z bE az/\fz et U Z A H bm Z bE az/\jV (i5 g9) U Z A bm Z bE/\∀s,look A s=none->look bE s=none:=by
 have⟨cD,dp⟩:=F7 aB;have⟨aj,aqM⟩:=aah aY h;have an:∀(n s:Nat),a9[n]?=some s->∃B fD,look kL (1000+n)=some B/\(look (qB g9 A) s=some fD/\xm fD B=true)/\(∃cL,look A s=some cL/\cL.real=true)/\look bE s=some (g8 (yU a9) B):=by
  intro n s aD;have⟨B,fD,aP,a3,g5,cW⟩:=aqM n s aD;have mm:=(aew g5).1;have Fw:=a3;rw[w7]at Fw;cases a0:look A s with
  |none=>simp_all
  |some cL=>rw[a0]at Fw;cases Fw;rw[vV]at mm;simp_all
 have mem:∀t,t∈a9->∃n:Nat,a9[n]?=some t:=λt au=>by have⟨n,aD,e⟩:=ajk au;exact⟨n,by simp_all⟩
 have IQ:∀(n s:Nat),a9[n]?=some s->b2 (1000+n)=Z s:=λn s aD=>by have⟨fD,aP,a3⟩:=dp n s aD;rw[aN _ _ a3,wT aD]
 have tx:Shape (qB g9 A) bE:=by
  constructor
  .intro t ak z aJ Y;by_cases au:t∈a9
   .have⟨n,aD⟩:=mem t au;have⟨B,fD,aP,⟨a3,g5⟩,_,cW⟩:=an n t aD;rw[cW]at Y;obtain⟨SB,rfl⟩:=VY (E2 Y);obtain⟨mf,rfl⟩:=abV g5;simp_all
   simp_all
  .intro t ak z Q u Y;by_cases au:t∈a9
   .have⟨n,aD⟩:=mem t au;have⟨B,fD,aP,⟨a3,g5⟩,_,cW⟩:=an n t aD;rw[cW]at Y;have:=TP (E2 Y);subst this;obtain⟨rfl,fk,mm,rfl⟩:=acM g5;simp_all
   simp_all
 have low:∀x (W:aO),(∀x,cn x (fq X)=true->cn x W=true)->cn x W=false->cn x (fq X)=false:=λx W D F=>by
  grind
 have Kj:U.jz g9 bm:=λa B aV M=>ar.le a B aV (low _ g9 wO M);have P7:jV (i5 g9) U Z A bm Z bE:=λe v g=>tx.UZ (U8 Kj e v g);have adQ:jV (yU a9) bm b2 kL bm Z bE:=by
  intro e v g;cases e with
  |J t=>exact g|bx=>exact g|i4=>simp[yU,dE,bR]
  |bN s aR=>
   simp[yU];cases q:Nat.ble 1000 s with
   |false=>simp[dE,bR]
   |true=>
    have q:=dT.1 q;cases mB:a9[s - 1000]? with
    |none=>simp[dE,bR]
    |some t=>intro ak z aJ Y;have⟨B,fD,aP,_,_,cW⟩:=an _ t mB;rw[cW]at Y;obtain⟨SB,rfl⟩:=VY (E2 Y);rw[show 1000+(s - 1000)=s by omega]at aP;have:=g _ _ _ aP;grind
  |bD s=>
   simp[yU];cases q:Nat.ble 1000 s with
   |false=>simp[dE,bR]
   |true=>
    have q:=dT.1 q;cases mB:a9[s - 1000]? with
    |none=>simp[dE,bR]
    |some t=>intro ak z Q u Y;have⟨B,fD,aP,_,_,cW⟩:=an _ t mB;rw[cW]at Y;have:=TP (E2 Y);subst this;rw[show 1000+(s - 1000)=s by omega]at aP;have:=g _ _ _ _ aP;grind
  |fU s r aR=>simp[yU,dE,bR]|agg l=>exact g.elim|fn f x y=>exact g.elim
 have pk:∀t B,t∉a9->look A t=some B->B.real=true->(∀s bH,look ej s=some bH->bH.real=true->vg Z a9 s≠Z t):=by intro t B au Y ag s bH ap f7 e;obtain⟨n,dx,fD,rfl,a3,cW,uN,rfl⟩:=cD s bH ap;rw[wT a3]at e;have:=a4.inj dx t _ _ cW Y (Fx uN) ag e;grind
 have fR:∀t B,t∉a9->look bE t=some B->∃bH,look A t=some bH/\B=p4 g9 bH:=λt B au Y=>by
  rw[aj t au,w7]at Y;cases a0:look A t<;>simp_all
 refine⟨⟨aQ.e6,λt B Y ag=>?_,λt a6 B bH Y iJ ag f7 e=>?_,λt B Y=>?_⟩,⟨λa B aV M=>ar.le a B aV (low _ _ ZQ M),ar.next,λa aC ap M=>?_,λa B aV=>?_,λt B Y ag=>.inr ?_⟩,P7,λt au=>?_⟩
 .by_cases au:t∈a9
  .have⟨n,aD⟩:=mem t au;have⟨cL,fD,aP,⟨a3,g5⟩,_,cW⟩:=an n t aD;rw[<-IQ n t aD];exact aQ.lt _ _ aP (aew g5).2
  .obtain⟨cL,lR,rfl⟩:=fR t B au Y;rw[vV]at ag;have br:=a4.lt t cL lR ag;refine⟨pD br.1 ar.next,?_⟩;cases a0:bm (Z t)with
   |none=>rfl
   |some x=>
    rcases ar.new _ _ a0 with h|h|⟨s,bH,aP,a3,cW⟩|⟨fD,h,_⟩
    all_goals grind
 .have BC:∀t B,look bE t=some B->B.real=true->∃bH,look A t=some bH/\bH.real=true:=by
   intro t B Y ag;by_cases au:t∈a9
   .grind
   .obtain⟨cL,lR,rfl⟩:=fR t B au Y;simp_all[vV]
  have⟨p,ic,hF⟩:=BC t B Y ag;have⟨lO,Tb,Re⟩:=BC a6 bH iJ f7;exact a4.inj t a6 p lO ic Tb hF Re e
 .by_cases au:t∈a9
  .have⟨n,aD⟩:=mem t au;have⟨cL,fD,aP,_,_,cW⟩:=an n t aD;rw[cW]at Y;cases Y;exact(aQ.obj _ _ aP).U5 adQ (ek.le_refl _) (IQ n t aD).symm λ_=>rfl
  .obtain⟨cL,lR,rfl⟩:=fR t B au Y;exact(a4.obj t cL lR).bJ P7 Kj rfl λag=>ar.same _ (a4.lt t cL lR ag).1 (λs bH aj an _=>pk t cL au lR ag s bH aj an) λB aV=>by rw[(a4.lt t cL lR ag).2]at aV;grind
 .refine ar.same a aC (λs bH aP a3 FX cW=>?_) λB aV=>low _ _ ZQ (M B aV);obtain⟨n,dx,fD,rfl,aX,b4,uN,rfl⟩:=cD s bH aP;rw[wT aX]at cW;refine ap dx _ b4 (Fx uN) ?_ cW;cases q:hr et dx fD with
  |false=>rfl
  |true=>obtain⟨ak,z,aJ,rfl⟩:=Zw q;rw[BP,aji UN aX q]at FX;grind
 .rcases ar.new a B aV with h|h|⟨s,bH,aP,a3,cW⟩|h
  all_goals grind
 .by_cases au:t∈a9
  .have⟨n,aD⟩:=mem t au;have⟨_,_,_,_,⟨cL,g5,mm⟩,_⟩:=an n t aD;refine⟨t,_,g5,mm,rfl,λh=>?_⟩;obtain⟨ak,z,aJ,rfl⟩:=Zw h;cases B with
   |box e8 cJ gj=>exact h
   |bF e8 cJ gw fY=>have⟨_,_,bO⟩:=tx.2 _ _ _ _ _ Y;rw[w7,g5]at bO;cases aJ<;>cases bO
  .obtain⟨cL,lR,rfl⟩:=fR t B au Y;rw[vV]at ag;exact⟨t,cL,lR,ag,rfl,λh=>by rw[Ow];exact h⟩
 .by_cases aB:t∈a9
  .grind
  simp_all[w7]
end
end Go.Tx
