/- A part. -/
import Derived.Test.YtkjmpcfikenlbaaGreatDoorE3
set_option linter.all false
namespace Go.Ev
open Go
section
variable{ae:cX}{es:aO}{ah:dM}{L:cx}{T:ca}{a:Act}{P:Program}
def auH(bB a9 C:lE)(b c):(bB++b::C).set bB.length c=bB++c::C:=by
 simp_all
def aeH(aR):∀(fx:lE)(k)(bB a9 C:lE),bB.length=aR+k->a9.length=fx.length->(fx.zipIdx k).foldl (λ(eU)(x)=>eU.setIfInBounds (aR+x.2) x.1) (List.toArray (bB++a9++C))=List.toArray (bB++fx++C)
 |[],k,bB,a9,C,D,F=>by simp_all
 |v::fx,k,bB,b::a9,C,D,F=>by
  simp only[List.zipIdx_cons,zt];have e:(List.toArray (bB++b::a9++C)).setIfInBounds (aR+k) v=List.toArray ((bB++[v])++a9++C):=by simp_all
  rw[e,aeH aR fx (k+1) (bB++[v]) a9 C (by grind) (by simp_all)];simp
def agn(aR)(fx:Array Value)(bB a9 C:lE)(D:bB.length=aR)(F:a9.length=fx.size):fx.zipIdx.foldl (λ(eU)(x)=>eU.setIfInBounds (aR+x.2) x.1) (List.toArray (bB++a9++C))=List.toArray (bB++fx.toList++C):=by have⟨l⟩:=fx;have:=aeH aR l 0 bB a9 C (by simp_all) (by simp_all);simp_all
def Yf:∀(gu:vR)(i:Nat)(s:lE),gu[i]?=some s->∀v:lE,gu.flatten=(gu.take i).flatten++s++(gu.drop (i+1)).flatten/\(gu.set i v).flatten=(gu.take i).flatten++v++(gu.drop (i+1)).flatten
 |[],i,s,h,_=>by grind
 |q::gu,0,s,h,v=>by simp_all
 |q::gu,i+1,s,h,v=>by simp only[RB]at h;have⟨D,F⟩:=Yf gu i s h v;simp_all
def y0(gu:vR):List (Nat×Value)->vR
 |[]=>gu|(i,v)::l=>y0 (gu.set i v.cells.toList) l
def abG(gu):∀l,(y0 gu l).length=gu.length:=by
 intro l;induction l generalizing gu with
 |nil=>rfl|cons x l bQ=>simp[y0,bQ]
def wK(fw:aO)(i:Nat):Nat:=(fw.take i).sum
def as6:∀(gu:vR),gu.flatten.length=(gu.map List.length).sum
 |[]=>rfl
 |s::gu=>by simp_all
def U0(place:Nat->Option (Nat×Nat))(fw)(bq:∀(i s),fw[i]?=some s->place i=some (wK fw i,s)):∀(parts)(gu:vR),gu.map List.length=fw->(∀p∈parts,fw[p.1]?=some p.2.cells.size)->Instr.fill place (List.toArray gu.flatten) parts=some (List.toArray (y0 gu parts).flatten)
 |[],gu,_,_=>rfl
 |(i,v)::parts,gu,ap,h=>by
  have D:=h (i,v) (by simp);have F:=bq i _ D;have aq:∃s,gu[i]?=some s/\s.length=v.cells.size:=by
   grind
  have⟨s,ib,Jk⟩:=aq;have⟨f1,f2⟩:=Yf gu i s ib v.cells.toList;have aV:(gu.take i).flatten.length=wK fw i:=by simp_all[wK]
  have iH:¬((v.cells.size≠v.cells.size||wK fw i+v.cells.size>(List.toArray gu.flatten).size)=true):=by simp_all
  unfold Instr.fill;simp only[F];rw[cO iH];have dv:v.cells.zipIdx.foldl (λ(eU:Array Value)(x:Value×Nat)=>eU.setIfInBounds (wK fw i+x.2) x.1) (List.toArray gu.flatten)=List.toArray (gu.set i v.cells.toList).flatten:=by rw[f1,f2];exact agn _ _ _ _ _ aV Jk
  refine(fr (λc=>Instr.fill place c parts) dv).trans ?_;have qw:(gu.set i v.cells.toList).map List.length=fw:=by
   rw[List.map_set,<-ap];have lK:(gu.map List.length)[i]?=some v.cells.toList.length:=by simp_all
   apply He;grind
  exact U0 place fw bq parts _ qw λp bq=>h p (by grind)
def od(i:Nat):List (Nat×Value)->Option Value
 |[]=>none
 |(j,v)::l=>match od i l with
  |some v=>some v|none=>if i=j then some v else none
def TS(i:Nat):∀(parts:List (Nat×Value))(gu:vR),i<gu.length->
 (y0 gu parts)[i]?=match od i parts with
  |some v=>some v.cells.toList|none=>gu[i]?
 |[],gu,_=>rfl
 |(j,v)::parts,gu,h=>by
  simp[y0,od]
  rw[TS i parts _ (by simp_all)]
  grind
def agf{parts:List (Nat×Operand)}(i:Nat):(match partOf i (qv es ah parts)with
 |some g=>∃x,g=eF es ah x/\(i,x)∈parts/\od i (parts.map λp=>(p.1,a.eval p.2))=some (a.eval x)
 |none=>od i (parts.map λp=>(p.1,a.eval p.2))=none):=by
 induction parts with
 |nil=>rfl
 |cons p parts bQ=>
  have⟨j,x⟩:=p;simp[qv,partOf,od];cases a0:partOf i (qv es ah parts)with
  |some g=>grind
  |none=>
   rw[a0]at bQ;simp only[bQ];cases aB:Nat.beq i j with
   |true=>have e:=dA.1 aB;grind|false=>simp_all[tC]
def arv(l):∀{r}{k},(FJ l r).f L T k->r.f L T (λq=>k (l++q)):=by
 induction l with
 |nil=>intro r k h;exact h|cons x l bQ=>intro r k h;exact bQ (k:=λq=>k (x::q)) h
def RD{parts:List (Nat×Operand)}(eI:∀p∈parts,j7 ae es ah L T a p.2):∀{cK:List Field}{i:Nat}{z:cx}{g9:lE}{r:Dw}{k:cx->Bool},
 uv P (qv es ah parts) i cK z=some r->r.f L T k=true->dh ae z g9->(∀x∈z,x.lQ=true)->
 ∃l,k l=true/\l.length=z.length/\(∀x∈l,x.lQ=true)/\∃(fw:aO)(gu:vR),cK.length=fw.length/\(∀(j:Nat)(f:Field),cK[j]?=some f->fy P f.type=fw[j]?)/\
  gu.map List.length=fw/\g9=gu.flatten/\
  (∀(j:Nat)(v:Value),j<cK.length->od (i+j) (parts.map λp=>(p.1,a.eval p.2))=some v->fw[j]?=some v.cells.size)/\
  ∃out:vR,dh ae l out.flatten/\out.length=cK.length/\∀(j:Nat),j<cK.length->out[j]?=match od (i+j) (parts.map λp=>(p.1,a.eval p.2))with
   |some v=>some v.cells.toList|none=>gu[j]?
 |[],i,[],g9,r,k,ag,h,cA,aQ=>by
  simp[uv]at ag
  subst ag
  subst cA
  exact⟨[],h,rfl,by simp,[],[],rfl,by simp,rfl,rfl,by simp,[],dh.nil,rfl,by simp⟩
 |[],i,_::_,g9,r,k,ag,h,cA,aQ=>by simp[uv]at ag
 |fd::cK,i,z,g9,r,k,ag,h,cA,aQ=>by
  unfold uv at ag
  split at ag
  .rename_i s ap
   have RA:=agf (es:=es) (ah:=ah) (a:=a) (parts:=parts) i
   split at ag
   .rename_i eH g hle uf PZ
    cases ag
    rw[PZ]at RA
    have⟨x,Ci,uH,Y⟩:=RA
    rw[dT]at hle
    have M:bP ae (g L T) (a.eval x):=by have:=eI _ uH;unfold j7 at this;rw[<-Ci]at this;grind
    change kD (g L T) s (λc=>eH L T λq=>nL c q k)=true at h
    have⟨c,eR,h,LV,ady,pi,qA⟩:=ajn h M
    have⟨q,h,Xw,afh,fw,gu,gx,s2,oV,qy,wU,out,cL,dP,fW⟩:=RD eI uf h (cA.drop s) λy aE=>aQ y (Ay aE)
    rw[q8]at h
    refine⟨c++q,h,by simp_all,?_,s::fw,g9.take s::gu,by grind,?_,?_,?_,?_,eR::out,?_,by grind,?_⟩
    .grind
    .grind
    .simp only[gg,oV,rR,cA.length];simp_all
    .simp [<-qy]
    .intro j v bl aI
     cases j with
     |zero=>
      rw[Jv,Y]at aI
      cases aI
      simp[LV,ady.length,pi]
     |succ j=>
      grind
    .exact ady.append cL
    grind
   .rename_i eH hle uf PZ
    cases ag
    rw[PZ]at RA
    rw[dT]at hle
    have h:=arv _ h
    have⟨q,h,Xw,afh,fw,gu,gx,s2,oV,qy,wU,out,cL,dP,fW⟩:=RD eI uf h (cA.drop s) λy aE=>aQ y (Ay aE)
    refine⟨z.take s++q,h,by simp_all,?_,s::fw,g9.take s::gu,by grind,?_,?_,?_,?_,g9.take s::out,?_,by grind,?_⟩
    .grind
    .grind
    .simp only[gg,oV,rR,cA.length];simp_all
    .simp [<-qy]
    .grind
    .exact(cA.take s).append cL
    grind
   grind
  grind
end
section
variable{ae:cX}{es:aO}{ah:dM}{L:cx}{T:ca}{a:Act}{P:Program}
def run_places(w):∀(cK:List Field)(fw:aO),cK.length=fw.length->(∀(j:Nat)(f),cK[j]?=some f->fy P f.type=fw[j]?)->(cK.mapM (λf=>(do pure (f.offset,<-sizeOf f.type):Sem (Nat×Nat)))).run P w=.ok ((cK.zip fw).map λx=>(x.1.offset,x.2)) w
 |[],_,_,_=>by simp
 |f::cK,[],h,_=>by grind
 |f::cK,s::fw,h,ap=>by
  have D:fy P f.type=some s:=by simpa using ap 0 f rfl
  have F:=run_places w cK fw (by simp_all) λj f bl=>by simpa using ap (j+1) f (by simp_all)
  rw[List.mapM_cons,jm,jm,rF D];simp_all
def adZ:∀{cK}{B}{fw},CE P B cK->cK.length=fw.length->(∀(j:Nat)(f),cK[j]?=some f->fy P f.type=fw[j]?)->∀(j)(f),cK[j]?=some f->f.offset=B+wK fw j
 |[],B,fw,h,Y,ap,j,f,bl=>by grind
 |fd::cK,B,[],h,Y,ap,j,f,bl=>by grind
 |fd::cK,B,s::fw,h,Y,ap,j,f,bl=>by
  have D:fy P fd.type=some s:=by simpa using ap 0 fd rfl
  unfold CE at h;simp only[D]at h;split at h
  .rename_i aB;cases j with
   |zero=>simp_all[wK]
   |succ j=>have:=adZ h (by simpa using Y) (λj f bl=>by simpa using ap (j+1) f (by simp_all)) j f (by simp_all);simp_all[wK,GM]
  simp_all
def WA:∀{l}{i}{v},lw (l.map Prod.fst)->(i,v)∈l->od i l=some v
 |[],i,v,h,hm=>by grind
 |(j,w)::l,i,v,h,hm=>by
  unfold lw at h;simp at h;split at h
  .grind
  .rename_i aQ;simp[od];rcases hS.1 hm with e|hm
   .have aP:i=j:=fr Prod.fst e;have a3:v=w:=fr Prod.snd e;subst aP a3;have:od i l=none:=by
     cases Y:od i l with
     |none=>rfl
     |some u=>
      have:∀{l:List (Nat×Value)}{u:Value},od i l=some u->i∈l.map Prod.fst:=by
       intro l;induction l with
       |nil=>simp_all[od]
       |cons x l bQ=>
        have⟨ql,iq⟩:=x;intro u h;simp only[od]at h;grind
      simp_all
    simp_all
   .rw[WA h hm]
def aiC{t}{c7:Array (Nat×Operand)}{k}(h:(C7 P t (qv es ah c7.toList)).f L T k)(eI:∀p∈c7.toList,j7 ae es ah L T a p.2):ku ae k (Instr.build t (c7.map λp=>(p.1,a.eval p.2))) P:=by
 unfold C7 at h;split at h
 .rename_i cK hu;split at h
  .rename_i n l a4 cA;split at h
   .rename_i r a1;have⟨g9,wO,kX⟩:=PA cA;have⟨atm,ag3,XX,qA⟩:=PY (ae:=ae) wO (by simp);simp only[bp.cells]at XX qA;have⟨q,h,Xw,afh,fw,gu,gx,s2,oV,qy,wU,out,cL,dP,fW⟩:=RD (ae:=ae) eI a1 h XX qA;simp only[ig]at a4;have⟨⟨JV,u4⟩,om⟩:=a4;have aD:l.length=n:=by have:=OO (ae:=ae) wO;grind[bP]
    refine .mk h (V:=.agg (List.toArray out.flatten)) (by simp only[bP];simp_all) λw=>?_;have Di:((c7.map λp=>(p.1,a.eval p.2)):Array (Nat×Value)).toList=c7.toList.map λp=>(p.1,a.eval p.2):=by simp
    have ajZ:lw ((c7.toList.map λp=>(p.1,a.eval p.2)).map Prod.fst)=true:=by
     have e:(qv es ah c7.toList).map Prod.fst=(c7.toList.map λp=>(p.1,a.eval p.2)).map Prod.fst:=by
      generalize c7.toList=l;induction l with
      |nil=>rfl|cons x l bQ=>simp[qv,bQ]
     simp_all
    have be:∀p∈c7.toList,p.1<cK.toList.length:=by
     intro p bq;rw[ub]at om;have:(p.1,eF es ah p.2)∈qv es ah c7.toList:=by
      generalize c7.toList=l at bq;induction l with
      |nil=>grind
      |cons x l bQ=>
       rcases hS.1 bq with e|bq
       .subst e;simp[qv]
       simp_all[qv]
     exact dg.1 (om _ this)
    have P7:(cK.mapM (λf:Field=>(do pure (f.offset,<-sizeOf f.type):Sem (Nat×Nat)))).run P w=.ok (List.toArray ((cK.toList.zip fw).map λx=>(x.1.offset,x.2))) w:=by rw[Array.mapM_eq_mapM_toList,Sem.run_map,run_places w _ _ gx s2];rfl
    have Zg:Instr.fill ((List.toArray ((cK.toList.zip fw).map λx=>(x.1.offset,x.2)))[·]?) g9.cells ((c7.map λp=>(p.1,a.eval p.2)):Array (Nat×Value)).toList=
     some (List.toArray (y0 gu (c7.toList.map λp=>(p.1,a.eval p.2))).flatten):=by
     rw[ag3,qy,Di]
     refine U0 _ fw ?_ _ _ oV ?_
     .intro i s ap;have aN:i<cK.toList.length:=by grind
      have arP:cK.toList[i]?=some cK.toList[i]:=lX aN;have:=adZ JV gx s2 i _ arP;grind
     .intro p bq;obtain⟨x,M,rfl⟩:=ya.1 bq;have D:=WA ajZ (ya.2 ⟨x,M,rfl⟩);grind
    have zI:y0 gu (c7.toList.map λp=>(p.1,a.eval p.2))=out:=by
     apply He;intro j;have xz:gu.length=cK.toList.length:=by grind
     by_cases bl:j<cK.toList.length
     .rw[TS j _ _ I,fW j bl,pW]
     .rw[tY (by rw[abG];omega),tY I]
    simp only[Instr.build,jm,kX,jt,h6 hu];simp_all
   .exact ci h
  .exact ci h
 .exact ci h
def Ud(bS:Bool)(w):∀(l:List Int)(n),((l.map λm=>Value.int .i64 m).foldlM (if bS then Builtin.max2 else Builtin.min2) (.int .i64 n)).run P w=.ok (.int .i64 (l.foldl (λx y=>if bS then max x y else min x y) n)) w
 |[],n=>by simp
 |m::l,n=>by
  rw[gg,List.foldlM_cons,jm];cases bS with
  |true=>
   have:(Builtin.max2 (.int .i64 n) (.int .i64 m)).run P w=.ok (.int .i64 (max n m)) w:=by simp only[Builtin.max2,kp];grind
   simp only[Dh,this,jt,zt];have:=Ud true w l (max n m);simp_all
  |false=>
   have:(Builtin.min2 (.int .i64 n) (.int .i64 m)).run P w=.ok (.int .i64 (min n m)) w:=by simp only[Builtin.min2,kp];grind
   simp only[Dy,sY,this,jt,zt];have:=Ud false w l (min n m);simp_all
def Jj(bS:Bool):∀(l:List Int)(n m),(if bS then max n (l.foldl (λx y=>if bS then max x y else min x y) m)else min n (l.foldl (λx y=>if bS then max x y else min x y) m))=l.foldl (λx y=>if bS then max x y else min x y) (if bS then max n m else min n m)
 |[],n,m=>rfl
 |x::l,n,m=>by simp only[zt];rw[Jj bS l n];simp_all
def Ma{n m}(aD:n<18446744073709551616)(hm:m<18446744073709551616):py n m=true↔eM 3 n<eM 3 m:=by
 unfold py;rw[dg];show(n+9223372036854775808) % 18446744073709551616<(m+9223372036854775808) % 18446744073709551616↔_;have e:∀q:Nat,eM 3 q=if q<9223372036854775808 then(q:Int)else(q:Int) - 18446744073709551616:=λq=>rfl
 rw[e,e];omega
def WD{bS}:∀{l:List Operand}{c}{k},o7 bS (l.map (eF es ah))=some c->c.f L T k->(∀x∈l,j7 ae es ah L T a x)->∃(z:Int)(BQ:List Int)(r:Nat),l.map a.eval=(z::BQ).map (λm=>Value.int .i64 m)/\BQ.foldl (λx y=>if bS then max x y else min x y) z=eM 3 r/\r<18446744073709551616/\k (.int 3 r)
 |[],c,k,aQ,h,eI=>by simp[o7]at aQ
 |[x],c,k,aQ,h,eI=>by simp[o7]at aQ;subst aQ;have⟨en,n,aP,g⟩:=m6 (v:=(eF es ah x).g L T) h;have⟨bC,hN⟩:=fi g;have bC:=dA.1 bC;subst bC;have aI:bP ae ((eF es ah x).g L T) (a.eval x):=eI x (by simp);rw[aP]at aI;have⟨_,aD,gm⟩:=aI;exact⟨eM 3 n,[],n,by simp[gm,jS],rfl,aD,hN⟩
 |x::y::l,c,k,aQ,h,eI=>by
  simp at aQ;unfold o7 at aQ;have dv:∀(r:cx->ca->(bp->Bool)->Bool)(Tp:Bool),o7 Tp (eF es ah y::l.map (eF es ah))=some ⟨r⟩->Tp=bS->∀(j:bp->Nat->Bool),
   (gN ((eF es ah x).g L T) λc n=>bd (Nat.beq c 3) (r L T λv=>j v n) false)=true->
   ∃n,n<18446744073709551616/\a.eval x=.int .i64 (eM 3 n)/\∃(z:Int)(BQ:List Int)(eH:Nat),(y::l).map a.eval=(z::BQ).map (λm:Int=>Value.int .i64 m)/\BQ.foldl (λx y=>if bS then max x y else min x y) z=eM 3 eH/\eH<18446744073709551616/\j (.int 3 eH) n=true:=by
   intro r Tp ag hm j h
   subst hm
   have⟨en,n,aP,g⟩:=m6 h
   have⟨bC,hN⟩:=fi g
   have bC:=dA.1 bC
   subst bC
   have aI:bP ae ((eF es ah x).g L T) (a.eval x):=eI x (by simp)
   rw[aP]at aI
   have⟨_,aD,gm⟩:=aI
   have⟨z,BQ,eH,aj,an,aM,bs⟩:=WD (l:=y::l) (c:=⟨r⟩) (k:=λv=>j v n) ag hN λz cA=>eI z (by grind)
   exact⟨n,aD,gm,z,BQ,eH,aj,an,aM,bs⟩
  split at aQ
  .rename_i r ag;cases aQ;have⟨n,aD,gm,m,fo,eH,aj,an,aM,bs⟩:=dv r _ ag rfl _ h;have⟨fF,i7,e,cp⟩:=m6 bs;cases e;rcases iE cp with⟨q,dj⟩|⟨q,dj⟩
   .rw[Ma aD aM]at q;refine⟨eM 3 n,m::fo,eH,by simp_all,?_,aM,dj⟩;rw[zt,<-Jj,an];grind
   .have q:¬eM 3 n<eM 3 eH:=λh=>by rw[(Ma aD aM).2 h]at q;cases q
    refine⟨eM 3 n,m::fo,n,by simp_all,?_,aD,dj⟩;rw[zt,<-Jj,an];grind
  .rename_i r ag;cases aQ;have⟨n,aD,gm,m,fo,eH,aj,an,aM,bs⟩:=dv r _ ag rfl _ h;have⟨fF,i7,e,cp⟩:=m6 bs;cases e;rcases iE cp with⟨q,dj⟩|⟨q,dj⟩
   .rw[Ma aM aD]at q;refine⟨eM 3 n,m::fo,eH,by simp_all,?_,aM,dj⟩;rw[zt,<-Jj,an];grind
   .have q:¬eM 3 eH<eM 3 n:=λh=>by rw[(Ma aM aD).2 h]at q;cases q
    refine⟨eM 3 n,m::fo,n,by simp_all,?_,aD,dj⟩;rw[zt,<-Jj,an];grind
  grind
def acb{bS}{bX}{bL}{l:Array Operand}{c}{k}(aQ:o7 bS (l.toList.map (eF es ah))=some c)(h:c.f L T k)(eI:∀x∈l.toList,j7 ae es ah L T a x):ku ae k (if bS then Builtin.max_ bX bL (l.map a.eval)else Builtin.min_ bX bL (l.map a.eval)) P:=by
 have⟨n,fs,r,D,F,aq,aL⟩:=WD aQ h eI;refine .mk aL (show bP ae (.int 3 r) (.int .i64 (eM 3 r))from by exact⟨by omega,by simpa[cF]using aq,rfl⟩) λw=>?_;have e:(l.map a.eval).toList=(n::fs).map (λm:Int=>Value.int .i64 m):=by simp_all
 have:=Ud (P:=P) bS w fs n;rw[F]at this;cases bS with
 |true=>simp_all[Builtin.max_]|false=>simp_all[Builtin.min_]
end
section
variable{ae:cX}{es:aO}{ah:dM}{L:cx}{T:ca}{a:Act}{P:Program}
def CB(ae:cX)(k:bp->Bool)(s:Sem Next)(P:Program):Prop:=∃v V,k v=true/\bP ae v V/\∀w,s.run P w=.ok (.value V) w
def ku.op{k}{s:Sem Value}(h:ku ae k s P):CB ae k (do pure (.value (<-s))) P:=by have⟨v,V,D,F,aq⟩:=h;exact⟨v,V,D,F,λw=>by simp_all⟩
def CB.mk{k v V s}(ar:k v=true)(aI:bP ae v V)(ap:∀w,s.run P w=.ok (.value V) w):CB ae k s P:=⟨v,V,ar,aI,ap⟩
def Gm{c:Call}{b:Builtin}(aQ:c.callee=.builtin b)(f:Operand->Value)(t:TypeId)(w:World):(do let d <-resolve f c t;invoke d.target d.args:Sem Next).run P w=(builtin b c.argTypes t (c.args.map λ|.const _=>true|_=>false) (c.args.map f)).run P w:=by unfold resolve;rw[aQ];rfl
def CB.congr{k}{s dx:Sem Next}(h:CB ae k s P)(e:∀w,dx.run P w=s.run P w):CB ae k dx P:=by have⟨v,V,D,F,aq⟩:=h;exact⟨v,V,D,F,λw=>(e w).trans (aq w)⟩
def Js{α:Type}{x:Array α}{y}(h:x.toList=[y]):x= #[y]:=by grind
def LI{α:Type}{x:Array α}{y z}(h:x.toList=[y,z]):x= #[y,z]:=by grind
def Xq{B}{k}(h:(v3 P es ah B.op).f L T k)(eI:∀x∈B.op.operands.toList,j7 ae es ah L T a x):CB ae k (execOp a.eval B) P:=by
 have⟨pY,op,bL,pos,abv,aaT⟩:=B;simp only at h eI;unfold v3 at h;split at h
 .rename_i x;exact⟨_,_,h,eI x (by simp[Op.operands]),λw=>rfl⟩
 .rename_i x;exact⟨_,_,h,eI x (by simp[Op.operands]),λw=>rfl⟩
 .rename_i c x y;have aQ:=eI c (by simp[Op.operands]);unfold j7 at aQ;have⟨b,e,h⟩:=AC (v:=(eF es ah c).g L T) h;rw[e]at aQ;simp[bP]at aQ;rcases iE h with⟨aB,h⟩|⟨aB,h⟩
  .refine⟨_,_,h,eI x (by simp[Op.operands]),λw=>?_⟩;simp_all[execOp,asBool]
  .refine⟨_,_,h,eI y (by simp[Op.operands]),λw=>?_⟩;simp_all[execOp,asBool]
 .exact(aiC h λp bq=>eI p.2 (by simp only[Op.operands,ya];grind)).op
 .rename_i x;have M:=eI x (by simp[Op.operands]);have nN:=M;unfold j7 at nN;have⟨aI,h⟩:=afp (v:=(eF es ah x).g L T) h;rcases aI with⟨i,r,s,z,e⟩|⟨f,b5,cV,e⟩
  .rw[e]at nN;have⟨b,cm,_,nN⟩:=nN;refine⟨_,_,h,M,λw=>?_⟩;simp[execOp,nN]
  .rw[e]at nN;have⟨b,cm,nN,_⟩:=nN;refine⟨_,_,h,M,λw=>?_⟩;simp[execOp,nN]
 .rename_i op t x y at0;exact(age h (eI x (by simp[Op.operands])) (eI y (by simp[Op.operands]))).op
 .rename_i op t x;exact(amp h (eI x (by simp[Op.operands]))).op
 .rename_i s d x;exact(ahL h (eI x (by simp[Op.operands]))).op
 .rename_i t x;exact(aj3 h (eI x (by simp[Op.operands]))).op
 .rename_i f b5 cV;have D:=KA (l:=b5.toList) λx M=>eI x (by simp_all[Op.operands]);have F:=KA (l:=cV.toList) λx M=>eI x (by simp_all[Op.operands]);refine⟨_,.func (.func f) (b5.map a.eval) (cV.map a.eval),h,?_,λw=>rfl⟩;exact⟨(b5.map a.eval).toList,(cV.map a.eval).toList,by grind,by simp_all,by simp_all⟩
 .rename_i t x hU aN;refine(amh (a:=a) h (eI x (by simp[Op.operands])) ?_ ?_).op
  .simp_all[Op.operands]
  simp_all[Op.operands]
 .rename_i t x f;exact(ao8 h (eI x (by simp[Op.operands]))).op
 .rename_i t x f;exact(ajU h (eI x (by simp[Op.operands]))).op
 .rename_i t x i;exact(aq4 h (eI x (by simp[Op.operands])) (eI i (by simp[Op.operands]))).op
 .rename_i t x i;exact(arq h (eI x (by simp[Op.operands])) (eI i (by simp[Op.operands]))).op
 .rename_i x i;exact(anS h (eI x (by simp[Op.operands]))).op
 .rename_i x Fl t ok;exact(af8 h (eI x (by simp[Op.operands]))).op
 .rename_i c;split at h
  .rename_i t x aQ au M;have au:=Js au;have kW:=Js M;have g:=(anV (bL:=bL) h (eI x (by simp_all[Op.operands,Call.operands]))).op;refine g.congr λw=>?_;simp only[execOp];have e:(#[x]:Array Operand).map a.eval= #[a.eval x]:=by simp
   rw[Gm aQ,au,kW,e];rfl
  .rename_i l aQ;split at h
   .rename_i r ag;have g:=(acb (P:=P) (bX:=c.argTypes) (bL:=bL) (l:=c.args) ag h (λx M=>eI x (by simp_all[Op.operands,Call.operands]))).op;refine g.congr λw=>?_;simp only[execOp];rw[Gm aQ];rfl
   .exact ci h
  .rename_i l aQ;split at h
   .rename_i r ag;have g:=(acb (P:=P) (bX:=c.argTypes) (bL:=bL) (l:=c.args) ag h (λx M=>eI x (by simp_all[Op.operands,Call.operands]))).op;refine g.congr λw=>?_;simp only[execOp];rw[Gm aQ];rfl
   .exact ci h
  .exact ci h
 .exact ci h
end
section
variable{P:Program}
variable{H:bg}{a n:Nat}{k:cx->Bool}{ax:Ev.Rows}{w:World}{ae:cX}
def H4{z ak u ee r}(h:nj ae w a (.cells ax n z ak u ee))(ag:r<n):∃b cm X,ae a=some (b,cm)/\dh ae (ax.row r) X/\(ax.row r).length=z/\(∀x∈ax.row r,x.lQ)/\∀(j)(v),X[j]?=some v->w.cell? ⟨b,r*z+j,none⟩=some v:=by
 have⟨b,cm,c,ci,D,F,aq,aL,bO,cr,fK⟩:=h;have⟨X,aj,an,aM,bs⟩:=cr r ag;refine⟨b,cm,X,D,aj,an,aM,λj v aI=>?_⟩;rw[cell_of_row w b _ c ak ci F];have bl:j<z:=by have:=(oo.1 aI).1;rw[aj.length,an]at this;grind
 simp_all
def acF{p k}(h:rowOf p H k):∃a r s z ax n ak u ee,p=.ptr a r s z/\H.get a=.cells ax n z ak u ee/\r<n/\k s z (ax.row r):=by have⟨a,r,s,z,e,h⟩:=L6 h;rw[pC]at h;have⟨ax,n,cJ,ak,u,ee,a3,h⟩:=Hi h;have⟨D,h⟩:=fi h;have⟨F,h⟩:=fi h;have cW:=dA.1 F;have lK:=S9 h;subst cW;exact⟨a,r,s,z,ax,n,ak,u,ee,e,a3,dg.1 D,lK⟩
def aaI{t}{n}(aC:p8 P t=some true)(ap:fy P t=some n){zT}{eU:lE}{w}(Y:eU.length=n)(h:∀(j)(v),eU[j]?=some v->w.cell? (zT.add j)=some v):(Instr.loadAt t (.pointer (some zT))).run P w=.ok (.agg eU.toArray) w:=by subst Y;simp[Instr.loadAt,Instr.sureAddr,loadVar,FL aC,rF ap,run_loadCells_list w zT eU h]
def aiu{v zT}{t}(aC:p8 P t=some false)(h:w.cell? zT=some v):(Instr.loadAt t (.pointer (some zT))).run P w=.ok v w:=by simp[Instr.loadAt,Instr.sureAddr,loadVar,FL aC,h]
def VA{t}{p}{H}{k}(h:(js P t).f p H k):∃v a r s z,k v/\p=.ptr a r s z/\(H.get a).live/\∀(ae)(w)(V),bP ae p V->nj ae w a (H.get a)->∃y2,bP ae v y2/\(Instr.loadAt t V).run P w=.ok y2 w:=by
 unfold js at h;split at h
 .rename_i n aC ap;have⟨a,r,s,z,ax,m,ak,u,ee,e,bI,ag,h⟩:=acF h;rcases iE h with⟨bC,h⟩|⟨bC,h⟩
  .have bC:=dA.1 bC;have⟨aX,h⟩:=fi h;have aX:=dA.1 aX;refine⟨_,a,r,s,z,h,e,by rw[bI];rfl,λae w V gm aV=>?_⟩;rw[bI]at aV;rw[e]at gm;have⟨b,cm,X,aj,an,aM,bs,cp⟩:=H4 aV ag;simp only[bP]at gm;obtain⟨ep,gn,dj,rfl⟩:=gm;rw[aj]at dj;cases dj;refine⟨.agg X.toArray,by simp only[bP];simp_all,aaI aC ap (by rw[an.length,aM,bC]) λj v bl=>?_⟩;simp_all[uW]
  .have⟨aX,h⟩:=C2 h;have⟨b4,h⟩:=HR h;refine⟨_,a,r,s,z,h,e,by rw[bI];rfl,λae w V gm aV=>?_⟩;rw[bI]at aV;rw[e]at gm;have⟨b,cm,X,aj,an,aM,bs,cp⟩:=H4 aV ag;simp only[bP]at gm;obtain⟨ep,gn,dj,rfl⟩:=gm;rw[aj]at dj;cases dj;have Wy:dh ae (((ax.row r).drop s).take n) ((X.drop s).take n):=(an.drop s).take n;have ii:(((ax.row r).drop s).take n).length=n:=by simp_all
   refine⟨.agg ((X.drop s).take n).toArray,by exact⟨_,rfl,Wy,ii,λx M=>bs x (Ay (Ep M))⟩,
    aaI aC ap (by rw[Wy.length,ii]) λj v bl=>?_⟩
   rw[uW,GM];grind
 .rename_i aC ap;have⟨a,r,s,z,ax,m,ak,u,ee,e,bI,ag,h⟩:=acF h;have⟨v,bC,h⟩:=Ub h;refine⟨v,a,r,s,z,h,e,by rw[bI];rfl,λae w V gm aV=>?_⟩;rw[bI]at aV;rw[e]at gm;have⟨b,cm,X,aj,an,aM,bs,cp⟩:=H4 aV ag;simp only[bP]at gm;obtain⟨ep,gn,dj,rfl⟩:=gm;rw[aj]at dj;cases dj;have⟨V,ip,ms⟩:=an.get bC;simp_all[aiu]
 .exact ci h
def G5{i}(h:i<ax.cap):rowAt ax i k=k (ax.row i):=by
 cases ax with
 |fC r=>
  have:i=0:=by simp_all[Rows.cap]
  subst this;rfl
 |dC t=>exact fr k (oQ _ _)|b3 t=>refine fr k ?_;change(bD (ea (i % 8))).s ((bD (ea (i / 8 % 8))).s t)=_;rw[oQ,oQ];rfl|iQ t=>refine fr k ?_;change(bD (ea (i % 8))).s ((bD (ea (i / 8 % 8))).s ((bD (ea (i / 64 % 8))).s t))=_;rw[oQ,oQ,oQ];rfl|nM g c=>rfl
def zr{α}:∀{l:List α}{n}{k:List α->Bool},n<=l.length->rn l n k=k (l.take n)
 |[],0,_,_=>rfl
 |[],n+1,_,h=>by grind
 |a::l,0,_,_=>rfl
 |a::l,n+1,k,h=>zr (l:=l) (n:=n) (k:=λr=>k (a::r)) (by simp_all)
def wi{α}:∀{l:List α}{n}{k:List α->Bool},n<=l.length->o8 l n k=k (l.drop n)
 |[],0,_,_=>rfl
 |[],n+1,_,h=>by grind
 |a::l,0,_,_=>rfl
 |a::l,n+1,k,h=>wi (l:=l) (n:=n) (k:=k) (by simp_all)
def Kq(l fx:lE)(B k)(h:B+fx.length<=l.length):(l.take B++fx++l.drop (B+fx.length))[k]?=if B<=k/\k<B+fx.length then fx[k - B]? else l[k]?:=by
 by_cases D:k<B
 all_goals grind
def EV{i r z j:Nat}(bl:j<z)(h:i<r):i*z+j<r*z:=by have:(i+1)*z<=r*z:=q4 z h;grind
def aj8{i r z j:Nat}(h:r<i):r*z+z<=i*z+j:=by have:(r+1)*z<=i*z:=q4 z h;grind
def lc.store{ae}{ax}{n z}{c}(h:lc ae ax n z c){r s}{jM}{fx}(ag:r<n)(na:n<=ax.cap)(ap:s+fx.length<=z)(aI:dh ae jM fx)(aQ:∀x∈jM,x.lQ)(iH:r*z+s+fx.length<=c.size):lc ae (ax.nl r ((ax.row r).take s++(jM++(ax.row r).drop (s+fx.length)))) n z (List.toArray (c.toList.take (r*z+s)++fx++c.toList.drop (r*z+s+fx.length))):=by
 intro i aN;have oh:∀k,(List.toArray (c.toList.take (r*z+s)++fx++c.toList.drop (r*z+s+fx.length)))[k]?=if r*z+s<=k/\k<r*z+s+fx.length then fx[k - (r*z+s)]? else c[k]?:=by intro k;rw[Ht,Kq _ _ _ _ (by simp_all)];simp
 rw[Rows.DJ _ _ _ _ I I];by_cases e:i=r
 .subst e;rw[ev rfl];have⟨X,D,F,aq,aL⟩:=h i aN;have cR:X.length=z:=by rw[D.length,F]
  refine⟨X.take s++fx++X.drop (s+fx.length),?_,?_,?_,λj bl=>?_⟩
  .rw[<-k9];exact((D.take s).append aI).append (D.drop _)
  .simp[<-aI.length];omega
  .grind
  .rw[oh,Kq X fx s j I,aL j bl];grind
 .rw[cO e];have⟨X,D,F,aq,aL⟩:=h i aN;refine⟨X,D,F,aq,λj bl=>?_⟩;rw[oh,cO ?_,aL j bl];rcases Nat.lt_or_gt_of_ne e with cz|cz
  .have:=EV bl cz;omega
  .have:=@aj8 i r z j cz;omega
def SJ{b cm bi B}(R:Rel ae H w)(aC:fv a)(Y:(H.get a).live=true)(wj:ae a=some (b,cm))(iH:bi.heap.size=w.heap.size)(ar:∀k,k≠b->bi.heap[k]?=w.heap[k]?)(au:bi.tape=w.tape)(vL:bi.os=w.os)(zI:bi.output=w.output)(aV:nj ae bi a B):Rel ae (H.put a B) bi/\Step ae H w ae (H.put a B) bi:=by
 have aud:lk ae H b:=⟨a,aC,Y,cm,wj⟩;have wg:∀bz,fv bz->((H.put a B).get bz).live=true->(H.get bz).live=true:=by
  intro bz cz iJ;rw[bg.pR _ _ _ _ aC cz]at iJ;grind
 refine⟨⟨R.next,R.p0,?_,?_⟩,⟨cX.le_refl ae,λ_ _=>rfl,fI _,I,?_,?_,?_,au,vL,zI⟩⟩
 .intro bz cz;rw[bg.pR _ _ _ _ aC cz];by_cases e:bz=a
  .simp_all
  .rw[cO e];refine(R.obj bz cz).mono (cX.le_refl ae) λep gn iJ f7=>ar ep λJB=>e ?_;subst JB;exact R.inj bz a cz aC iJ Y ep gn cm f7 wj
 .intro bk bu D F cH cq;exact R.inj bk bu D F (wg bk D cH) (wg bu F cq)
 .grind
 .rintro ep ⟨bz,cz,iJ,gn,f7⟩;exact .inr ⟨bz,cz,wg bz cz iJ,gn,f7⟩
 grind
def amK{t}{m}(ap:fy P t=some m){g B}{X}{fx:lE}{HX}{ak}{w}(cR:X.cells=List.toArray fx)(Y:fx.length=m)(bI:w.heap[g]?=some (.cells HX ak (0,0)))(iH:B+fx.length<=HX.size)(D:∀v∈fx,v.oneCell'):(Instr.storeAt t (.pointer (some ⟨g,B,none⟩)) X).run P w=.ok () (w.setRow g (List.toArray (HX.toList.take B++fx++HX.toList.drop (B+fx.length)))):=by subst Y;have:=Nn P g B ak fx 0 HX w bI (by simp_all) D;simp only[Instr.storeAt,Instr.sureAddr,storeVar,jm,kp,jt,rF ap,cR,Je,ne_eq,not_true_eq_false,sY];grind
def UU{v}(h:kD v n k):∃c,k c/\(∀df,kD v n df=df c)/\∀(ae)(V),bP ae v V->∃L,V.cells=List.toArray L/\dh ae c L/\c.length=n/\∀x∈c,x.lQ:=by
 rcases aeU h with⟨aQ,D⟩|⟨m,l,rfl,D⟩
 .have⟨aD,F⟩:=fi D;have e:=dA.1 aD;refine⟨[v],F,λdf=>?_,λae V gm=>⟨[V],(gm.OD aQ).2,dh.cons gm dh.nil,by grind,λx M=>?_⟩⟩
  .unfold kD;rw[aD];cases v<;>first|rfl|(exact ci aQ)
  simp_all
 .have⟨aD,F⟩:=fi D;have e:=dA.1 aD;refine⟨l,F,λdf=>?_,λae V gm=>?_⟩
  .show bd (Nat.beq m n) (df l) false=df l;rw[aD];rfl
  .obtain⟨L,rfl,bC,aX,b4⟩:=gm;exact⟨L,rfl,bC,aX.trans e,b4⟩
def CM(a r s z)(k):sx (.ptr a r s z) k=k a r s z:=rfl
def arN(ax)(n z ak)(u ee)(k):yG (.cells ax n z ak u ee) k=k ax n z ak u ee:=rfl
def apx{t}{p v}{H}{k}(h:(px P t).f p v H k):∃a r s z bN,p=.ptr a r s z/\k (H.put a bN)/\(H.get a).live/\bN.live/\(∀ae w,nj ae w a (H.get a)->∀(az)(df),az.get a=H.get a->(px P t).f p v az df=df (az.put a bN))/\∀(ae)(w)(V X),bP ae p V->bP ae v X->nj ae w a (H.get a)->∃bi b cm,(Instr.storeAt t V X).run P w=.ok () bi/\ae a=some (b,cm)/\bi.heap.size=w.heap.size/\(∀k,k≠b->bi.heap[k]?=w.heap[k]?)/\bi.tape=w.tape/\bi.os=w.os/\bi.output=w.output/\nj ae bi a bN:=by
 unfold px at h;split at h
 .rename_i m ap;have⟨a,r,s,z,e,aj⟩:=L6 h;have⟨c,an,aoQ,aqA⟩:=UU aj;rw[pC]at an;have⟨ax,n,cJ,ak,u,ee,qY,aM⟩:=Hi an;have⟨bC,bs⟩:=C3 aM;have⟨aX,cp⟩:=fi bs;have⟨b4,dj⟩:=fi cp;have cW:=dA.1 b4;have dv:∃aJ,k (H.put a (.cells (ax.nl r aJ) n z ak u ee))=true/\(∀ae w,nj ae w a (H.get a)->s+(m+1)<=z)/\(∀ae w,nj ae w a (H.get a)->∀L,dh ae c L->c.length=m+1->aJ=(ax.row r).take s++(c++(ax.row r).drop (s+(m+1))))/\
   (∀ae w,nj ae w a (H.get a)->∀(az:bg)(df:bg->Bool),az.get a=H.get a->(px P t).f p v az df=df (az.put a (.cells (ax.nl r aJ) n z ak u ee))):=by
   have red:∀(az:bg)(df:bg->Bool),az.get a=H.get a->(px P t).f p v az df=
    (bd (Nat.beq (m+1) z) (bd (Nat.beq s 0) (setRow ax r c λax=>qz az a (.cells ax n z ak u ee) df) false)
     (rowAt ax r λaJ=>rn aJ s λq=>o8 aJ (Nat.add s (m+1)) λw=>nL c w λw=>nL q w λaJ=>setRow ax r aJ λax=>qz az a (.cells ax n z ak u ee) df)):=by
    intro az df CX
    simp[px,ap]
    rw[e,CM,aoQ,pC,CX,qY,arN,bC,o9,aX,iG,b4,iG]
   rcases iE dj with⟨dc,ip⟩|⟨dc,ip⟩
   .have g5:=dA.1 dc;have⟨eC,ms⟩:=fi ip;have mm:=dA.1 eC;rw[Dr,s9]at ms;refine⟨c,ms,λ_ _ _=>I,λae w aV L cB aQ=>?_,λae w aV az df CX=>?_⟩
    .rw[qY]at aV;have⟨b,cm,X,_,_,aor,_⟩:=H4 aV (dg.1 aX);simp_all
    simp_all[Dr,s9]
   .have ms:=S9 ip;have⟨eC,Nz⟩:=HR ms;have⟨oy,Ly⟩:=C2 Nz;rw[q8,q8,Dr,s9]at Ly;have ii:∀ae w,nj ae w a (H.get a)->(ax.row r).length=z/\r<ax.cap:=by intro ae w aV;rw[qY]at aV;have⟨b,cm,X,_,_,aor,_⟩:=H4 aV (dg.1 aX);have⟨_,_,_,_,_,_,_,_,na,_⟩:=aV;exact⟨by simp_all,pD (dg.1 aX) na⟩
    refine⟨_,Ly,?_,λae w aV L cB aQ=>rfl,λae w aV az df CX=>?_⟩
    .grind
    .have⟨Y,aQ⟩:=ii ae w aV;rw[red az df CX,dc,o9,G5 aQ,zr eC,wi oy,q8,q8,Dr,s9]
  have⟨aJ,cT,cN,el,e0⟩:=dv;refine⟨a,r,s,z,_,e,cT,by rw[qY];rfl,rfl,e0,λae w V X gm cR aV=>?_⟩;have⟨L,cB,Mb,pi,qA⟩:=aqA ae X cR;have jR:=el ae w aV L Mb pi;have cA:=cN ae w aV;rw[qY]at aV;have⟨b,cm,jq,ci,cL,dP,fW,gi,iW,gE,oc⟩:=aV;rw[fW bC]at dP;rw[e]at gm;obtain⟨ep,gn,v1,rfl⟩:=gm;rw[cL]at v1;cases v1;have SD:L.length=m+1:=by rw[Mb.length,pi]
  have ag:=dg.1 aX;subst cW;have iH:r*z+s+L.length<=jq.size:=by
   have D:(r+1)*z<=n*z:=q4 z ag;grind
  refine⟨_,b,cm,amK ap cB SD dP iH (Mb.z8 qA),cL,setRow_size _ _ _,λk ar=>setRow_other w b k _ ar,rfl,rfl,rfl,?_⟩;refine⟨b,cm,_,(0,0),cL,setRow_heap w b jq _ ak _ dP,λ_=>rfl,gi,by simp_all[Rows.vr],?_,?_⟩
  .rw[jR,<-SD];exact gE.store ag iW I Mb qA iH
  grind
 .exact ci h
end
section
variable{P:Program}
def Rows.jl(ax:Rows):p9->Nat->Rows
 |[],_=>ax|r::l,i=>(ax.nl i r).jl l (i+1)
def tG:∀(l:p9)(ax)(i)(k),uI l ax i k=k (ax.jl l i)
 |[],_,_,_=>rfl
 |r::l,ax,i,k=>by rw[arr,Dr];exact tG l _ (i+1) k
def Rows.ur:∀(l)(ax:Rows)(i),(ax.jl l i).cap=ax.cap
 |[],_,_=>rfl
 |r::l,ax,i=>by show((ax.nl i r).jl l (i+1)).cap=_;simp_all[Rows.ur,Rows.vr]
def Rows.F9:∀(l)(ax:Rows)(i j),i+l.length<=ax.cap->j<ax.cap->(ax.jl l i).row j=if i<=j/\j<i+l.length then l.getD (j - i) []else ax.row j
 |[],ax,i,j,h,bl=>by rw[cO (λq=>by grind)];rfl
 |r::l,ax,i,j,h,bl=>by
  show((ax.nl i r).jl l (i+1)).row j=_;simp at h ⊢;rw[Rows.F9 l _ (i+1) j (by rw[Rows.vr];omega) (by simp_all[Rows.vr]),Rows.DJ _ _ _ _ I bl];grind
def li(ae:cX)(z:Nat):p9->vR->Prop
 |[],L=>L=[]|r::l,L=>∃X gD,L=X::gD/\dh ae r X/\r.length=z/\(∀x∈r,x.lQ=true)/\li ae z l gD
variable{c:Array Value}{k:Ev.Rows->Bool}{n z:Nat}{ax:Ev.Rows}{ae:cX}
def li.mono{bG}(h:ae.le bG):∀{l}{L},li ae z l L->li bG z l L
 |[],_,r=>r|_::_,_,⟨X,gD,e,D,F,aq,aL⟩=>⟨X,gD,e,dh.mono h _ _ D,F,aq,aL.mono h⟩
def li.length:∀{l}{L},li ae z l L->L.length=l.length
 |[],_,r=>by cases r;rfl
 |_::_,_,⟨X,gD,e,_,_,_,aL⟩=>by subst e;simp[aL.length]
def li.append:∀{l aK}{L gD},li ae z l L->li ae z aK gD->li ae z (l++aK) (L++gD)
 |[],_,_,_,r,eH=>by cases r;grind
 |_::_,_,_,_,⟨X,gD,e,D,F,aq,aL⟩,eH=>by subst e;exact⟨X,_,rfl,D,F,aq,aL.append eH⟩
def li.Ac:∀{l}{L},li ae z l L->L.flatten.length=l.length*z
 |[],_,r=>by cases r;simp
 |_::l,_,⟨X,gD,e,D,F,aq,aL⟩=>by subst e;simp[aL.Ac,D.length,zO];omega
def li.z8:∀{l}{L},li ae z l L->∀v∈L.flatten,v.oneCell'
 |[],_,r,v,aI=>by cases r;grind
 |_::l,_,⟨X,gD,e,D,F,aq,aL⟩,v,aI=>by
  subst e;rcases l8.1 aI with h|h
  .exact D.z8 aq v h
  .exact aL.z8 v h
def li.get:∀{l}{L}{i},li ae z l L->i<l.length->∃X,dh ae (l.getD i []) X/\(l.getD i []).length=z/\(∀x∈l.getD i [],x.lQ)/\∀j,j<z->L.flatten[i*z+j]?=X[j]?
 |[],_,_,_,h=>by grind
 |r::l,_,0,⟨X,gD,e,D,F,aq,aL⟩,h=>by subst e;refine⟨X,D,F,aq,λj bl=>?_⟩;simp;rw[DB (by rw[D.length,F];grind)]
 |r::l,_,i+1,⟨X,gD,e,D,F,aq,aL⟩,h=>by subst e;have⟨et,aj,an,aM,bs⟩:=aL.get (i:=i) (by simp_all);refine⟨et,aj,an,aM,λj bl=>?_⟩;simp;rw[Ff (by rw[D.length,zO];omega),<-bs j bl,D.length,F];grind
def lc.jl{l L cI i fF}(h:lc ae ax n z c)(Y:li ae z l L)(na:cI<=ax.cap)(aN:i+l.length<=cI)(aD:∀r,r<cI->r<n\/(i<=r/\r<i+l.length))(ajl:∀k,k<l.length*z->fF[i*z+k]?=L.flatten[k]?)(auF:∀r j,r<n->j<z->(r<i\/i+l.length<=r)->fF[r*z+j]?=c[r*z+j]?):lc ae (ax.jl l i) cI z fF:=by
 intro r ag;rw[Rows.F9 _ _ _ _ I I];by_cases e:i<=r/\r<i+l.length
 .rw[ev e];have⟨X,D,F,aq,aL⟩:=Y.get (i:=r - i) I;refine⟨X,D,F,aq,λj bl=>?_⟩;rw[<-aL j bl];have be:(r - i)*z+j<l.length*z:=EV bl I;have a0:=ajl ((r - i)*z+j) be;have aw:i*z+((r - i)*z+j)=r*z+j:=by rw[<-GM,<-zO];simp_all
  simp_all
 .rw[cO e];rcases aD r ag with f7|f7
  .have⟨X,D,F,aq,aL⟩:=h r f7;grind
  simp_all
def lc.none:lc ae ax 0 z c:=λi aN=>I
def Ou(h:zJ n=some ax):n<=ax.cap:=by
 unfold zJ at h;split at h
 .rename_i q;cases h;exact dT.1 q
 .split at h
  .rename_i q;cases h;exact dT.1 q
  .split at h
   .rename_i q;cases h;exact dT.1 q
   .split at h
    .rename_i q;cases h;exact dT.1 q
    .cases h;exact fI _
def acA(h:yr n k):∃ax,n<=ax.cap/\k ax:=by
 unfold yr at h;split at h
 .rename_i ax Kb;exact⟨ax,Ou Kb,h⟩
 simp_all
def aoF(aD:n<=512)(h:yr n k):∃ax,n<=ax.cap/\ax.cap<=512/\k ax:=by
 unfold yr at h;split at h
 .rename_i ax Kb;refine⟨ax,Ou Kb,?_,h⟩;grind[zJ,Rows.cap]
 simp_all
def MY{a b:Nat}(q:Nat.ble a b=false):b<a:=by
 have:¬a<=b:=λhle=>by rw[dT.2 hle]at q;cases q
 omega
def ZI(i)(t:db cx):(pP i).aj t=(Rows.dC t).row i:=oQ _ _
def ZM(i)(t:db (db cx)):(pP i).an t=(Rows.b3 t).row i:=by change(bD (ea (i % 8))).s ((bD (ea (i / 8 % 8))).s t)=_;rw[oQ,oQ];rfl
def W8(i)(t:db (db (db cx))):(pP i).aM t=(Rows.iQ t).row i:=by change(bD (ea (i % 8))).s ((bD (ea (i / 8 % 8))).s ((bD (ea (i / 64 % 8))).s t))=_;rw[oQ,oQ,oQ];rfl
def aa7(h:grow ax n k):∃o6,k o6/\n<=o6.cap/\ax.cap<=o6.cap/\∀i,i<ax.cap->o6.row i=ax.row i:=by
 cases ax with
 |fC r=>
  have one:∀i,i<(Rows.fC r).cap->i=0:=λi aN=>by simp_all[Rows.cap]
  rcases iE h with⟨q,h⟩|⟨_,h⟩
  .exact⟨_,h,dT.1 q,fI _,λ_ _=>rfl⟩
  .rcases iE h with⟨q,h⟩|⟨_,h⟩
   .exact⟨_,h,dT.1 q,by simp[Rows.cap],λi aN=>by rw[one i aN];rfl⟩
   .rcases iE h with⟨q,h⟩|⟨_,h⟩
    .exact⟨_,h,dT.1 q,by simp[Rows.cap],λi aN=>by rw[one i aN];rfl⟩
    .rcases iE h with⟨q,h⟩|⟨q,h⟩
     .exact⟨_,h,dT.1 q,by simp[Rows.cap],λi aN=>by rw[one i aN];rfl⟩
     .exact⟨_,h,fI _,by have:=MY q;simp[Rows.cap];omega,λi aN=>rfl⟩
 |dC t=>
  have HF:∀i,i<(Rows.dC t).cap->i / 8 % 8=0/\i / 64 % 8=0:=λi aN=>by grind[Rows.cap]
  rcases iE h with⟨q,h⟩|⟨_,h⟩
  .exact⟨_,h,dT.1 q,fI _,λ_ _=>rfl⟩
  .rcases iE h with⟨q,h⟩|⟨_,h⟩
   .exact⟨_,h,dT.1 q,by simp[Rows.cap],λi aN=>by simp[Rows.row,(HF i aN).1];rfl⟩
   .rcases iE h with⟨q,h⟩|⟨q,h⟩
    .exact⟨_,h,dT.1 q,by simp[Rows.cap],λi aN=>by simp[Rows.row,(HF i aN).1,(HF i aN).2];rfl⟩
    .exact⟨_,h,fI _,by have:=MY q;simp[Rows.cap];omega,λi aN=>ZI i t⟩
 |b3 t=>
  have HF:∀i,i<(Rows.b3 t).cap->i / 64 % 8=0:=λi aN=>by grind[Rows.cap]
  rcases iE h with⟨q,h⟩|⟨_,h⟩
  .exact⟨_,h,dT.1 q,fI _,λ_ _=>rfl⟩
  .rcases iE h with⟨q,h⟩|⟨q,h⟩
   .exact⟨_,h,dT.1 q,by simp[Rows.cap],λi aN=>by simp[Rows.row,HF i aN];rfl⟩
   .exact⟨_,h,fI _,by have:=MY q;simp[Rows.cap];omega,λi aN=>ZM i t⟩
 |iQ t=>
  rcases iE h with⟨q,h⟩|⟨q,h⟩
  .exact⟨_,h,dT.1 q,fI _,λ_ _=>rfl⟩
  .exact⟨_,h,fI _,by have:=MY q;simp[Rows.cap];omega,λi aN=>W8 i t⟩
 |nM g c=>
  rcases iE h with⟨q,h⟩|⟨q,h⟩
  .exact⟨_,h,dT.1 q,fI _,λ_ _=>rfl⟩
  .refine⟨_,h,fI _,?_,λ_ _=>rfl⟩;have:¬n<=c:=λhle=>by rw[dT.2 hle]at q;cases q
   simp[Rows.cap];omega
def Rows.range(ax:Rows):Nat->Nat->p9
 |0,_=>[]|m+1,i=>ax.row i::ax.range m (i+1)
def T5:∀{m}{ax}{i}{k:p9->Bool},y4 ax m i k->k (ax.range m i)
 |0,_,_,_,h=>h
 |m+1,ax,i,k,h=>by have D:=S9 h;exact T5 (k:=λl=>k (ax.row i::l)) D
def Rows.Gh(ax:Rows):∀(m i),(ax.range m i).length=m
 |0,_=>rfl
 |m+1,i=>by simp[Rows.range,Rows.Gh ax m]
def lc.range(h:lc ae ax n z c):∀(m i),i+m<=n->∃L,li ae z (ax.range m i) L/\∀k,k<m*z->c[i*z+k]?=L.flatten[k]?
 |0,i,_=>⟨[],rfl,λk ar=>I⟩
 |m+1,i,aN=>by
  have⟨X,D,F,aq,aL⟩:=h i I;have⟨L,aj,an⟩:=h.range m (i+1) I;refine⟨X::L,⟨X,L,rfl,D,F,aq,aj⟩,λk ar=>?_⟩;have cR:X.length=z:=by rw[D.length,F]
  grind
end
end Go.Ev
