/- Part of the proof of PrinterLines. -/
import Derived.Test.YtddaefckjmdfoaaGreatDoorE3
set_option linter.all false
namespace Go.Ev
open Go
section
variable{aa:cE}{es:aO}{ae:dv}{L:cv}{T:b4}{a:Act}{P:Program}
def akH(bP bc C:lh)(b c):(bP++b::C).set bP.length c=bP++c::C:=by
 induction bP with
 |nil=>rfl
 |cons x bP bB=>simp [bB]
def abG(aT):∀(fb:lh)(k)(bP bc C:lh),bP.length=aT+k->bc.length=fb.length->(fb.zipIdx k).foldl (λ(d8)(x)=>d8.setIfInBounds (aT+x.2) x.1) (List.toArray (bP++bc++C))=List.toArray (bP++fb++C)
 |[],k,bP,bc,C,B,F=>by have:bc=[]:=xH.1 F;subst this;simp
 |v::fb,k,bP,b::bc,C,B,F=>by
  simp only[List.zipIdx_cons,x1];have e:(List.toArray (bP++b::bc++C)).setIfInBounds (aT+k) v=List.toArray ((bP++[v])++bc++C):=by rw[List.setIfInBounds_toArray,<-B];congr 1;have:=akH bP bc (bc++C) b v;simp
  rw[e,abG aT fb (k+1) (bP++[v]) bc C (by simp [B];omega) (by simpa using F)];simp
def ajc(aT)(fb:Array Value)(bP bc C:lh)(B:bP.length=aT)(F:bc.length=fb.size):fb.zipIdx.foldl (λ(d8)(x)=>d8.setIfInBounds (aT+x.2) x.1) (List.toArray (bP++bc++C))=List.toArray (bP++fb.toList++C):=by have⟨l⟩:=fb;have:=abG aT l 0 bP bc C (by simpa using B) (by simpa using F);rw[<-this];simp
def acx:∀(fH:uQ)(i:Nat)(s:lh),fH[i]?=some s->∀v:lh,fH.flatten=(fH.take i).flatten++s++(fH.drop (i+1)).flatten/\(fH.set i v).flatten=(fH.take i).flatten++v++(fH.drop (i+1)).flatten
 |[],i,s,h,_=>by simp at h
 |q::fH,0,s,h,v=>by simp at h;subst h;simp
 |q::fH,i+1,s,h,v=>by simp only[s1] at h;have⟨B,F⟩:=acx fH i s h v;simp only[wK,Ro,List.drop_succ_cons,List.set_cons_succ];rw[B,F];simp
def xP(fH:uQ):List (Nat×Value)->uQ
 |[]=>fH
 |(i,v)::l=>xP (fH.set i v.cells.toList) l
def YH(fH):∀l,(xP fH l).length=fH.length:=by
 intro l;induction l generalizing fH with
 |nil=>rfl
 |cons x l bB=>simp [xP,bB]
def wE(e1:aO)(i:Nat):Nat:=(e1.take i).sum
def Yt:∀(fH:uQ),fH.flatten.length=(fH.map List.length).sum
 |[]=>rfl
 |s::fH=>by simp [Yt fH]
def RQ(place:Nat->Option (Nat×Nat))(e1)(hp:∀(i s),e1[i]?=some s->place i=some (wE e1 i,s)):∀(parts)(fH:uQ),fH.map List.length=e1->(∀N∈parts,e1[N.1]?=some N.2.cells.size)->Instr.fill place (List.toArray fH.flatten) parts=some (List.toArray (xP fH parts).flatten)
 |[],fH,_,_=>rfl
 |(i,v)::parts,fH,ak,h=>by
  have B:=h (i,v) (by simp);have F:=hp i _ B;have ah:∃s,fH[i]?=some s/\s.length=v.cells.size:=by
   rw[<-ak,t7] at B;cases ax:fH[i]? with
   |none=>rw[ax] at B;simp at B
   |some s=>rw[ax] at B;exact⟨s,rfl,by simpa using B⟩
  have⟨s,rb,z5⟩:=ah;have⟨gN,gj⟩:=acx fH i s rb v.cells.toList;have ay:(fH.take i).flatten.length=wE e1 i:=by rw[Yt,wE,<-ak,List.map_take]
  have gL:¬((v.cells.size≠v.cells.size||wE e1 i+v.cells.size>(List.toArray fH.flatten).size)=true):=by simp only[ne_eq,not_true_eq_false,decide_false,Gc,oI,mN];rw[gN];simp only[gP,ay];omega
  unfold Instr.fill;simp only[F];rw[bA gL];have dC:v.cells.zipIdx.foldl (λ(d8:Array Value)(x:Value×Nat)=>d8.setIfInBounds (wE e1 i+x.2) x.1) (List.toArray fH.flatten)=List.toArray (fH.set i v.cells.toList).flatten:=by rw[gN,gj];exact ajc _ _ _ _ _ ay z5
  refine(mJ (λc=>Instr.fill place c parts) dC).trans ?_;have oq:(fH.set i v.cells.toList).map List.length=e1:=by
   rw[List.map_set,<-ak];have hI:(fH.map List.length)[i]?=some v.cells.toList.length:=by rw[ak];simpa using B
   apply IL;intro M;by_cases e:i=M
   .subst e;have aV:i<(fH.map List.length).length:=(jb.1 hI).1;rw[List.getElem?_set_self aV,hI]
   .rw[List.getElem?_set_ne e]
  exact RQ place e1 hp parts _ oq λN hp=>h N (by simp [hp])
def nP(i:Nat):List (Nat×Value)->Option Value
 |[]=>none
 |(M,v)::l=>match nP i l with
  |some v=>some v
  |none=>if i=M then some v else none
def TX(i:Nat):∀(parts:List (Nat×Value))(fH:uQ),i<fH.length->
 (xP fH parts)[i]?=match nP i parts with
  |some v=>some v.cells.toList
  |none=>fH[i]?
 |[],fH,_=>rfl
 |(M,v)::parts,fH,h=>by
  simp only[xP,nP]
  rw[TX i parts _ (by simpa using h)]
  cases nP i parts with
  |some w=>rfl
  |none=>
   simp only
   by_cases e:i=M
   .subst e;simp [h]
   .rw[bA e,List.getElem?_set_ne (λq=>e q.symm)]
def air{parts:List (Nat×Operand)}(i:Nat):(match partOf i (qb es ae parts) with
 |some g=>∃x,g=db es ae x/\(i,x)∈parts/\nP i (parts.map λN=>(N.1,a.eval N.2))=some (a.eval x)
 |none=>nP i (parts.map λN=>(N.1,a.eval N.2))=none):=by
 induction parts with
 |nil=>rfl
 |cons N parts bB=>
  have⟨M,x⟩:=N;simp only[qb,partOf,fA,nP];cases ax:partOf i (qb es ae parts) with
  |some g=>rw[ax] at bB;have⟨y,B,F,ah⟩:=bB;simp only[ah];exact⟨y,B,by simp [F],rfl⟩
  |none=>
   rw[ax] at bB;simp only at bB;simp only[bB];cases av:Nat.beq i M with
   |true=>have e:=cF.1 av;subst e;simp only[nI];exact⟨x,rfl,by simp,rfl⟩
   |false=>have e:=ts av;simp [e]
def ak8(l):∀{r}{k},(By l r).f L T k->r.f L T (λq=>k (l++q)):=by
 induction l with
 |nil=>intro r k h;exact h
 |cons x l bB=>intro r k h;exact bB (k:=λq=>k (x::q)) h
def SP{parts:List (Nat×Operand)}(dT:∀N∈parts,i1 aa es ae L T a N.2):∀{cz:List Field}{i:Nat}{z:cv}{gq:lh}{r:C2}{k:cv->Bool},
 tL P (qb es ae parts) i cz z=some r->r.f L T k=true->cK aa z gq->(∀x∈z,x.lw=true)->
 ∃l,k l=true/\l.length=z.length/\(∀x∈l,x.lw=true)/\∃(e1:aO)(fH:uQ),cz.length=e1.length/\(∀(M:Nat)(f:Field),cz[M]?=some f->eV P f.type=e1[M]?)/\
  fH.map List.length=e1/\gq=fH.flatten/\
  (∀(M:Nat)(v:Value),M<cz.length->nP (i+M) (parts.map λN=>(N.1,a.eval N.2))=some v->e1[M]?=some v.cells.size)/\
  ∃out:uQ,cK aa l out.flatten/\out.length=cz.length/\∀(M:Nat),M<cz.length->out[M]?=match nP (i+M) (parts.map λN=>(N.1,a.eval N.2)) with
   |some v=>some v.cells.toList
   |none=>fH[M]?
 |[],i,[],gq,r,k,ad,h,bO,aw=>by
  simp only[tL,Option.some.injEq] at ad
  subst ad
  simp only[cK] at bO
  subst bO
  exact⟨[],h,rfl,by simp,[],[],rfl,by simp,rfl,rfl,by simp,[],cK.nil,rfl,by simp⟩
 |[],i,_::_,gq,r,k,ad,h,bO,aw=>by simp [tL] at ad
 |fd::cz,i,z,gq,r,k,ad,h,bO,aw=>by
  unfold tL at ad
  split at ad
  .rename_i s ak
   have Ex:=air (es:=es) (ae:=ae) (a:=a) (parts:=parts) i
   split at ad
   .rename_i gC g hle rx Pw
    cases ad
    rw[Pw] at Ex
    have⟨x,Bm,oW,K⟩:=Ex
    rw[dn] at hle
    have I:bk aa (g L T) (a.eval x):=by have:=dT _ oW;unfold i1 at this;rw[<-Bm] at this;exact this
    change jR (g L T) s (λc=>gC L T λq=>nx c q k)=true at h
    have⟨c,em,h,Eg,aa1,mC,pr⟩:=alG h I
    have⟨q,h,J4,Hl,e1,fH,eK,s2,mR,oO,tA,out,cQ,eL,jU⟩:=SP dT rx h (bO.drop s) λy ap=>aw y (GA ap)
    rw[qM] at h
    refine⟨c++q,h,by simp [J4,mC];omega,?_,s::e1,gq.take s::fH,by simp [eK],?_,?_,?_,?_,em::out,?_,by simp [eL],?_⟩
    .intro y ap
     rcases jD.1 ap with b5|b5
     .exact pr y b5
     .exact Hl y b5
    .intro M f bb
     cases M with
     |zero=>simp at bb;subst bb;simpa using ak
     |succ M=>simpa using s2 M f (by simpa using bb)
    .simp only[fA,mR,jC,bO.length];congr 1;omega
    .simp [<-oO]
    .intro M v bb au
     cases M with
     |zero=>
      rw[sb,K] at au
      cases au
      simp only[NT,Eg,mN,aa1.length,mC]
     |succ M=>
      simp only[s1]
      exact tA M v (by simpa using bb) (by rw[tI,t8 1 M];exact au)
    .simp only[wK];exact aa1.append cQ
    .intro M bb
     cases M with
     |zero=>simp [K,Eg]
     |succ M=>
      simp only[s1]
      have:=jU M (by simpa using bb)
      rw[tI,t8 1 M] at this
      exact this
   .rename_i gC hle rx Pw
    cases ad
    rw[Pw] at Ex
    simp only at Ex
    rw[dn] at hle
    have h:=ak8 _ h
    have⟨q,h,J4,Hl,e1,fH,eK,s2,mR,oO,tA,out,cQ,eL,jU⟩:=SP dT rx h (bO.drop s) λy ap=>aw y (GA ap)
    refine⟨z.take s++q,h,by simp [J4];omega,?_,s::e1,gq.take s::fH,by simp [eK],?_,?_,?_,?_,gq.take s::out,?_,by simp [eL],?_⟩
    .intro y ap
     rcases jD.1 ap with b5|b5
     .exact aw y (Mh b5)
     .exact Hl y b5
    .intro M f bb
     cases M with
     |zero=>simp at bb;subst bb;simpa using ak
     |succ M=>simpa using s2 M f (by simpa using bb)
    .simp only[fA,mR,jC,bO.length];congr 1;omega
    .simp [<-oO]
    .intro M v bb au
     cases M with
     |zero=>rw[sb,Ex] at au;cases au
     |succ M=>
      simp only[s1]
      exact tA M v (by simpa using bb) (by rw[tI,t8 1 M];exact au)
    .simp only[wK];exact(bO.take s).append cQ
    .intro M bb
     cases M with
     |zero=>simp [Ex]
     |succ M=>
      simp only[s1]
      have:=jU M (by simpa using bb)
      rw[tI,t8 1 M] at this
      exact this
   .cases ad
  .cases ad
end
section
variable{aa:cE}{es:aO}{ae:dv}{L:cv}{T:b4}{a:Act}{P:Program}
def run_places(w):∀(cz:List Field)(e1:aO),cz.length=e1.length->(∀(M:Nat)(f),cz[M]?=some f->eV P f.type=e1[M]?)->(cz.mapM (λf=>(do pure (f.offset,<-sizeOf f.type):Sem (Nat×Nat)))).run P w=.ok ((cz.zip e1).map λx=>(x.1.offset,x.2)) w
 |[],_,_,_=>by simp
 |f::cz,[],h,_=>by simp at h
 |f::cz,s::e1,h,ak=>by
  have B:eV P f.type=some s:=by simpa using ak 0 f rfl
  have F:=run_places w cz e1 (by simpa using h) λM f bb=>by simpa using ak (M+1) f (by simpa using bb)
  rw[List.mapM_cons,eU,eU,rj B];simp only[ff,eB,eU,F,List.zip_cons_cons,fA]
def Z1:∀{cz}{D}{e1},CA P D cz->cz.length=e1.length->(∀(M:Nat)(f),cz[M]?=some f->eV P f.type=e1[M]?)->∀(M)(f),cz[M]?=some f->f.offset=D+wE e1 M
 |[],D,e1,h,K,ak,M,f,bb=>by simp at bb
 |fd::cz,D,[],h,K,ak,M,f,bb=>by simp at K
 |fd::cz,D,s::e1,h,K,ak,M,f,bb=>by
  have B:eV P fd.type=some s:=by simpa using ak 0 fd rfl
  unfold CA at h;simp only[B] at h;split at h
  .rename_i av;have av:=cF.1 av;cases M with
   |zero=>simp at bb;subst bb;simpa [wE] using av
   |succ M=>have:=Z1 h (by simpa using K) (λM f bb=>by simpa using ak (M+1) f (by simpa using bb)) M f (by simpa using bb);rw[this];simp [wE,tI]
  .exact bS h
def ad9:∀{l}{i}{v},kR (l.map Prod.fst)->(i,v)∈l->nP i l=some v
 |[],i,v,h,hm=>by simp at hm
 |(M,w)::l,i,v,h,hm=>by
  unfold kR at h;simp only[fA] at h;split at h
  .exact bS h
  .rename_i aw;simp only[nP];rcases fS.1 hm with e|hm
   .have aZ:i=M:=mJ Prod.fst e;have aN:v=w:=mJ Prod.snd e;subst aZ aN;have:nP i l=none:=by
     cases K:nP i l with
     |none=>rfl
     |some u=>
      have:∀{l:List (Nat×Value)}{u:Value},nP i l=some u->i∈l.map Prod.fst:=by
       intro l;induction l with
       |nil=>intro u h;simp [nP] at h
       |cons x l bB=>
        have⟨qm,km⟩:=x;intro u h;simp only[nP] at h;split at h
        .rename_i fa b5;simp [fS];right;simpa using bB b5
        .split at h
         .rename_i e;simp [e]
         .cases h
      have:=this K;simp at aw;simp at this;have⟨b,av⟩:=this;exact absurd av (aw b)
    rw[this];simp
   .rw[ad9 h hm]
def aih{t}{cg:Array (Nat×Operand)}{k}(h:(C5 P t (qb es ae cg.toList)).f L T k)(dT:∀N∈cg.toList,i1 aa es ae L T a N.2):kb aa k (Instr.build t (cg.map λN=>(N.1,a.eval N.2))) P:=by
 unfold C5 at h;split at h
 .rename_i cz hu;split at h
  .rename_i n l aW bO;split at h
   .rename_i r aI;have⟨gq,uY,jN⟩:=Sr bO;have⟨asC,alo,YZ,pr⟩:=U6 (aa:=aa) uY (by simp);simp only[bl.cells] at YZ pr;have⟨q,h,J4,Hl,e1,fH,eK,s2,mR,oO,tA,out,cQ,eL,jU⟩:=SP (aa:=aa) dT aI h YZ pr;simp only[c6] at aW;have⟨⟨RL,sx⟩,m9⟩:=aW;have aB:l.length=n:=by have:=Ok (aa:=aa) uY;simp only[bk] at this;have⟨_,_,_,ah,_⟩:=this;exact ah
    refine .mk h (V:=.agg (List.toArray out.flatten)) (by simp only[bk];exact⟨_,rfl,cQ,by rw[J4,aB],Hl⟩) λw=>?_;have AN:((cg.map λN=>(N.1,a.eval N.2)):Array (Nat×Value)).toList=cg.toList.map λN=>(N.1,a.eval N.2):=by simp
    have Gm:kR ((cg.toList.map λN=>(N.1,a.eval N.2)).map Prod.fst)=true:=by
     have e:(qb es ae cg.toList).map Prod.fst=(cg.toList.map λN=>(N.1,a.eval N.2)).map Prod.fst:=by
      generalize cg.toList=l;induction l with
      |nil=>rfl
      |cons x l bB=>simp only[qb,fA,bB]
     rw[<-e];exact sx
    have aV:∀N∈cg.toList,N.1<cz.toList.length:=by
     intro N hp;rw[f0] at m9;have:(N.1,db es ae N.2)∈qb es ae cg.toList:=by
      generalize cg.toList=l at hp;induction l with
      |nil=>simp at hp
      |cons x l bB=>
       rcases fS.1 hp with e|hp
       .subst e;simp [qb]
       .simp only[qb];exact tX _ (bB hp)
     exact cZ.1 (m9 _ this)
    have C1:(cz.mapM (λf:Field=>(do pure (f.offset,<-sizeOf f.type):Sem (Nat×Nat)))).run P w=.ok (List.toArray ((cz.toList.zip e1).map λx=>(x.1.offset,x.2))) w:=by rw[Array.mapM_eq_mapM_toList,Sem.run_map,run_places w _ _ eK s2];rfl
    have MU:Instr.fill ((List.toArray ((cz.toList.zip e1).map λx=>(x.1.offset,x.2)))[·]?) gq.cells ((cg.map λN=>(N.1,a.eval N.2)):Array (Nat×Value)).toList=
     some (List.toArray (xP fH (cg.toList.map λN=>(N.1,a.eval N.2))).flatten):=by
     rw[alo,oO,AN]
     refine RQ _ e1 ?_ _ _ mR ?_
     .intro i s ak;have aH:i<cz.toList.length:=by rw[eK];exact(jb.1 ak).1
      have adv:cz.toList[i]?=some cz.toList[i]:=na aH;have:=Z1 RL eK s2 i _ adv;rw[jq] at this;simp only[wi,t7,(List.getElem?_zip_eq_some (z:=(cz.toList[i],s))).2 ⟨adv,ak⟩,A5,this]
     .intro N hp;obtain⟨x,I,rfl⟩:=re.1 hp;have B:=ad9 Gm (re.2 ⟨x,I,rfl⟩);have:=tA x.1 (a.eval x.2) (aV x I) (by rw[jq];exact B);exact this
    have x0:xP fH (cg.toList.map λN=>(N.1,a.eval N.2))=out:=by
     apply IL;intro M;have vD:fH.length=cz.toList.length:=by rw[eK,<-mR,dt]
     by_cases bb:M<cz.toList.length
     .rw[TX M _ _ Y,jU M bb,jq]
     .rw[qU (by rw[YH];omega),qU Y]
    simp only[Instr.build,eU,jN,ff,hE hu];rw[C1];simp only[ff];rw[MU];simp only[eB,x0]
   .exact bS h
  .exact bS h
 .exact bS h
def T2(bE:Bool)(w):∀(l:List Int)(n),((l.map λm=>Value.int .i64 m).foldlM (if bE then Builtin.max2 else Builtin.min2) (.int .i64 n)).run P w=.ok (.int .i64 (l.foldl (λx y=>if bE then max x y else min x y) n)) w
 |[],n=>by simp
 |m::l,n=>by
  rw[fA,List.foldlM_cons,eU];cases bE with
  |true=>
   have:(Builtin.max2 (.int .i64 n) (.int .i64 m)).run P w=.ok (.int .i64 (max n m)) w:=by simp only[Builtin.max2,eB];congr 2;split<;>omega
   simp only[nI,this,ff,x1];have:=T2 true w l (max n m);simpa using this
  |false=>
   have:(Builtin.min2 (.int .i64 n) (.int .i64 m)).run P w=.ok (.int .i64 (min n m)) w:=by simp only[Builtin.min2,eB];congr 2;split<;>omega
   simp only[n1,md,this,ff,x1];have:=T2 false w l (min n m);simpa using this
def IQ(bE:Bool):∀(l:List Int)(n m),(if bE then max n (l.foldl (λx y=>if bE then max x y else min x y) m) else min n (l.foldl (λx y=>if bE then max x y else min x y) m))=l.foldl (λx y=>if bE then max x y else min x y) (if bE then max n m else min n m)
 |[],n,m=>rfl
 |x::l,n,m=>by simp only[x1];rw[IQ bE l n];congr 1;cases bE<;>simp<;>omega
def K1{n m}(aB:n<18446744073709551616)(hm:m<18446744073709551616):nZ n m=true↔dm 3 n<dm 3 m:=by
 unfold nZ;rw[cZ];show(n+9223372036854775808) % 18446744073709551616<(m+9223372036854775808) % 18446744073709551616↔_;have e:∀q:Nat,dm 3 q=if q<9223372036854775808 then(q:Int) else(q:Int) - 18446744073709551616:=λq=>rfl
 rw[e,e];split<;>split<;>omega
def abn{bE}:∀{l:List Operand}{c}{k},o5 bE (l.map (db es ae))=some c->c.f L T k->(∀x∈l,i1 aa es ae L T a x)->∃(z:Int)(Db:List Int)(r:Nat),l.map a.eval=(z::Db).map (λm=>Value.int .i64 m)/\Db.foldl (λx y=>if bE then max x y else min x y) z=dm 3 r/\r<18446744073709551616/\k (.int 3 r)
 |[],c,k,aw,h,dT=>by simp [o5] at aw
 |[x],c,k,aw,h,dT=>by simp only[fA,je,o5,Option.some.injEq] at aw;subst aw;have⟨dz,n,aZ,g⟩:=n9 (v:=(db es ae x).g L T) h;have⟨bq,gZ⟩:=eH g;have bq:=cF.1 bq;subst bq;have au:bk aa ((db es ae x).g L T) (a.eval x):=dT x (by simp);rw[aZ] at au;simp only[bk] at au;have⟨_,aB,eZ⟩:=au;exact⟨dm 3 n,[],n,by simp [eZ,jh],rfl,aB,gZ⟩
 |x::y::l,c,k,aw,h,dT=>by
  simp only[fA] at aw;unfold o5 at aw;have dC:∀(r:cv->b4->(bl->Bool)->Bool)(QD:Bool),o5 QD (db es ae y::l.map (db es ae))=some ⟨r⟩->QD=bE->∀(M:bl->Nat->Bool),
   (gy ((db es ae x).g L T) λc n=>a7 (Nat.beq c 3) (r L T λv=>M v n) false)=true->
   ∃n,n<18446744073709551616/\a.eval x=.int .i64 (dm 3 n)/\∃(z:Int)(Db:List Int)(gC:Nat),(y::l).map a.eval=(z::Db).map (λm:Int=>Value.int .i64 m)/\Db.foldl (λx y=>if bE then max x y else min x y) z=dm 3 gC/\gC<18446744073709551616/\M (.int 3 gC) n=true:=by
   intro r QD ad hm M h
   subst hm
   have⟨dz,n,aZ,g⟩:=n9 h
   have⟨bq,gZ⟩:=eH g
   have bq:=cF.1 bq
   subst bq
   have au:bk aa ((db es ae x).g L T) (a.eval x):=dT x (by simp)
   rw[aZ] at au
   simp only[bk] at au
   have⟨_,aB,eZ⟩:=au
   have⟨z,Db,gC,g1,g2,g3,g4⟩:=abn (l:=y::l) (c:=⟨r⟩) (k:=λv=>M v n) ad gZ λz bO=>dT z (by simp [bO])
   exact⟨n,aB,eZ,z,Db,gC,g1,g2,g3,g4⟩
  split at aw
  .rename_i r ad;cases aw;have⟨n,aB,eZ,m,uV,gC,g1,g2,g3,g4⟩:=dC r _ ad rfl _ h;have⟨fo,iL,e,g5⟩:=n9 g4;cases e;rcases ic g5 with⟨q,g6⟩|⟨q,g6⟩
   .rw[K1 aB g3] at q;refine⟨dm 3 n,m::uV,gC,by simp only[fA] at g1 ⊢;rw[eZ,g1],?_,g3,g6⟩;rw[x1,<-IQ,g2];simp only[nI];omega
   .have q:¬dm 3 n<dm 3 gC:=λh=>by rw[(K1 aB g3).2 h] at q;cases q
    refine⟨dm 3 n,m::uV,n,by simp only[fA] at g1 ⊢;rw[eZ,g1],?_,aB,g6⟩;rw[x1,<-IQ,g2];simp only[nI];omega
  .rename_i r ad;cases aw;have⟨n,aB,eZ,m,uV,gC,g1,g2,g3,g4⟩:=dC r _ ad rfl _ h;have⟨fo,iL,e,g5⟩:=n9 g4;cases e;rcases ic g5 with⟨q,g6⟩|⟨q,g6⟩
   .rw[K1 g3 aB] at q;refine⟨dm 3 n,m::uV,gC,by simp only[fA] at g1 ⊢;rw[eZ,g1],?_,g3,g6⟩;rw[x1,<-IQ,g2];simp only[n1,md];omega
   .have q:¬dm 3 gC<dm 3 n:=λh=>by rw[(K1 g3 aB).2 h] at q;cases q
    refine⟨dm 3 n,m::uV,n,by simp only[fA] at g1 ⊢;rw[eZ,g1],?_,aB,g6⟩;rw[x1,<-IQ,g2];simp only[n1,md];omega
  .cases aw
def Vv{bE}{bX}{bK}{l:Array Operand}{c}{k}(aw:o5 bE (l.toList.map (db es ae))=some c)(h:c.f L T k)(dT:∀x∈l.toList,i1 aa es ae L T a x):kb aa k (if bE then Builtin.max_ bX bK (l.map a.eval) else Builtin.min_ bX bK (l.map a.eval)) P:=by
 have⟨n,jP,r,B,F,ah,aE⟩:=abn aw h dT;refine .mk aE (show bk aa (.int 3 r) (.int .i64 (dm 3 r)) from by simp only[bk];exact⟨by omega,by simpa [cp] using ah,rfl⟩) λw=>?_;have e:(l.map a.eval).toList=(n::jP).map (λm:Int=>Value.int .i64 m):=by rw[<-B];simp
 have:=T2 (P:=P) bE w jP n;rw[F] at this;cases bE with
 |true=>simp only[nI,Builtin.max_] at this ⊢;rw[e];exact this
 |false=>simp only[n1,md,Builtin.min_] at this ⊢;rw[e];exact this
end
section
variable{aa:cE}{es:aO}{ae:dv}{L:cv}{T:b4}{a:Act}{P:Program}
def C7(aa:cE)(k:bl->Bool)(s:Sem Next)(P:Program):Prop:=∃v V,k v=true/\bk aa v V/\∀w,s.run P w=.ok (.value V) w
def kb.op{k}{s:Sem Value}(h:kb aa k s P):C7 aa k (do pure (.value (<-s))) P:=by have⟨v,V,B,F,ah⟩:=h;exact⟨v,V,B,F,λw=>by rw[eU,ah];rfl⟩
def C7.mk{k v V s}(az:k v=true)(au:bk aa v V)(ak:∀w,s.run P w=.ok (.value V) w):C7 aa k s P:=⟨v,V,az,au,ak⟩
def FO{c:Call}{b:Builtin}(aw:c.callee=.builtin b)(f:Operand->Value)(t:TypeId)(w:World):(do let d <-resolve f c t;invoke d.target d.args:Sem Next).run P w=(builtin b c.argTypes t (c.args.map λ|.const _=>true|_=>false) (c.args.map f)).run P w:=by rw[eU];unfold resolve;rw[aw];rfl
def C7.congr{k}{s cP:Sem Next}(h:C7 aa k s P)(e:∀w,cP.run P w=s.run P w):C7 aa k cP P:=by have⟨v,V,B,F,ah⟩:=h;exact⟨v,V,B,F,λw=>(e w).trans (ah w)⟩
def GJ{α:Type}{x:Array α}{y}(h:x.toList=[y]):x= #[y]:=by have:=mJ List.toArray h;simpa using this
def Lo{α:Type}{x:Array α}{y z}(h:x.toList=[y,z]):x= #[y,z]:=by have:=mJ List.toArray h;simpa using this
def Yq{D}{k}(h:(sY P es ae D.op).f L T k)(dT:∀x∈D.op.operands.toList,i1 aa es ae L T a x):C7 aa k (execOp a.eval D) P:=by
 have⟨pU,op,bK,pos,abI,VW⟩:=D;simp only at h dT;unfold sY at h;split at h
 .rename_i x;exact⟨_,_,h,dT x (by simp [Op.operands]),λw=>rfl⟩
 .rename_i x;exact⟨_,_,h,dT x (by simp [Op.operands]),λw=>rfl⟩
 .rename_i c x y;have aw:=dT c (by simp [Op.operands]);unfold i1 at aw;have⟨b,e,h⟩:=Ak (v:=(db es ae c).g L T) h;rw[e] at aw;simp only[bk] at aw;rcases ic h with⟨av,h⟩|⟨av,h⟩
  .refine⟨_,_,h,dT x (by simp [Op.operands]),λw=>?_⟩;simp [execOp,aw,av,asBool]
  .refine⟨_,_,h,dT y (by simp [Op.operands]),λw=>?_⟩;simp [execOp,aw,av,asBool]
 .rename_i t cg;exact(aih h λN hp=>dT N.2 (by simp only[Op.operands,re];exact⟨N,hp,rfl⟩)).op
 .rename_i x;have I:=dT x (by simp [Op.operands]);have lq:=I;unfold i1 at lq;have⟨au,h⟩:=ahc (v:=(db es ae x).g L T) h;rcases au with⟨i,r,s,z,e⟩|⟨f,bY,bJ,e⟩
  .rw[e] at lq;simp only[bk] at lq;have⟨b,ca,_,lq⟩:=lq;refine⟨_,_,h,I,λw=>?_⟩;simp [execOp,lq]
  .rw[e] at lq;simp only[bk] at lq;have⟨b,ca,lq,_⟩:=lq;refine⟨_,_,h,I,λw=>?_⟩;simp [execOp,lq]
 .rename_i op t x y arG;exact(ap5 h (dT x (by simp [Op.operands])) (dT y (by simp [Op.operands]))).op
 .rename_i op t x;exact(anU h (dT x (by simp [Op.operands]))).op
 .rename_i s d x;exact(agV h (dT x (by simp [Op.operands]))).op
 .rename_i t x;exact(ajz h (dT x (by simp [Op.operands]))).op
 .rename_i f bY bJ;have B:=JL (l:=bY.toList) λx I=>dT x (by simp only[Op.operands,Kx,jD];exact .inl I);have F:=JL (l:=bJ.toList) λx I=>dT x (by simp only[Op.operands,Kx,jD];exact .inr I);refine⟨_,.func (.func f) (bY.map a.eval) (bJ.map a.eval),h,?_,λw=>rfl⟩;simp only[bk];exact⟨(bY.map a.eval).toList,(bJ.map a.eval).toList,by rw[Array.toArray_toList,Array.toArray_toList],by simpa using B,by simpa using F⟩
 .rename_i t x g8 aH;refine(apL (a:=a) h (dT x (by simp [Op.operands])) ?_ ?_).op
  .intro y e;subst e;exact dT y (by simp [Op.operands])
  .intro y e;subst e;exact dT y (by simp [Op.operands])
 .rename_i t x f;exact(alf h (dT x (by simp [Op.operands]))).op
 .rename_i t x f;exact(anm h (dT x (by simp [Op.operands]))).op
 .rename_i t x i;exact(ajZ h (dT x (by simp [Op.operands])) (dT i (by simp [Op.operands]))).op
 .rename_i t x i;exact(aiM h (dT x (by simp [Op.operands])) (dT i (by simp [Op.operands]))).op
 .rename_i x i;exact(ais h (dT x (by simp [Op.operands]))).op
 .rename_i x NA t ok;exact(amS h (dT x (by simp [Op.operands]))).op
 .rename_i c;split at h
  .rename_i t x aw al I;have al:=GJ al;have iU:=GJ I;have g:=(amP (bK:=bK) h (dT x (by simp [Op.operands,Call.operands,aw,iU]))).op;refine g.congr λw=>?_;simp only[execOp];have e:(#[x]:Array Operand).map a.eval= #[a.eval x]:=by simp
   rw[FO aw,al,iU,e];rfl
  .rename_i l aw;split at h
   .rename_i r ad;have g:=(Vv (P:=P) (bX:=c.argTypes) (bK:=bK) (l:=c.args) ad h (λx I=>dT x (by simp only[Op.operands,Call.operands,aw,Kx,jD];exact .inr I))).op;refine g.congr λw=>?_;simp only[execOp];rw[FO aw];rfl
   .exact bS h
  .rename_i l aw;split at h
   .rename_i r ad;have g:=(Vv (P:=P) (bX:=c.argTypes) (bK:=bK) (l:=c.args) ad h (λx I=>dT x (by simp only[Op.operands,Call.operands,aw,Kx,jD];exact .inr I))).op;refine g.congr λw=>?_;simp only[execOp];rw[FO aw];rfl
   .exact bS h
  .exact bS h
 .exact bS h
end
section
variable{P:Program}
variable{H:bd}{a n:Nat}{k:cv->Bool}{am:Ev.Rows}{w:World}{aa:cE}
def GS{z el u dK r}(h:ng aa w a (.cells am n z el u dK))(ad:r<n):∃b ca X,aa a=some (b,ca)/\cK aa (am.row r) X/\(am.row r).length=z/\(∀x∈am.row r,x.lw)/\∀(M)(v),X[M]?=some v->w.cell? ⟨b,r*z+M,none⟩=some v:=by
 have⟨b,ca,c,bS,B,F,ah,aE,bt,b1,ep⟩:=h;have⟨X,g1,g2,g3,g4⟩:=b1 r ad;refine⟨b,ca,X,B,g1,g2,g3,λM v au=>?_⟩;rw[cell_of_row w b _ c el bS F];have bb:M<z:=by have:=(jb.1 au).1;rw[g1.length,g2] at this;exact this
 rw[g4 M bb];exact au
def acl{N k}(h:rowOf N H k):∃a r s z am n el u dK,N=.ptr a r s z/\H.get a=.cells am n z el u dK/\r<n/\k s z (am.row r):=by unfold rowOf at h;have⟨a,r,s,z,e,h⟩:=NO h;rw[pN] at h;have⟨am,n,cI,el,u,dK,aN,h⟩:=J8 h;have⟨B,h⟩:=eH h;have⟨F,h⟩:=eH h;have c9:=cF.1 F;have hI:=SO h;subst c9;exact⟨a,r,s,z,am,n,el,u,dK,e,aN,cZ.1 B,hI⟩
def Xb{t}{n}(aD:rp P t=some true)(ak:eV P t=some n){AB}{d8:lh}{w}(K:d8.length=n)(h:∀(M)(v),d8[M]?=some v->w.cell? (AB.add M)=some v):(Instr.loadAt t (.pointer (some AB))).run P w=.ok (.agg d8.toArray) w:=by subst K;simp only[Instr.loadAt,Instr.sureAddr,loadVar,eU,eB,ff,Ns aD,nI,rj ak,run_loadCells_list w AB d8 h]
def aoR{v AB}{t}(aD:rp P t=some false)(h:w.cell? AB=some v):(Instr.loadAt t (.pointer (some AB))).run P w=.ok v w:=by simp only[Instr.loadAt,Instr.sureAddr,loadVar,eU,eB,ff,Ns aD,n1,md,run_load,h]
def Vc{t}{N}{H}{k}(h:(il P t).f N H k):∃v a r s z,k v/\N=.ptr a r s z/\(H.get a).live/\∀(aa)(w)(V),bk aa N V->ng aa w a (H.get a)->∃yo,bk aa v yo/\(Instr.loadAt t V).run P w=.ok yo w:=by
 unfold il at h;split at h
 .rename_i n aD ak;have⟨a,r,s,z,am,m,el,u,dK,e,br,ad,h⟩:=acl h;rcases ic h with⟨bq,h⟩|⟨bq,h⟩
  .have bq:=cF.1 bq;have⟨aS,h⟩:=eH h;have aS:=cF.1 aS;refine⟨_,a,r,s,z,h,e,by rw[br];rfl,λaa w V eZ ay=>?_⟩;rw[br] at ay;rw[e] at eZ;have⟨b,ca,X,g1,g2,g3,g4,g5⟩:=GS ay ad;simp only[bk] at eZ;obtain⟨dA,fs,g6,rfl⟩:=eZ;rw[g1] at g6;cases g6;refine⟨.agg X.toArray,by simp only[bk];exact⟨X,rfl,g2,by rw[g3,bq],g4⟩,Xb aD ak (by rw[g2.length,g3,bq]) λM v bb=>?_⟩;rw[vF,aS,sb];exact g5 M v bb
  .have⟨aS,h⟩:=Bz h;have⟨bU,h⟩:=Iq h;refine⟨_,a,r,s,z,h,e,by rw[br];rfl,λaa w V eZ ay=>?_⟩;rw[br] at ay;rw[e] at eZ;have⟨b,ca,X,g1,g2,g3,g4,g5⟩:=GS ay ad;simp only[bk] at eZ;obtain⟨dA,fs,g6,rfl⟩:=eZ;rw[g1] at g6;cases g6;have YJ:cK aa (((am.row r).drop s).take n) ((X.drop s).take n):=(g2.drop s).take n;have fy:(((am.row r).drop s).take n).length=n:=by rw[jC];omega
   refine⟨.agg ((X.drop s).take n).toArray,by simp only[bk];exact⟨_,rfl,YJ,fy,λx I=>g4 x (GA (Mh I))⟩,
    Xb aD ak (by rw[YJ.length,fy]) λM v bb=>?_⟩
   rw[vF,tI];refine g5 (s+M) v ?_;rw[List.getElem?_take] at bb;split at bb
   .rwa [Aa] at bb
   .cases bb
 .rename_i aD ak;have⟨a,r,s,z,am,m,el,u,dK,e,br,ad,h⟩:=acl h;have⟨v,bq,h⟩:=P4 h;refine⟨v,a,r,s,z,h,e,by rw[br];rfl,λaa w V eZ ay=>?_⟩;rw[br] at ay;rw[e] at eZ;have⟨b,ca,X,g1,g2,g3,g4,g5⟩:=GS ay ad;simp only[bk] at eZ;obtain⟨dA,fs,g6,rfl⟩:=eZ;rw[g1] at g6;cases g6;have⟨V,gA,j4⟩:=g2.get bq;exact⟨V,j4,aoR aD (g5 s V gA)⟩
 .exact bS h
def Kw{i}(h:i<am.cap):rowAt am i k=k (am.row i):=by
 unfold rowAt;cases am with
 |fG r=>
  have:i=0:=by simp [Rows.cap] at h;omega
  subst this;rfl
 |dc t=>exact mJ k (oN _ _)
 |cl t=>refine mJ k ?_;change(bQ (dG (i % 8))).s ((bQ (dG (i / 8 % 8))).s t)=_;rw[oN,oN];rfl
 |hD t=>refine mJ k ?_;change(bQ (dG (i % 8))).s ((bQ (dG (i / 8 % 8))).s ((bQ (dG (i / 64 % 8))).s t))=_;rw[oN,oN,oN];rfl
 |j3 g c=>rfl
def xJ{α}:∀{l:List α}{n}{k:List α->Bool},n<=l.length->rN l n k=k (l.take n)
 |[],0,_,_=>rfl
 |[],n+1,_,h=>by simp at h
 |a::l,0,_,_=>rfl
 |a::l,n+1,k,h=>xJ (l:=l) (n:=n) (k:=λr=>k (a::r)) (by simpa using h)
def wo{α}:∀{l:List α}{n}{k:List α->Bool},n<=l.length->pc l n k=k (l.drop n)
 |[],0,_,_=>rfl
 |[],n+1,_,h=>by simp at h
 |a::l,0,_,_=>rfl
 |a::l,n+1,k,h=>wo (l:=l) (n:=n) (k:=k) (by simpa using h)
def Jf(l fb:lh)(D k)(h:D+fb.length<=l.length):(l.take D++fb++l.drop (D+fb.length))[k]?=if D<=k/\k<D+fb.length then fb[k - D]? else l[k]?:=by
 by_cases B:k<D
 .rw[bA Y,BH,uX (by rw[jC];omega),List.getElem?_take,b3 B]
 .by_cases F:k<D+fb.length
  .rw[b3 ⟨Y,F⟩,BH,wb (by rw[jC];omega),jC,ws Y,uX Y]
  .rw[bA Y,wb (by rw[gP,jC];omega),Aa,gP,jC,ws Y];congr 1;omega
def Fa{i r z M:Nat}(bb:M<z)(h:i<r):i*z+M<r*z:=by have:(i+1)*z<=r*z:=p0 z h;rw[lE] at this;omega
def afS{i r z M:Nat}(h:r<i):r*z+z<=i*z+M:=by have:(r+1)*z<=i*z:=p0 z h;rw[lE] at this;omega
def kA.store{aa}{am}{n z}{c}(h:kA aa am n z c){r s}{jf}{fb}(ad:r<n)(lK:n<=am.cap)(ak:s+fb.length<=z)(au:cK aa jf fb)(aw:∀x∈jf,x.lw)(gL:r*z+s+fb.length<=c.size):kA aa (am.mT r ((am.row r).take s++(jf++(am.row r).drop (s+fb.length)))) n z (List.toArray (c.toList.take (r*z+s)++fb++c.toList.drop (r*z+s+fb.length))):=by
 intro i aH;have mc:∀k,(List.toArray (c.toList.take (r*z+s)++fb++c.toList.drop (r*z+s+fb.length)))[k]?=if r*z+s<=k/\k<r*z+s+fb.length then fb[k - (r*z+s)]? else c[k]?:=by intro k;rw[wi,Jf _ _ _ _ (by simpa using gL)];simp
 rw[Rows.F5 _ _ _ _ Y Y];by_cases e:i=r
 .subst e;rw[b3 rfl];have⟨X,B,F,ah,aE⟩:=h i aH;have ch:X.length=z:=by rw[B.length,F]
  refine⟨X.take s++fb++X.drop (s+fb.length),?_,?_,?_,λM bb=>?_⟩
  .rw[<-BH];exact((B.take s).append au).append (B.drop _)
  .simp only[gP,jC,lu,F,<-au.length];omega
  .intro x I;rcases jD.1 I with I|I
   .exact ah x (Mh I)
   .rcases jD.1 I with I|I
    .exact aw x I
    .exact ah x (GA I)
  .rw[mc,Jf X fb s M Y,aE M bb];by_cases ax:s<=M/\M<s+fb.length
   .rw[b3 Y,b3 ax];congr 1;omega
   .rw[bA Y,bA ax]
 .rw[bA e];have⟨X,B,F,ah,aE⟩:=h i aH;refine⟨X,B,F,ah,λM bb=>?_⟩;rw[mc,bA ?_,aE M bb];rcases Nat.lt_or_gt_of_ne e with b5|b5
  .have:=Fa bb b5;omega
  .have:=@afS i r z M b5;omega
def St{b ca a8 D}(R:Rel aa H w)(aD:eR a)(K:(H.get a).live=true)(wY:aa a=some (b,ca))(gL:a8.heap.size=w.heap.size)(az:∀k,k≠b->a8.heap[k]?=w.heap[k]?)(al:a8.tape=w.tape)(vd:a8.os=w.os)(x0:a8.output=w.output)(ay:ng aa a8 a D):Rel aa (H.put a D) a8/\Step aa H w aa (H.put a D) a8:=by
 have aoY:kI aa H b:=⟨a,aD,K,ca,wY⟩;have uq:∀bF,eR bF->((H.put a D).get bF).live=true->(H.get bF).live=true:=by
  intro bF b5 hJ;rw[bd.nG _ _ _ _ aD b5] at hJ;by_cases e:bF=a
  .rw[e];exact K
  .rwa [bA e] at hJ
 refine⟨⟨R.next,R.pH,?_,?_⟩,⟨cE.le_refl aa,λ_ _=>rfl,ez _,Y,?_,?_,?_,al,vd,x0⟩⟩
 .intro bF b5;rw[bd.nG _ _ _ _ aD b5];by_cases e:bF=a
  .rw[b3 e,e];exact ay
  .rw[bA e];refine(R.obj bF b5).mono (cE.le_refl aa) λdA fs hJ fN=>az dA λCM=>e ?_;subst CM;exact R.inj bF a b5 aD hJ K dA fs ca fN wY
 .intro bN a2 B F df cH;exact R.inj bN a2 B F (uq bN B df) (uq a2 F cH)
 .intro dA qz aB;exact az dA λCM=>aB (by rw[CM];exact aoY)
 .rintro dA ⟨bF,b5,hJ,fs,fN⟩;exact .inr ⟨bF,b5,uq bF b5 hJ,fs,fN⟩
 .intro x I aJ;have iU:eR x:=eN;cases ax:((H.put a D).get x).live with
  |false=>rfl
  |true=>rw[uq x iU ax] at aJ;cases aJ
def ahx{t}{m}(ak:eV P t=some m){g D}{X}{fb:lh}{yu}{el}{w}(ch:X.cells=List.toArray fb)(K:fb.length=m)(br:w.heap[g]?=some (.cells yu el (0,0)))(gL:D+fb.length<=yu.size)(B:∀v∈fb,v.oneCell'):(Instr.storeAt t (.pointer (some ⟨g,D,none⟩)) X).run P w=.ok () (w.setRow g (List.toArray (yu.toList.take D++fb++yu.toList.drop (D+fb.length)))):=by subst K;have:=NW P g D el fb 0 yu w br (by simpa using gL) B;simp only[sb] at this;simp only[Instr.storeAt,Instr.sureAddr,storeVar,eU,eB,ff,rj ak,ch,mN,ne_eq,not_true_eq_false,md];exact this
def UK{v}(h:jR v n k):∃c,k c/\(∀c8,jR v n c8=c8 c)/\∀(aa)(V),bk aa v V->∃L,V.cells=List.toArray L/\cK aa c L/\c.length=n/\∀x∈c,x.lw:=by
 unfold jR at h;rcases W8 h with⟨aw,B⟩|⟨m,l,rfl,B⟩
 .have⟨aB,F⟩:=eH B;have e:=cF.1 aB;refine⟨[v],F,λc8=>?_,λaa V eZ=>⟨[V],(eZ.OZ aw).2,cK.cons eZ cK.nil,by simp [e],λx I=>?_⟩⟩
  .unfold jR;rw[aB];cases v<;>first|rfl|(exact bS aw)
  .simp at I;subst I;exact aw
 .have⟨aB,F⟩:=eH B;have e:=cF.1 aB;refine⟨l,F,λc8=>?_,λaa V eZ=>?_⟩
  .show a7 (Nat.beq m n) (c8 l) false=c8 l;rw[aB];rfl
  .simp only[bk] at eZ;obtain⟨L,rfl,bq,aS,bU⟩:=eZ;exact⟨L,rfl,bq,aS.trans e,bU⟩
def Ar(a r s z)(k):sA (.ptr a r s z) k=k a r s z:=rfl
def alA(am)(n z el)(u dK)(k):yq (.cells am n z el u dK) k=k am n z el u dK:=rfl
def amQ{t}{N v}{H}{k}(h:(oy P t).f N v H k):∃a r s z bH,N=.ptr a r s z/\k (H.put a bH)/\(H.get a).live/\bH.live/\(∀aa w,ng aa w a (H.get a)->∀(aq)(c8),aq.get a=H.get a->(oy P t).f N v aq c8=c8 (aq.put a bH))/\∀(aa)(w)(V X),bk aa N V->bk aa v X->ng aa w a (H.get a)->∃a8 b ca,(Instr.storeAt t V X).run P w=.ok () a8/\aa a=some (b,ca)/\a8.heap.size=w.heap.size/\(∀k,k≠b->a8.heap[k]?=w.heap[k]?)/\a8.tape=w.tape/\a8.os=w.os/\a8.output=w.output/\ng aa a8 a bH:=by
 have cb:=h;unfold oy at h;split at h
 .rename_i m ak;have⟨a,r,s,z,e,g1⟩:=NO h;have⟨c,g2,al0,aoF⟩:=UK g1;rw[pN] at g2;have⟨am,n,cI,el,u,dK,qB,g3⟩:=J8 g2;have⟨bq,g4⟩:=Di g3;have⟨aS,g5⟩:=eH g4;have⟨bU,g6⟩:=eH g5;have c9:=cF.1 bU;have dC:∃aF,k (H.put a (.cells (am.mT r aF) n z el u dK))=true/\(∀aa w,ng aa w a (H.get a)->s+(m+1)<=z)/\(∀aa w,ng aa w a (H.get a)->∀L,cK aa c L->c.length=m+1->aF=(am.row r).take s++(c++(am.row r).drop (s+(m+1))))/\
   (∀aa w,ng aa w a (H.get a)->∀(aq:bd)(c8:bd->Bool),aq.get a=H.get a->(oy P t).f N v aq c8=c8 (aq.put a (.cells (am.mT r aF) n z el u dK))):=by
   have red:∀(aq:bd)(c8:bd->Bool),aq.get a=H.get a->(oy P t).f N v aq c8=
    (a7 (Nat.beq (m+1) z) (a7 (Nat.beq s 0) (setRow am r c λam=>qq aq a (.cells am n z el u dK) c8) false)
     (rowAt am r λaF=>rN aF s λq=>pc aF (Nat.add s (m+1)) λw=>nx c w λw=>nx q w λaF=>setRow am r aF λam=>qq aq a (.cells am n z el u dK) c8)):=by
    intro aq c8 uy
    simp only[oy,ak]
    rw[e,Ar,al0,pN,uy,qB,alA,bq,mF,aS,fz,bU,fz]
   rcases ic g6 with⟨cU,gA⟩|⟨cU,gA⟩
   .have hB:=cF.1 cU;have⟨eI,j4⟩:=eH gA;have mo:=cF.1 eI;rw[BJ,tf] at j4;refine⟨c,j4,λ_ _ _=>Y,λaa w ay L cn aw=>?_,λaa w ay aq c8 uy=>?_⟩
    .rw[qB] at ay;have⟨b,ca,X,_,_,V3,_⟩:=GS ay (cZ.1 aS);rw[mo,List.take_zero,kv,List.drop_eq_nil_of_le Y,oK]
    .rw[red aq c8 uy,cU,eI,fz,fz,BJ,tf]
   .have j4:=SO gA;have⟨eI,KF⟩:=Iq j4;have⟨my,Ph⟩:=Bz KF;rw[qM,qM,BJ,tf] at Ph;have fy:∀aa w,ng aa w a (H.get a)->(am.row r).length=z/\r<am.cap:=by intro aa w ay;rw[qB] at ay;have⟨b,ca,X,_,_,V3,_⟩:=GS ay (cZ.1 aS);have⟨_,_,_,_,_,_,_,_,lK,_⟩:=ay;exact⟨by rw[c9];exact V3,nV (cZ.1 aS) lK⟩
    refine⟨_,Ph,?_,λaa w ay L cn aw=>rfl,λaa w ay aq c8 uy=>?_⟩
    .intro aa w ay;have⟨K,aw⟩:=fy aa w ay;rw[<-K];exact my
    .have⟨K,aw⟩:=fy aa w ay;rw[red aq c8 uy,cU,mF,Kw aw,xJ eI,wo my,qM,qM,BJ,tf]
  have⟨aF,dr,c3,dY,e9⟩:=dC;refine⟨a,r,s,z,_,e,dr,by rw[qB];rfl,rfl,e9,λaa w V X eZ ch ay=>?_⟩;have⟨L,cn,Ln,mC,pr⟩:=aoF aa X ch;have hq:=dY aa w ay L Ln mC;have bO:=c3 aa w ay;rw[qB] at ay;have⟨b,ca,hY,bS,cQ,eL,jU,nR,qR,qJ,mU⟩:=ay;rw[jU bq] at eL;rw[e] at eZ;simp only[bk] at eZ;obtain⟨dA,fs,v1,rfl⟩:=eZ;rw[cQ] at v1;cases v1;have Hs:L.length=m+1:=by rw[Ln.length,mC]
  have ad:=cZ.1 aS;subst c9;have gL:r*z+s+L.length<=hY.size:=by
   have B:(r+1)*z<=n*z:=p0 z ad;rw[lE] at B;cases u with
   |true=>simp only[nI] at mU;omega
   |false=>simp only[n1,md] at mU;omega
  refine⟨_,b,ca,ahx ak cn Hs eL gL (Ln.Az pr),cQ,setRow_size _ _ _,λk az=>setRow_other w b k _ az,rfl,rfl,rfl,?_⟩;refine⟨b,ca,_,(0,0),cQ,setRow_heap w b hY _ el _ eL,λ_=>rfl,nR,by rw[Rows.wf];exact qR,?_,?_⟩
  .rw[hq,<-Hs];exact qJ.store ad qR Y Ln pr gL
  .have:(List.toArray (hY.toList.take (r*z+s)++L++hY.toList.drop (r*z+s+L.length))).size=hY.size:=by simp only[mN,gP,jC,lu,JP];omega
   rw[this];exact mU
 .exact bS h
end
end Go.Ev
