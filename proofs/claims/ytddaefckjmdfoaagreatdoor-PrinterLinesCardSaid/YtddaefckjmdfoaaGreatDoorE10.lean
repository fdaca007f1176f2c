/- Part of the proof of PrinterLines. -/
import Derived.Lib.Index
import Derived.RowKit3
import Derived.ProofKit
import Derived.Handed
import Derived.LaidMore
import Derived.Test.YtddaefckjmdfoaaGreatDoorE9
set_option linter.all false
namespace Go.Ev
open Go
section
variable{P:Program}{es:aO}{aP:Nat}{bI:World}
def zS(tmps:Array Value):ResultVar->Sem Value
 |.tmp t=>pure (tmps.getD t undef)
 |.cell a t=>do loadVar t (<-asAddr (tmps.getD a undef))
variable{H:bd}{T:b4}{a:Act}{l:cv}{w:World}{aa:cE}
def Vd{H}(R:Rel aa H w)(bv:TR aa es aP T a):∀{l}{k},(qI P es l).f T H k->∃q qa,k q/\cK aa q qa/\q.length=l.length/\(l.mapM (zS a.tmps)).run P w=.ok qa w
 |[],k,h=>⟨[],[],h,cK.nil,rfl,rfl⟩
 |.tmp t::l,k,h=>by have ak:=(ll.start bv).NG t;unfold wx at ak;unfold qI at h;have bB:=λk=>Vd R bv (l:=l) (k:=k);generalize ki es [] t=g at h ak;generalize qI P es l=r at h bB;have⟨g⟩:=g;have⟨r⟩:=r;have⟨q,qa,B,F,aE,ah⟩:=bB _ h;refine⟨_,_,B,cK.cons ak F,by simp [aE],?_⟩;rw[List.mapM_cons,eU];simp only[zS,eB,ff,eU,ah]
 |.cell x t::l,k,h=>by
  have ak:=(ll.start bv).NG x;unfold wx at ak;unfold qI at h;have bB:=λk=>Vd R bv (l:=l) (k:=k);generalize ki es [] x=g at h ak;have wN:=λk=>Vc (P:=P) (t:=t) (N:=g.g [] T) (H:=H) (k:=k);generalize il P t=f at h wN;generalize qI P es l=r at h bB;have⟨g⟩:=g;have⟨f⟩:=f;have⟨r⟩:=r;have⟨v,bN,dx,s,z,g1,g2,g3,g4⟩:=wN _ h;have⟨q,qa,B,F,aE,ah⟩:=bB _ g1;simp only at ak g2;have z5:=ak;rw[g2] at z5;simp only[bk] at z5;have⟨b,ca,av,eZ⟩:=z5;have⟨yo,g5,g6⟩:=g4 aa w _ ak (R.obj bN (bk.lt R av));refine⟨_,_,B,cK.cons g5 F,by simp [aE],?_⟩;rw[List.mapM_cons,eU];rw[eZ] at g6;have:(zS a.tmps (.cell x t)).run P w=.ok yo w:=by simp only[zS,eZ,asAddr];exact g6
  rw[this];simp only[ff,eU,ah,eB]
def aaL{fn:Func}{tmps:Array Value}{w:World}{qa:lh}(h:(fn.results.toList.mapM (zS tmps)).run P w=.ok qa w):(results fn tmps).run P w=.ok (if ak:(List.toArray qa).size=1 then(List.toArray qa)[0] else .tuple (List.toArray qa)) w:=by
 have hm:(fn.results.mapM (zS tmps)).run P w=.ok (List.toArray qa) w:=by rw[Array.mapM_eq_mapM_toList,Sem.run_map,h,ff]
 have e:results fn tmps=(do let fb <-fn.results.mapM (zS tmps);pure (if h:fb.size=1 then fb[0] else .tuple fb)):=by unfold results;congr 1
 rw[e,eU,hm];rfl
def PY{k fn}(R:Rel aa H w)(bv:TR aa es aP T a)(h:(ti P es fn.results.toList).f T H k):∃v V,k v/\bk aa v V/\(results fn a.tmps).run P w=.ok V w:=by
 have dC:∀k,(qI P es fn.results.toList).f T H k=true->∃q qa,k q=true/\cK aa q qa/\q.length=fn.results.toList.length/\(fn.results.toList.mapM (zS a.tmps)).run P w=.ok qa w:=λk=>Vd R bv;unfold ti at h;generalize qI P es fn.results.toList=r at h dC;have⟨r⟩:=r;split at h
 .rename_i f x ad K;cases ad;have⟨q,qa,B,F,ah,aE⟩:=dC _ h;rw[K] at ah
  match q,ah with
  |[v],_=>obtain⟨V,fX,rfl,bt,b1⟩:=F.cons_inv;simp only[cK] at b1;subst b1;exact⟨v,V,B,bt,by rw[aaL aE];rfl⟩
 .rename_i f ad K;cases ad;have⟨q,qa,B,F,ah,aE⟩:=dC _ h;refine⟨_,.tuple (List.toArray qa),B,by simp only[bk];exact⟨qa,rfl,F⟩,?_⟩;rw[aaL aE,dif_neg];intro ak;rw[mN,F.length,ah] at ak;have⟨x,I⟩:=List.length_eq_one_iff.1 ak;exact K x I
def abH{k}(h:Io l k):∃n,k n (l.drop 8)/\∀i,i<8->n.get (dG i)=l.getD i .undef:=by
 unfold Io at h;have fR:∀i,i<8->i=0\/i=1\/i=2\/i=3\/i=4\/i=5\/i=6\/i=7:=Y
 match l,h with
 |[],h=>exact⟨_,h,λi aH=>by rcases fR i aH with rfl|rfl|rfl|rfl|rfl|rfl|rfl|rfl<;>rfl⟩
 |[_],h=>exact⟨_,h,λi aH=>by rcases fR i aH with rfl|rfl|rfl|rfl|rfl|rfl|rfl|rfl<;>rfl⟩
 |[_,_],h=>exact⟨_,h,λi aH=>by rcases fR i aH with rfl|rfl|rfl|rfl|rfl|rfl|rfl|rfl<;>rfl⟩
 |[_,_,_],h=>exact⟨_,h,λi aH=>by rcases fR i aH with rfl|rfl|rfl|rfl|rfl|rfl|rfl|rfl<;>rfl⟩
 |[_,_,_,_],h=>exact⟨_,h,λi aH=>by rcases fR i aH with rfl|rfl|rfl|rfl|rfl|rfl|rfl|rfl<;>rfl⟩
 |[_,_,_,_,_],h=>exact⟨_,h,λi aH=>by rcases fR i aH with rfl|rfl|rfl|rfl|rfl|rfl|rfl|rfl<;>rfl⟩
 |[_,_,_,_,_,_],h=>exact⟨_,h,λi aH=>by rcases fR i aH with rfl|rfl|rfl|rfl|rfl|rfl|rfl|rfl<;>rfl⟩
 |[_,_,_,_,_,_,_],h=>exact⟨_,h,λi aH=>by rcases fR i aH with rfl|rfl|rfl|rfl|rfl|rfl|rfl|rfl<;>rfl⟩
 |_::_::_::_::_::_::_::_::l,h=>exact⟨_,h,λi aH=>by rcases fR i aH with rfl|rfl|rfl|rfl|rfl|rfl|rfl|rfl<;>rfl⟩
def VX(d):jv.get d=.undef:=cS.Zh _ d
def ML{k}(h:xY l k):∃T,k T/\T.ae=[]/\∀s,s<64->T.slot s=l.getD s .undef:=by
 unfold xY at h;have⟨pD,B,g1⟩:=abH h;have low:∀(T:b4),T.n5=pD->∀s,s<8->T.slot s=l.getD s .undef:=by intro T gY s ak;rw[b4.JJ,<-g1 s ak];have aZ:s / 8 % 8=0:=Y;have aN:s % 8=s:=Y;rw[aZ,aN];show T.n5.get _=_;rw[gY]
 cases aJ:l.drop 8 with
 |nil=>
  rw[aJ] at B;refine⟨_,B,rfl,λs ak=>?_⟩;have K:l.length<=8:=List.drop_eq_nil_iff.1 aJ;by_cases fm:s<8
  .exact low _ rfl s fm
  .rw[oE,qU Y,b4.JJ];have fR:∀i,i<8->i≠0->i=1\/i=2\/i=3\/i=4\/i=5\/i=6\/i=7:=Y;have:(⟨pD,jv,jv,jv,jv,jv,jv,jv,[]⟩:b4).zi (dG (s / 8 % 8))=jv:=by rcases fR (s / 8 % 8) Y Y with e|e|e|e|e|e|e<;>rw[e]<;>rfl
   rw[this];exact VX _
 |cons x r=>
  rw[aJ] at B;change Io (x::r) (λdl l=>kg l (k ⟨pD,dl,jv,jv,jv,jv,jv,jv,[]⟩) λ_ _=>false)=true at B;have⟨dl,F,g2⟩:=abH B;cases fZ:(x::r).drop 8 with
  |cons y gC=>rw[fZ] at F;exact bS F
  |nil=>
   rw[fZ] at F;refine⟨_,F,rfl,λs ak=>?_⟩;have K:l.length<=16:=by have ah:=List.drop_eq_nil_iff.1 fZ;have aE:=mJ List.length aJ;rw[lu] at aE;omega
   by_cases fm:s<8
   .exact low _ rfl s fm
   .by_cases CQ:s<16
    .rw[b4.JJ];have aZ:s / 8 % 8=1:=Y;have aN:s % 8=s - 8:=Y;rw[aZ,aN];show dl.get _=_;rw[g2 (s - 8) Y,<-aJ,oE,oE,Aa];congr 2;omega
    .rw[oE,qU Y,b4.JJ];have fR:∀i,i<8->i≠0->i≠1->i=2\/i=3\/i=4\/i=5\/i=6\/i=7:=Y;have:(⟨pD,dl,jv,jv,jv,jv,jv,jv,[]⟩:b4).zi (dG (s / 8 % 8))=jv:=by rcases fR (s / 8 % 8) Y Y Y with e|e|e|e|e|e<;>rw[e]<;>rfl
     rw[this];exact VX _
def ace{n}:∀{es}{i},t4 n i es->∀s t,es[s]?=some t->(i+s<n->t=i+s)/\(n<=i+s->n<=t)
 |[],i,_,s,t,h=>by simp at h
 |x::l,i,h,s,t,ak=>by
  have dC:(i<n->x=i)/\(n<=i->n<=x)/\t4 n (i+1) l=true:=by
   unfold t4 at h;split at h
   .rename_i av;have av:=cZ.1 av;split at h
    .rename_i ax;exact⟨λ_=>cF.1 ax,λbf=>Y,h⟩
    .cases h
   .rename_i av;have av:=Rj av;split at h
    .rename_i ax;exact⟨λbf=>Y,λ_=>dn.1 ax,h⟩
    .cases h
  cases s with
  |zero=>simp at ak;subst ak;exact⟨dC.1,dC.2.1⟩
  |succ s=>have:=ace dC.2.2 s t (by simpa using ak);have e:i+1+s=i+(s+1):=Y;rwa [e] at this
def Q9{aa}{fn:Func}{es}{args}{g0}{T:b4}(cM:cK aa args g0)(fy:args.length<=fn.params.size+fn.nfree)(sx:fn.params.size+fn.nfree<=fn.ntmps)(vx:t4 (fn.params.size+fn.nfree) 0 es)(aJ:T.ae=[])(gY:∀s,s<64->T.slot s=args.getD s .undef):TR aa es fn.ntmps T {tmps:=List.toArray g0++Array.replicate (fn.ntmps - (List.toArray g0).size) undef,defers:=[]}:=by
 have ash:=cM.length;refine⟨?_,λt s B F=>?_,by rw[aJ];rfl⟩
 .simp only[Kj,mN,Array.size_replicate];omega
 .have mc:=Nj B;rw[gY s F];have WM:∀t,args.length<=t->(List.toArray g0++Array.replicate (fn.ntmps - (List.toArray g0).size) undef).getD t undef=undef:=by
   intro t al;rw[zn];by_cases ax:t<fn.ntmps
   .rw[Array.getElem?_append_right (by simp only[mN];omega)];rw[Array.getElem?_replicate];split<;>rfl
   .rw[CO (by simp only[Kj,mN,Array.size_replicate];omega)];rfl
  have⟨dr,c3⟩:=ace vx s t mc;rw[jq] at dr c3;by_cases ak:s<fn.params.size+fn.nfree
  .have e:s=t:=(dr ak).symm;subst e;by_cases aD:s<args.length
   .have ah:args[s]?=some args[s]:=na aD;have⟨V,aE,bt⟩:=cM.get ah;rw[oE,ah,zn,Ig (by simp only[mN];omega),wi,aE];exact bt
   .rw[WM s Y,oE,qU Y];exact DN
  .have:=c3 Y;rw[WM t Y,oE,qU Y];exact DN
end
section
variable{P:Program}{bI:World}
def qd(aa:cE):dU->FrameMode->Prop
 |.ret,m=>m=.returning
 |.nv v r,m=>∃V,bk aa v V/\m=.panicking [{v:=V,recovered:=r}]
variable{H ct:bd}{bZ:Exit->Act->List Frame->World->Prop}{d8:List Frame}{j1:Frame}{es:aO}{m:FrameMode}{aP:Nat}{u:dU}{w dg:World}{aa nN:cE}
def qd.mono{bD}(h:aa.le bD)(r:qd aa u m):qd bD u m:=by
 cases u with
 |ret=>exact r
 |nv v b=>have⟨V,B,F⟩:=r;exact⟨V,bk.mono h _ _ B,F⟩
def qd.settle(r:qd aa u m):qd aa u.settle (Go.settle m):=by
 cases u with
 |ret=>simp only[qd] at r;subst r;rfl
 |nv v b=>
  obtain⟨V,B,rfl⟩:=r;cases b with
  |true=>rfl
  |false=>exact⟨V,B,rfl⟩
def OG(bZ:Exit->Act->List Frame->World->Prop)(j1:Frame)(d8:List Frame)(bI:World)(es:aO)(aP:Nat)(aa:cE)(H:bd)(w:World)(b0:b4->bd->dU->Bool):Prop:=
 ∀bD aq cO bF a8 u m,TR bD es aP cO bF->gQ bI bD aq a8->Step aa H w bD aq a8->qd bD u m->b0 cO aq u=true->bZ .normal bF ({j1 with mode:=m}::d8) a8
def K2(bZ:Exit->Act->List Frame->World->Prop)(j1:Frame)(d8:List Frame)(bI:World)(es:aO)(aP:Nat)(aa:cE)(H:bd)(w:World)(bz:X->b4->bd->dU->Bool):Prop:=
 ∀bD aq cO bF a8 u m x e,TR bD es aP cO bF->gQ bI bD aq a8->Step aa H w bD aq a8->qd bD u m->s6 bD x e->bz x cO aq u=true->bZ e bF ({j1 with mode:=m}::d8) a8
def OG.step{b0}(h:OG bZ j1 d8 bI es aP aa H w b0)(s:Step aa H w nN ct dg):OG bZ j1 d8 bI es aP nN ct dg b0:=λbD aq cO bF a8 u m B F ah aE bt=>h bD aq cO bF a8 u m B F (s.trans ah) aE bt
def K2.step{bz}(h:K2 bZ j1 d8 bI es aP aa H w bz)(s:Step aa H w nN ct dg):K2 bZ j1 d8 bI es aP nN ct dg bz:=λbD aq cO bF a8 u m x e B F ah aE bt b1=>h bD aq cO bF a8 u m x e B F (s.trans ah) aE bt b1
def PO(P:Program)(bI:World)(es:aO)(aP:Nat)(c:Code)(f:Pb):Prop:=
 ∀(n:Nat)(call:cG)(aa:cE)(H:bd)(w:World)(T:b4)(a:Act)(u:dU)(m:FrameMode)(b0:b4->bd->dU->Bool)(bz:X->b4->bd->dU->Bool)(bZ:Exit->Act->List Frame->World->Prop)(j1:Frame)(d8:List Frame),
  qx P bI call->gQ bI aa H w->TR aa es aP T a->qd aa u m->f.f n call T H u b0 bz=true->OG bZ j1 d8 bI es aP aa H w b0->K2 bZ j1 d8 bI es aP aa H w bz->c.wpS P bZ a ({j1 with mode:=m}::d8) w
def Ub{c f}(aw:acA P bI es aP c f):PO P bI es aP c (L7 f):=by
 intro n call aa H w T a u m b0 bz bZ j1 d8 f5 R bv hu h B F;have⟨f⟩:=f;refine wpS_of_wp (aw n call aa H w T a (λT H=>b0 T H u) (λx T H=>bz x T H u) _ f5 R bv h ?_ ?_)
 .intro bD aq cO bF a8 bq aS bU cU;exact B bD aq cO bF a8 u m bq aS bU (hu.mono bU.le) cU
 .intro bD aq cO bF a8 x e bq aS bU cU eI;exact F bD aq cO bF a8 u m x e bq aS bU (hu.mono bU.le) cU eI
def ai9:qx P bI yO:=λf args H k h=>bS h
def aiA{D}(h:Cl D.op)(f)(w):(execOp f D).run P w=.ok .recover w:=by
 have⟨pU,op,bK,pos,abI,VW⟩:=D;simp only at h;unfold Cl at h;split at h
 .rename_i c;split at h
  .rename_i aw;unfold execOp;simp only;rw[FO aw];rfl
  .exact bS h
 .exact bS h
def ahf(aB:oV P){es}{aP id}{an}{r}(ad:S1 P es aP an an.toList zM=some r):PO P bI es aP (.region id an false) ⟨λ_ _ T H u b0 _=>TM u (r.f yO [.nil .i] T H (λT H=>b0 T H .ret) λ_ _ _=>false) (λv rec=>a7 rec (r.f yO [.nil .i] T H (λT H=>b0 T H (.nv v true)) λ_ _ _=>false) (r.f yO [v] T H (λT H=>b0 T H (.nv v true)) λ_ _ _=>false))⟩:=by
 intro n call aa H w T a u m b0 bz bZ j1 d8 f5 R bv hu h B F;cases K:an.toList with
 |nil=>rw[K] at ad;cases ad
 |cons D l=>
  rw[K] at ad;unfold S1 at ad;cases rx:Cl D.op with
  |false=>simp only[rx] at ad;cases ad
  |true=>
   cases br:D.guard with
   |some g=>simp only[rx,br] at ad;cases ad
   |none=>
    cases aJ:D.dst with
    |none=>simp only[rx,br,aJ] at ad;cases ad
    |some d=>
     simp only[rx,br,aJ] at ad;cases aV:Nat.blt d aP with
     |false=>simp only[aV] at ad;cases ad
     |true=>
      cases Em:i2 d es with
      |some s=>simp only[aV,Em] at ad;cases ad
      |none=>
       cases iI:l.all λD=> !Cl D.op with
       |false=>simp only[aV,Em,iI] at ad;cases ad
       |true=>
        simp only[aV,Em,iI,Option.some.injEq] at ad;have ay:an[0]?=some D:=by rw[<-x3,K];rfl
        have hJ:∀M D,l[M]?=some D->an[1+M]?=some D:=λM D bb=>by rw[<-x3,K,t8];simpa using bb
        have Th:=Tl (bI:=bI) (es:=es) (aP:=aP) (an:=an) ai9 aB l 1 [some d] hJ;have Th:Kv P bI es aP an yO (List.range' 1 l.length) [some d] r:=by rw[<-ad];exact Th
        have gL:an.size=l.length+1:=by rw[<-JP,K];rfl
        have bx:Region.wanted D (yielded an a.tmps)=true:=by unfold Region.wanted;rw[br]
        have Vu:∀(v:bl)(V:Value)(fa:dU)(iL:FrameMode),bk aa v V->qd aa fa iL->r.f yO [v] T H (λT H=>b0 T H fa) (λ_ _ _=>false)=true->
         wpOpsS P an bZ (List.range' 1 l.length) (a.put D.dst V) ({j1 with mode:=iL}::d8) w:=by
         intro v V fa iL au u3 az
         have sa:=(ll.start bv).acY (v:=v) (V:=V) (cZ.1 aV) Em au
         rw[aJ]
         refine ON _ _ _ (Th aa H w [v] T _ _ _ _ R sa az ?_ ?_)
         .intro bD aq cO bF a8 bq aS bU cU;exact B bD aq cO bF a8 fa iL bq aS bU (u3.mono bU.le) cU
         .intro bD aq cO bF km Xj a8 bq aS bU cU eI;exact bS eI
        refine wpS_region ?_;rw[List.range_eq_range',gL];show wpOpsS P an bZ (0::List.range' 1 l.length) a ({j1 with mode:=m}::d8) w;unfold wpOpsS;simp only[ay];rw[b3 bx,aiA rx];simp only;cases u with
        |ret=>simp only[qd] at hu;subst hu;simp only[recoverD];exact Vu (.nil .i) .nilIface .ret .returning (by simp only[bk,iB]) rfl h
        |nv v b=>
         obtain⟨V,au,rfl⟩:=hu;cases b with
         |true=>simp only[recoverD];exact Vu (.nil .i) .nilIface (.nv v true) _ (by simp only[bk,iB]) ⟨V,au,rfl⟩ h
         |false=>simp only[recoverD];exact Vu v V (.nv v true) _ au ⟨V,au,rfl⟩ h
def G1{es aP}(hm:P.follows .mixedOrders)(aB:oV P):∀c,PO P bI es aP c (rh P es aP c)
 |.seq x y=>by
  intro n call aa H w T a u m b0 bz bZ j1 d8 f5 R bv hu h B F;have I:=G1 hm aB (es:=es) (aP:=aP) x;have ap:=G1 hm aB (es:=es) (aP:=aP) y;unfold rh at h;split at h
  .exact Ub (wU hm aB (.seq x y)) n call aa H w T a u m b0 bz bZ j1 d8 f5 R bv hu h B F
  .generalize rh P es aP x=oT at h I;generalize rh P es aP y=u4 at h ap;have⟨oT⟩:=oT;have⟨u4⟩:=u4;refine wpS_seq (I n call aa H w T a u m _ bz _ j1 d8 f5 R bv hu h ?_ ?_)
   .intro bD aq cO bF a8 fa iL bq aS bU cU eI;exact ap n call bD aq a8 cO bF fa iL b0 bz bZ j1 d8 f5 aS bq cU eI (B.step bU) (F.step bU)
   .intro bD aq cO bF a8 fa iL x e bq aS bU cU eI my;have:=F bD aq cO bF a8 fa iL x e bq aS bU cU eI my;cases x<;>simp only[s6] at eI
    .subst eI;exact this
    .subst eI;exact this
    .obtain⟨V,_,rfl⟩:=eI;exact this
 |.cond c x y=>by
  intro n call aa H w T a u m b0 bz bZ j1 d8 f5 R bv hu h B F;have I:=G1 hm aB (es:=es) (aP:=aP) x;have ap:=G1 hm aB (es:=es) (aP:=aP) y;have aw:=(ll.start bv).wj c;unfold i1 at aw;unfold rh at h;generalize db es [] c=tK at h aw;generalize rh P es aP x=oT at h I;generalize rh P es aP y=u4 at h ap;have⟨tK⟩:=tK;have⟨oT⟩:=oT;have⟨u4⟩:=u4;have⟨b,e,ah⟩:=Ak h;simp only at aw;rw[e] at aw;simp only[bk] at aw;refine wpS_cond aw ?_;rcases ic ah with⟨av,aE⟩|⟨av,aE⟩
  .rw[av,b3 rfl];exact I n call aa H w T a u m b0 bz bZ j1 d8 f5 R bv hu aE B F
  .rw[av,bA ag];exact ap n call aa H w T a u m b0 bz bZ j1 d8 f5 R bv hu aE B F
 |.region i an d=>by
  intro n call aa H w T a u m b0 bz bZ j1 d8 f5 R bv hu h B F;unfold rh at h;split at h
  .exact Ub (wU hm aB _) n call aa H w T a u m b0 bz bZ j1 d8 f5 R bv hu h B F
  .exact bS h
  .split at h
   .rename_i r ad;exact ahf aB ad n call aa H w T a u m b0 bz bZ j1 d8 f5 R bv hu h B F
   .exact bS h
 |.skip|.block _ _|.loop _|.rangeFunc .. |.exit _|.scope _|.label _|.goto _|.ret|.refuse _=>by
  intro n call aa H w T a u m b0 bz bZ j1 d8 f5 R bv hu h B F;unfold rh at h;split at h
  .exact Ub (wU hm aB _) n call aa H w T a u m b0 bz bZ j1 d8 f5 R bv hu h B F
  .exact bS h
end
section
variable{P:Program}{E:Nat->aO}{bI:World}
variable{T:b4}{ext:Nat->Option e0}
def IU{b}(h:s5 T b):T.ae=[]/\b:=by
 unfold s5 at h;cases aJ:T.ae with
 |nil=>rw[aJ] at h;exact⟨rfl,h⟩
 |cons x l=>rw[aJ] at h;exact bS h
def TR.JZ{aa es aP a}(bv:TR aa es aP T a)(h:T.ae=[]):a.defers=[]:=by have:=bv.defers;rw[h] at this;exact this
def anM(aB:oV P){g:Nat}{fn}(B:P.funcs[g]?=some fn)(F:fn.body.isSome)(cap args)(w):(invoke (.fn (.func g) cap) args).run P w=.ok (.enter g (args++cap)) w:=by
 have av:fn.body.isNone=false:=by
  cases h:fn.body with
  |none=>rw[h] at F;cases F
  |some c=>rfl
 unfold invoke;show(callFunc g (args++cap)).run P w=_;unfold callFunc;rw[eU,run_program,ff,B];simp only[aB g fn B F,av,n1,md,eB]
def an2(hm:P.follows .mixedOrders)(aB:oV P){n f}{call}(f5:qx P bI call){args}{u}{m}{aa}{H}{w}{k}(R:gQ bI aa H w)(h:Qu P E n call f args u H k){g0}(cM:cK aa args g0)(hu:qd aa u m){jk}(mM:∀bD aq a8 fa iL v,gQ bI bD aq a8->Step aa H w bD aq a8->qd bD fa iL->k fa aq->jk (.returned v) iL a8):∃fn,P.funcs[f]?=some fn/\fn.body.isSome/\CallsD P f (List.toArray g0) m w jk:=by
 unfold Qu at h;split at h
 .rename_i fn aI;split at h
  .rename_i c av;have ak:=G1 (bI:=bI) hm aB (es:=E f) (aP:=fn.ntmps) c;have Cp:=λaa H w T a R bv k=>PY (P:=P) (es:=E f) (aP:=fn.ntmps) (aa:=aa) (H:=H) (w:=w) (T:=T) (a:=a) R bv (fn:=fn) (k:=k);generalize rh P (E f) fn.ntmps c=hY at h ak;generalize ti P (E f) fn.results.toList=dx at h Cp;have⟨hY⟩:=hY;have⟨dx⟩:=dx;cases K:Nat.ble args.length (fn.params.size+fn.nfree) with
   |false=>simp only[K] at h;exact bS h
   |true=>
    cases pF:sE c with
    |true=>simp only[K,pF] at h;exact bS h
    |false=>
     cases sx:Nat.ble (fn.params.size+fn.nfree) fn.ntmps with
     |false=>simp only[K,pF,sx,t5] at h;exact bS h
     |true=>
      cases vx:t4 (fn.params.size+fn.nfree) 0 (E f) with
      |false=>simp only[K,pF,sx,vx,uW] at h;exact bS h
      |true=>
      simp only[K,pF,sx,vx,sr] at h;have⟨T,B,aJ,gY⟩:=ML h;refine⟨fn,aI,by rw[av];rfl,callsD_of_wpS aI av λj1 d8 afE=>?_⟩;have bv:=Q9 cM (dn.1 K) (dn.1 sx) vx aJ gY;have Eg:({j1 with mode:=m}:Frame)=j1:=by subst afE;rfl
      have:=ak n call aa H w T _ u m _ _ (bodyPostS P fn j1 d8 jk) j1 d8 f5 R bv hu B ?_ ?_
      .rw[Eg] at this;exact this
      .intro bD aq cO bF a8 fa iL bq aS bU cU eI;have⟨g1,g2⟩:=IU eI;have⟨v,V,g3,g4,g5⟩:=Cp bD aq a8 cO bF aS.rel bq _ g2;exact⟨bq.JZ g1,iL,rfl,V,g5,mM bD aq a8 fa iL V aS bU cU g3⟩
      .intro bD aq cO bF a8 fa iL x e bq aS bU cU eI my;cases x with
       |exit i=>exact bS my
       |panic v=>exact bS my
       |ret=>simp only[s6] at eI;subst eI;have⟨g1,g2⟩:=IU my;have⟨v,V,g3,g4,g5⟩:=Cp bD aq a8 cO bF aS.rel bq _ g2;exact⟨bq.JZ g1,iL,rfl,V,g5,mM bD aq a8 fa iL V aS bU cU g3⟩
  .exact bS h
 .exact bS h
def XU(hm:P.follows .mixedOrders)(aB:oV P){n}{call}(f5:qx P bI call){fn}{es}{T}{a}{k}{gh}{ga}{Ap}:∀{ae}{aY}{u}{m}{aa}{H}{w},gQ bI aa H w->Step gh ga Ap aa H w->TR aa es fn.ntmps T a->EA aa ae aY->qd aa u m->Da P E n call (ti P es fn.results.toList).f T ae u H k->Leaves P fn a.tmps (IV bI gh ga Ap k) aY m w
 |[],aY,u,m,aa,H,w,R,S,bv,bi,hu,h=>by
  cases bi;unfold Da at h;cases u with
  |ret=>simp only[qd] at hu;subst hu;have⟨v,V,g3,g4,g5⟩:=PY R.rel bv h;exact⟨V,g5,aa,H,R,S,v,g4,g3⟩
  |nv v b=>obtain⟨V,au,rfl⟩:=hu;have⟨av,B⟩:=Di h;subst av;exact⟨aa,H,R,S,v,V,rfl,au,B⟩
 |d::ae,aY,u,m,aa,H,w,R,S,bv,bi,hu,h=>by
  obtain⟨X,nA,rfl,⟨g0,DI,rfl,cM,sG⟩,N6⟩:=bi;unfold Da at h;have⟨arH,g1,g2,g3⟩:=an2 hm aB f5 R h (cM.append sG) hu (jk:=λ
   |.returned _,fa,a8=>Leaves P fn a.tmps (IV bI gh ga Ap k) nA (settle fa) a8
   |.panicked KH,fa,a8=>Leaves P fn a.tmps (IV bI gh ga Ap k) nA (raised fa KH) a8
   |.outgrown,_,a8=>IV bI gh ga Ap k .outgrown a8) (λbD aq a8 fa iL v bq aS bU cU=>
   XU hm aB f5 bq (S.trans aS) (bv.mono aS.le) (N6.mono aS.le) bU.settle cU)
  refine⟨?_,.func d.f,List.toArray DI,d.f,List.toArray (g0++DI),rfl,?_,g3⟩
  .cases u with
   |ret=>simp only[qd] at hu;subst hu;simp
   |nv v b=>obtain⟨V,_,rfl⟩:=hu;simp
  .have:=anM aB g1 g2 (List.toArray DI) (List.toArray g0) w;simpa using this
def BB(P:Program)(bI:World)(ext:Nat->Option e0):Prop:=∀(f:Nat)(e:e0),ext f=some e->∀(args:cv)(k:bl->Bool),e.f args k=true->
 ∃fn v,P.funcs[f]?=some fn/\fn.body.isSome=true/\k v=true/\∀(aa:cE)(H:bd)(w:World)(g0:lh),cK aa args g0->gQ bI aa H w->
  Calls P f (List.toArray g0) w λe a8=>∃V,e=.returned V/\bk aa v V/\Rel aa H a8/\Step aa H w aa H a8
def Wz{call n}(hm:P.follows .mixedOrders)(aB:oV P)(uK:BB P bI ext)(f5:qx P bI call):qx P bI λf args H k=>(xR P E ext f).f n call args H k:=by
 intro f args H k h;simp only at h;unfold xR at h;split at h
 .rename_i e ar;have⟨fn,v,B,F,ah,aE⟩:=uK f _ ar args _ h;refine⟨fn,B,F,λaa w g0 cM R=>Calls.mono (aE aa H w g0 cM R) λe a8 mM=>?_⟩;obtain⟨V,rfl,au,dc,cl⟩:=mM;exact⟨aa,H,⟨dc,R.jr.step cl⟩,cl,v,au,ah⟩
 .split at h
  .rename_i fn aI;split at h
   .rename_i c av;have ak:=wU (bI:=bI) hm aB (es:=E f) (aP:=fn.ntmps) c;have Cp:=λaa H w T a R bv k=>PY (P:=P) (es:=E f) (aP:=fn.ntmps) (aa:=aa) (H:=H) (w:=w) (T:=T) (a:=a) R bv (fn:=fn) (k:=k);have Fp:=λ(gh:cE)(ga:bd)(Ap:World) T a ae aY u m aa H w=>XU (E:=E) (bI:=bI) hm aB (n:=n) f5 (fn:=fn) (es:=E f) (T:=T) (a:=a) (k:=k) (gh:=gh) (ga:=ga) (Ap:=Ap) (ae:=ae) (aY:=aY) (u:=u) (m:=m) (aa:=aa) (H:=H) (w:=w);generalize iW P (E f) fn.ntmps c=hY at h ak;generalize ti P (E f) fn.results.toList=dx at h Cp Fp;have⟨hY⟩:=hY;have⟨dx⟩:=dx;cases sx:Nat.ble (fn.params.size+fn.nfree) fn.ntmps with
    |false=>cases pF:sE c<;>(simp only[pF,sx,t5] at h;exact bS h)
    |true=>
     cases vx:t4 (fn.params.size+fn.nfree) 0 (E f) with
     |false=>cases pF:sE c<;>(simp only[pF,sx,vx,uW] at h;exact bS h)
     |true=>
     cases pF:sE c with
     |false=>
      simp only[pF,sx,vx,sr] at h;have⟨fy,B⟩:=T0 h;have⟨T,F,aJ,gY⟩:=ML B;refine⟨fn,aI,by rw[av];rfl,λaa w g0 cM R=>calls_of_wp aI av ?_⟩;have bv:=Q9 cM (Nat.le_of_eq fy) (dn.1 sx) vx aJ gY;refine ak n call aa H w T _ _ _ _ f5 R bv F ?_ ?_
      .intro bD aq cO bF a8 bq aS bU cU;have⟨g1,g2⟩:=IU cU;have⟨v,V,g3,g4,g5⟩:=Cp bD aq a8 cO bF aS.rel bq _ g2;exact⟨bq.JZ g1,V,g5,bD,aq,aS,bU,v,g4,g3⟩
      .intro bD aq cO bF a8 x e bq aS bU cU eI;cases x with
       |exit i=>exact bS eI
       |ret=>simp only[s6] at cU;subst cU;have⟨g1,g2⟩:=IU eI;have⟨v,V,g3,g4,g5⟩:=Cp bD aq a8 cO bF aS.rel bq _ g2;exact⟨bq.JZ g1,V,g5,bD,aq,aS,bU,v,g4,g3⟩
       |panic v=>simp only[s6] at cU;obtain⟨V,au,rfl⟩:=cU;have⟨g1,g2⟩:=IU eI;exact⟨bq.JZ g1,bD,aq,aS,bU,v,V,rfl,au,g2⟩
     |true=>
      simp only[pF,sx,vx,sr] at h;have⟨fy,B⟩:=T0 h;have⟨T,F,aJ,gY⟩:=ML B;refine⟨fn,aI,by rw[av];rfl,λaa w g0 cM R=>calls_of_wp_defers aI av ?_⟩;have bv:=Q9 cM (Nat.le_of_eq fy) (dn.1 sx) vx aJ gY;refine ak n call aa H w T _ _ _ _ f5 R bv F ?_ ?_
      .intro bD aq cO bF a8 bq aS bU cU;exact Fp aa H w cO bF cO.ae bF.defers .ret .returning bD aq a8 aS bU bq bq.defers rfl cU
      .intro bD aq cO bF a8 x e bq aS bU cU eI;cases x with
       |exit i=>exact bS eI
       |ret=>simp only[s6] at cU;subst cU;exact Fp aa H w cO bF cO.ae bF.defers .ret .returning bD aq a8 aS bU bq bq.defers rfl eI
       |panic v=>simp only[s6] at cU;obtain⟨V,au,rfl⟩:=cU;exact Fp aa H w cO bF cO.ae bF.defers (.nv v false) _ bD aq a8 aS bU bq bq.defers ⟨V,au,rfl⟩ eI
   .exact bS h
  .exact bS h
def SK(hm:P.follows .mixedOrders)(aB:oV P)(uK:BB P bI ext):∀n,qx P bI (UH P E ext n)
 |0=>λf args H k h=>bS h
 |n+1=>by have:=Wz (E:=E) hm aB uK (n:=n) (SK hm aB uK n);unfold UH at this ⊢;rw[OT];exact this
end
noncomputable def ED{α:Type}(l:List α):Nat->Option α:=
 List.rec (motive:=λ_=>Nat->Option α) (λ_=>none) (λa _ bB n=>Nat.rec (motive:=λ_=>Option α) (some a) (λn _=>bB n) n) l
def Qk{α}:∀(l:List α)(n),ED l n=l[n]?
 |[],n=>by simp [ED]
 |a::l,0=>rfl
 |a::l,n+1=>by have:ED (a::l) (n+1)=ED l n:=rfl;rw[this,Qk l n];simp
noncomputable def Jv(P:Program)(t:TypeId):Option TypeInfo:=match ED P.types.toList t with
 |some i=>some i
 |none=>P.info? t
def VT(P)(t):Jv P t=P.info? t:=by
 unfold Jv;rw[Qk,x3];split
 .rename_i i aH;have aV:t<P.types.size:=(Bj.1 aH).1;unfold Tables.info?;rw[b3 aV,aH]
 .rfl
noncomputable def UB(P:Program)(t:TypeId):Option TypeDesc:=
 match Jv P t with
 |some {desc:=.named _ u,..}=>(Jv P u).map (·.desc)
 |some i=>some i.desc
 |none=>none
def alX(P)(t):UB P t=P.underlying t:=by unfold UB Program.underlying;simp only[VT];rfl
noncomputable def LA(P:Program):dy:=⟨UB P,Jv P,ED P.funcs.toList⟩
def ag1(P):LA P=IY P:=by
 unfold LA IY;congr 1
 .funext t;exact alX P t
 .funext t;exact VT P t
 .funext f;rw[Qk,x3]
noncomputable def ajm(aji:List aO)(f:Nat):aO:=
 List.rec (motive:=λ_=>Nat->aO) (λ_=>[]) (λa _ bB n=>Nat.rec (motive:=λ_=>aO) a (λn _=>bB n) n) aji f
def m1:bl:=.int 3 18446744073709551615
def U8{aa}:bk aa m1 (.int .i64 (-1)):=by have:=pm (aa:=aa) (c:=3) (r:=18446744073709551615) ag ag;exact this
noncomputable def Dt(c:Nat)(len:Nat):Nat->Nat->(bl->Bool)->Bool:=
 Nat.rec (motive:=λ_=>Nat->Nat->(bl->Bool)->Bool) (λ_ _ k=>k m1)
  (λ_ bB n i k=>a7 (Nat.beq (Nat.mod n 256) c) (k (.int 3 i)) (e5 (Nat.div n 256) λn=>e5 (Nat.succ i) λi=>bB n i k)) len
def Ug(c l n i)(k):Dt c (l+1) n i k=a7 (Nat.beq (Nat.mod n 256) c) (k (.int 3 i)) (Dt c l (n / 256) (i+1) k):=by show a7 _ _ (e5 (Nat.div n 256) λn=>e5 (Nat.succ i) λi=>Dt c l n i k)=_;rw[gT,gT];rfl
def acM{c:Nat}(aw:c<256):∀(l n i),(Lib.indexByte (cL l n) (UInt8.ofNat c)= -1/\∀k,Dt c l n i k=k m1)\/∃M,M<l/\Lib.indexByte (cL l n) (UInt8.ofNat c)=M/\∀k,Dt c l n i k=k (.int 3 (i+M))
 |0,n,i=>.inl ⟨rfl,λk=>rfl⟩
 |l+1,n,i=>by
  have hu:Lib.indexByte (cL (l+1) n) (UInt8.ofNat c)=if UInt8.ofNat (n % 256)==UInt8.ofNat c then 0 else if Lib.indexByte (cL l (n / 256)) (UInt8.ofNat c)== -1 then -1 else Lib.indexByte (cL l (n / 256)) (UInt8.ofNat c)+1:=rfl
  by_cases ax:n % 256=c
  .refine .inr ⟨0,Y,?_,λk=>?_⟩
   .rw[hu,b3 (by rw[ax];simp)];rfl
   .rw[Ug,cF.2 (show Nat.mod n 256=c from ax)];rfl
  .have dB:Nat.beq (Nat.mod n 256) c=false:=by
    cases av:Nat.beq (Nat.mod n 256) c with
    |false=>rfl
    |true=>exact absurd (cF.1 av) ax
   have zD:¬(UInt8.ofNat (n % 256)==UInt8.ofNat c)=true:=by rw[xe,Wc (nb _ ag) aw];exact ax
   rcases acM aw l (n / 256) (i+1) with⟨B,F⟩|⟨M,bb,B,F⟩
   .refine .inl ⟨?_,λk=>?_⟩
    .rw[hu,bA zD,B];rfl
    .rw[Ug,dB,mF,F]
   .refine .inr ⟨M+1,Y,?_,λk=>?_⟩
    .rw[hu,bA zD,B,bA (by rw[xe];omega)];rfl
    .rw[Ug,dB,mF,F,show i+1+M=i+(M+1) by omega]
noncomputable def Dv(aM cx:Nat)(len:Nat):Nat->Nat->(bl->Bool)->Bool:=
 Nat.rec (motive:=λ_=>Nat->Nat->(bl->Bool)->Bool) (λ_ i k=>a7 (Nat.beq aM 0) (k (.int 3 i)) (k m1))
  (λr bB n i k=>a7 (a7 (Nat.ble aM (Nat.succ r)) (Nat.beq (Nat.mod n (jO aM)) (Nat.mod cx (jO aM))) false) (k (.int 3 i)) (e5 (Nat.div n 256) λn=>e5 (Nat.succ i) λi=>bB n i k)) len
def Sl(aM cx l n i)(k):Dv aM cx (l+1) n i k=a7 (a7 (Nat.ble aM (l+1)) (Nat.beq (Nat.mod n (jO aM)) (Nat.mod cx (jO aM))) false) (k (.int 3 i)) (Dv aM cx l (n / 256) (i+1) k):=by show a7 _ _ (e5 (Nat.div n 256) λn=>e5 (Nat.succ i) λi=>Dv aM cx l n i k)=_;rw[gT,gT];rfl
def amf(aM cx l n):(cL aM cx).isPrefixOf (cL l n)=a7 (Nat.ble aM l) (Nat.beq (Nat.mod n (jO aM)) (Nat.mod cx (jO aM))) false:=by
 rw[Bool.eq_iff_iff,List.isPrefixOf_iff_prefix];constructor
 .intro h;have K:=h.length_le;rw[pP,pP] at K;rw[dn.2 K,fz,cF];have al:=List.prefix_iff_eq_take.1 h;rw[pP,<-Jw _ _ _ K] at al;exact((H3 aM cx n).1 al).symm
 .intro h;have⟨B,F⟩:=eH h;have K:=dn.1 B;rw[List.prefix_iff_eq_take,pP,<-Jw _ _ _ K];exact(H3 aM cx n).2 (cF.1 F).symm
def ZE(aM cx):∀(l n i),(Lib.index (cL l n) (cL aM cx)= -1/\∀k,Dv aM cx l n i k=k m1)\/∃M,M<=l/\Lib.index (cL l n) (cL aM cx)=M/\∀k,Dv aM cx l n i k=k (.int 3 (i+M))
 |0,n,i=>by
  have hu:Lib.index (cL 0 n) (cL aM cx)=if(cL aM cx).isEmpty then 0 else -1:=rfl
  cases aM with
  |zero=>exact .inr ⟨0,ez _,by rw[hu];rfl,λk=>rfl⟩
  |succ aM=>exact .inl ⟨by rw[hu];rfl,λk=>rfl⟩
 |l+1,n,i=>by
  have hu:Lib.index (cL (l+1) n) (cL aM cx)=if(cL aM cx).isPrefixOf (cL (l+1) n) then 0 else if Lib.index (cL l (n / 256)) (cL aM cx)== -1 then -1 else Lib.index (cL l (n / 256)) (cL aM cx)+1:=rfl
  rw[amf] at hu;cases ax:a7 (Nat.ble aM (l+1)) (Nat.beq (Nat.mod n (jO aM)) (Nat.mod cx (jO aM))) false with
  |true=>
   refine .inr ⟨0,Y,?_,λk=>?_⟩
   .rw[hu,b3 ax];rfl
   .rw[Sl,ax];rfl
  |false=>
   rw[bA (by rw[ax];exact x4)] at hu;rcases ZE aM cx l (n / 256) (i+1) with⟨B,F⟩|⟨M,bb,B,F⟩
   .refine .inl ⟨?_,λk=>?_⟩
    .rw[hu,B];rfl
    .rw[Sl,ax,mF,F]
   .refine .inr ⟨M+1,Y,?_,λk=>?_⟩
    .rw[hu,B,bA (by rw[xe];omega)];rfl
    .rw[Sl,ax,mF,F,show i+1+M=i+(M+1) by omega]
noncomputable def ajM:e0:=⟨λargs k=>kg args false λx l=>kg l false λy l=>kg l (hK x λlen n=>gy y λc b=>a7 (Nat.beq c 4) (a7 (Nat.blt b 256) (Dt b len n 0 k) false) false) λ_ _=>false⟩
noncomputable def alm:e0:=⟨λargs k=>kg args false λx l=>kg l false λy l=>kg l (hK x λlen n=>hK y λJt cx=>a7 (Nat.ble len 4294967280) (Dv Jt cx len n 0 k) false) λ_ _=>false⟩
noncomputable def acT(Jx G9 f:Nat):Option e0:=match Nat.beq f Jx,Nat.beq f G9 with
 |true,_=>some ajM
 |false,true=>some alm
 |false,false=>none
def LC{α}{l:List α}{k:α->List α->Bool}(h:kg l false k):∃x aM,l=x::aM/\k x aM:=by
 cases l with
 |nil=>cases h
 |cons x l=>exact⟨x,l,rfl,h⟩
def U9{α}{l:List α}{e}(h:(kg l e λ_ _=>false)):l=[]/\e:=by
 cases l with
 |nil=>exact⟨rfl,h⟩
 |cons x l=>cases h
section
variable{P:Program}{bI:World}
def asg{Jx G9 g:Nat}(EF:∃fn,P.funcs[Jx]?=some fn/\fn.body.isSome)(ajD:∃fn,P.funcs[G9]?=some fn/\fn.body.isSome)(im:∀(s)(c)(w),Calls P Jx #[.string s,.int .u8 c] w λe a8=>e=.returned (.int .i64 (Lib.indexByte s.data.toList c.toNat.toUInt8))/\a8=w)(Ke:∀(s sub)(m)(w),s.size<4294967281->w.cell? ⟨g,0,none⟩=some (.int .i64 m)->Calls P G9 #[.string s,.string sub] w λe a8=>e=.returned (.int .i64 (Lib.index s.data.toList sub.data.toList))/\a8=w)(hm:∃m,bI.cell? ⟨g,0,none⟩=some (.int .i64 m)):BB P bI (acT Jx G9):=by
 intro f e ar args k h;unfold acT at ar;have str:∀{aa:cE}{l n:Nat}{V:Value},bk aa (.str l n) V->l<=1152921504606846976/\V=.string ⟨(cL l n).toArray⟩:=λh=>by simpa only[bk] using h
 split at ar
 .rename_i aI;have aI:=cF.1 aI;subst aI;cases ar;obtain⟨x,l,rfl,h⟩:=LC h;obtain⟨y,l,rfl,h⟩:=LC h;obtain⟨rfl,h⟩:=U9 h;obtain⟨len,n,rfl,h⟩:=uC h;obtain⟨c,b,rfl,h⟩:=n9 h;have⟨aw,h⟩:=eH h;have aw:=cF.1 aw;subst aw;have⟨av,h⟩:=eH h;have av:=cZ.1 av;have⟨fn,g1,g2⟩:=EF;obtain⟨v,Pj,au⟩:∃v,k v=true/\∀aa:cE,len<=1152921504606846976->bk aa v (.int .i64 (Lib.indexByte (cL len n) (UInt8.ofNat b))):=by
   rcases acM av len n 0 with⟨bq,aS⟩|⟨M,bb,bq,aS⟩
   .rw[aS] at h;exact⟨_,h,λaa _=>by rw[bq];exact U8⟩
   .rw[aS] at h;exact⟨_,h,λaa K=>by rw[bq,jq];exact xm Y⟩
  refine⟨fn,v,g1,g2,Pj,λaa H w g0 cM R=>?_⟩;obtain⟨X,fX,rfl,ch,cM⟩:=cM.cons_inv;obtain⟨er,fX,rfl,i0,cM⟩:=cM.cons_inv;simp only[cK] at cM;subst cM;obtain⟨K,rfl⟩:=str ch;simp only[bk] at i0;obtain⟨_,_,rfl⟩:=i0;have es:dm 4 b=(b:Int):=ke av;rw[es];refine(im _ _ w).mono λe a8 bf=>?_;obtain⟨rfl,rfl⟩:=bf;have IX:((b:Int).toNat).toUInt8=UInt8.ofNat b:=rfl;refine⟨_,rfl,?_,R.rel,Step.refl _ _ _⟩;rw[IX];exact au aa K
 .rename_i aI;have aI:=cF.1 aI;subst aI;cases ar;obtain⟨x,l,rfl,B⟩:=LC h;obtain⟨y,l,rfl,F⟩:=LC B;obtain⟨rfl,ah⟩:=U9 F;obtain⟨len,n,rfl,aE⟩:=uC ah;obtain⟨Jt,cx,rfl,bt⟩:=uC aE;have⟨fy,bt⟩:=eH bt;have fy:=dn.1 fy;have⟨fn,g1,g2⟩:=ajD;obtain⟨v,Pj,au⟩:∃v,k v=true/\∀aa:cE,len<=1152921504606846976->bk aa v (.int .i64 (Lib.index (cL len n) (cL Jt cx))):=by
   rcases ZE Jt cx len n 0 with⟨bq,aS⟩|⟨M,bb,bq,aS⟩
   .rw[aS] at bt;exact⟨_,bt,λaa _=>by rw[bq];exact U8⟩
   .rw[aS] at bt;exact⟨_,bt,λaa K=>by rw[bq,jq];exact xm Y⟩
  refine⟨fn,v,g1,g2,Pj,λaa H w g0 cM R=>?_⟩;obtain⟨X,fX,rfl,ch,cM⟩:=cM.cons_inv;obtain⟨er,fX,rfl,i0,cM⟩:=cM.cons_inv;simp only[cK] at cM;subst cM;obtain⟨K,rfl⟩:=str ch;obtain⟨hJ,rfl⟩:=str i0;have⟨m,hm⟩:=hm;have agF:w.cell? ⟨g,0,none⟩=some (.int .i64 m):=by
   rw[<-hm];have aV:g<bI.heap.size:=by
    rcases l7 g bI.heap.size with h|h
    .exact h
    .have:bI.heap[g]?=none:=CO h;unfold World.cell? at hm;rw[this] at hm;cases hm
   have:=R.jr.same g aV;unfold World.cell?;rw[this]
  refine(Ke ⟨(cL len n).toArray⟩ ⟨(cL Jt cx).toArray⟩ m w ?_ agF).mono λe a8 bf=>?_
  .show(cL len n).toArray.size<_;rw[mN,pP];omega
  .obtain⟨rfl,rfl⟩:=bf;exact⟨_,rfl,au aa K,R.rel,Step.refl _ _ _⟩
 .cases ar
end
end Go.Ev
namespace Go.Ev
open Go Go.ChangeAt Go.ChangeShapes Go.RowKit
def SE(a):yD.get a=.none:=by
 unfold bd.get yD;cases Nat.blt a 32768
 .rfl
 .simp only[F4,cS.Zh]
def amC(w):gQ w (λ_=>none) yD w:=by refine⟨⟨ag,λa x h=>absurd h (by simp),λa _=>by rw[SE];trivial,λa bF _ _ h=>by rw[SE] at h;cases h⟩,⟨ez _,λ_ _=>rfl,λb h=>?_,rfl,rfl,rfl⟩⟩;have⟨a,_,K,_⟩:=h;rw[SE] at K;cases K
noncomputable def Rr(r:r9):Bool:=Ac r (λv=>mi v λb=>b) (λ_=>false)
def akT(P:Program):Bool:=P.funcs.toList.all λfn=> !fn.body.isSome|| !(fn.name== "runtime.NumGoroutine")
variable{H ct:bd}{d jx:Nat}
def are{P}(h:akT P):oV P:=by intro f fn aI av;have:=f0.1 h fn (uo (by rw[x3];exact aI));rw[av] at this;simpa using this
section
variable{H:Type}{ar4:TypeId×Value->H}
end
noncomputable def ake:e0:=⟨λargs k=>kg args (k (.bool true)) λ_ _=>false⟩
noncomputable def aaH(Ng:Nat)(ext:Nat->Option e0)(f:Nat):Option e0:=match Nat.beq f Ng with
 |true=>some ake
 |false=>ext f
def J0(w:World)(g:Nat):Prop:=∃m,w.cell? ⟨g,0,none⟩=some (.int .i64 m)
section
variable{P:Program}
def J0.jr{bI g w}(h:J0 bI g)(ak:∀b,b<bI.heap.size->w.heap[b]?=bI.heap[b]?):J0 w g:=by
 have⟨m,hm⟩:=h;have aV:g<bI.heap.size:=by
  rcases l7 g bI.heap.size with h|h
  .exact h
  .have:bI.heap[g]?=none:=CO h;unfold World.cell? at hm;rw[this] at hm;cases hm
 refine⟨m,?_⟩;rw[<-hm];unfold World.cell?;rw[ak g aV]
def aqU(hm:P.follows .mixedOrders)(aB:oV P){Ng g n}{E}{ext}(uK:∀w,J0 w g->BB P w ext)(h:UH (LA P) E ext n Ng [] yD (λr _=>Rr r)):∀w,J0 w g->BB P w (aaH Ng ext):=by
 rw[ag1] at h;intro bI Qc f e ar args k az;unfold aaH at ar;split at ar
 .rename_i aI;have aI:=cF.1 aI;subst aI;cases ar;obtain⟨rfl,az⟩:=U9 (show(kg args (k (.bool true)) λ_ _=>false)=true from az);have⟨fn,B,F,ah⟩:=SK hm aB (uK bI Qc) n f [] yD _ h;refine⟨fn,.bool true,B,F,az,λaa H w g0 cM R=>?_⟩;have bx:=Qc.jr R.jr.same;have⟨_,_,_,ah⟩:=SK hm aB (uK w bx) n f [] yD _ h;simp only[cK] at cM;subst cM;refine(ah (λ_=>none) w [] cK.nil (amC w)).mono λe a8 mM=>?_;have⟨bD,aq,dc,cl,hD⟩:=mM;have bP:=dc.jr;cases e with
  |returned V=>have⟨v,lS,oo⟩:=hD;obtain⟨b,rfl,av⟩:=Ak (show mi v (λb=>b)=true from oo);subst av;simp only[bk] at lS;subst lS;refine⟨_,rfl,kM true,⟨R.rel.next,R.rel.pH,λa aD=>(R.rel.obj a aD).mono (cE.le_refl _) λb ca K ad=>bP.same b (R.rel.Oo ⟨a,aD,K,ca,ad⟩),R.rel.inj⟩,?_⟩;exact⟨cE.le_refl _,λ_ _=>rfl,ez _,bP.size,λb av _=>bP.same b av,λb av=>.inr av,λ_ _ aJ=>aJ,bP.tape,bP.os,bP.output⟩
  |panicked KH=>have⟨v,V,_,_,oo⟩:=hD;exact bS oo
  |outgrown=>exact hD.elim
 .exact uK bI Qc f e ar args k az
end
def aqO{x m:Int}(I:¬Int.tmod x m<0)(hm:0<m):Int.tmod x m=x % m:=by
 have F:x % m=Int.tmod x m % m:=by
  conv=>lhs;rw[<-Int.mul_tdiv_add_tmod x m]
  rw[Int.add_comm,Int.add_mul_emod_self_left]
 have ah:Int.tmod x m<m:=Int.tmod_lt_of_pos x hm;rw[F,uP Y ah]
def tmod_neg{x m:Int}(I:Int.tmod x m<0)(hm:0<m):Int.tmod x m+m=x % m:=by
 have F:x % m=Int.tmod x m % m:=by
  conv=>lhs;rw[<-Int.mul_tdiv_add_tmod x m]
  rw[Int.add_comm,Int.add_mul_emod_self_left]
 have ah: - m<Int.tmod x m:=by have:=Int.lt_tmod_of_pos x hm;omega
 rw[F,<-Int.add_emod_right,uP Y Y]
section
variable{P:Program}{bI:World}
end
section
variable{P:Program}{bI:World}
end
structure Ep where
 f:cv->bd->(bl->bd->Bool)->Bool
noncomputable def Cx(P:dy)(E:Nat->aO)(ext:Nat->Option e0)(X:Nat->Option Ep):Nat->cG:=
 NC λn call f args H k=>match X f with
  |some ⟨x⟩=>x args H λv H=>k (.val v) H
  |none=>(xR P E ext f).f n call args H k
def acz(P:Program)(bI:World)(X:Nat->Option Ep):Prop:=∀(f:Nat)(e:Ep),X f=some e->∀(args:cv)(H:bd)(k:bl->bd->Bool),e.f args H k=true->
 ∃fn,P.funcs[f]?=some fn/\fn.body.isSome=true/\∀(aa:cE)(w:World)(g0:lh),cK aa args g0->gQ bI aa H w->
  Calls P f (List.toArray g0) w λe a8=>∃V bD v ct,e=.returned V/\k v ct=true/\bk bD v V/\Rel bD ct a8/\Step aa H w bD ct a8
section
variable{P:Program}{E:Nat->aO}{bI:World}
def aiH(hm:P.follows .mixedOrders)(aB:oV P){ext}(uK:BB P bI ext){X}(ch:acz P bI X):∀n,qx P bI (Cx P E ext X n)
 |0=>λf args H k h=>bS h
 |n+1=>by
  have base:=Wz (E:=E) hm aB uK (n:=n) (aiH hm aB uK ch n);intro f args H k h;unfold Cx at h;rw[OT] at h;have base:(xR P E ext f).f n (Cx P E ext X n) args H k=true->_:=base f args H k;cases I:X f with
  |none=>rw[I] at h;exact base h
  |some e=>rw[I] at h;have⟨fn,B,F,aE⟩:=ch f e I args H (λv H=>k (.val v) H) h;refine⟨fn,B,F,λaa w g0 cM R=>(aE aa w g0 cM R).mono λe a8 mM=>?_⟩;obtain⟨V,bD,v,ct,rfl,ah,au,dc,cl⟩:=mM;exact⟨bD,ct,⟨dc,R.jr.step cl⟩,cl,v,au,ah⟩
end
def wW{a b}(h:a<b):Nat.blt a b:=cZ.2 h
def wO{a b:Nat}(h:a<=b):Nat.ble a b:=dn.2 h
def aor{a b:Nat}(h:b<a):Nat.ble a b=false:=by
 cases e:Nat.ble a b with
 |false=>rfl
 |true=>have:=dn.1 e;omega
def fY{a b:Nat}(h:a=b):Nat.beq a b:=cF.2 h
def tO{a b:Nat}(h:a≠b):Nat.beq a b=false:=by
 cases e:Nat.beq a b with
 |false=>rfl
 |true=>exact absurd (cF.1 e) h
@[simp] def zk(c n)(k):gy (.int c n) k=k c n:=rfl
@[simp] def TE(b)(k):mi (.bool b) k=k b:=rfl
@[simp] def vO(l n)(k):hK (.str l n) k=k l n:=rfl
@[simp] def asv(a i l c)(u)(z)(k):Ab (.slice a i l c u z) k=k a i l c u z:=rfl
@[simp] def yF(a i l c)(u)(z)(gX)(k):tw (.slice a i l c u z) gX k=k a i l c u z:=rfl
@[simp] def Ef(gX)(k):tw (.nil .s) gX k=gX:=rfl
@[simp] def asD(a)(k):ako (.map a) k=k a:=rfl
@[simp] def arE(f)(x y)(k):BK (.fn f x y) k=k f x y:=rfl
@[simp] def asy(n)(l)(k):vA (.agg n l) k=k n l:=rfl
@[simp] def afU(l)(k):Bt (.eJ l) k=k l:=rfl
@[simp] def arV(n)(l)(cq)(jL):q6 (.agg n l) cq jL=jL n l:=rfl
@[simp] def asx(c n)(cq)(jL):q6 (.int c n) cq jL=cq:=rfl
@[simp] def arO(l n)(cq)(jL):q6 (.str l n) cq jL=cq:=rfl
@[simp] def aq6(b)(cq)(jL):q6 (.bool b) cq jL=cq:=rfl
@[simp] def ary(a)(cq)(jL):q6 (.map a) cq jL=cq:=rfl
@[simp] def arv(V)(cq)(jL):q6 (.pw V) cq jL=cq:=rfl
@[simp] def aqW(c)(cq)(jL):q6 (.nil c) cq jL=cq:=rfl
@[simp] def arw(a i l c)(u)(z)(cq)(jL):q6 (.slice a i l c u z) cq jL=cq:=rfl
@[simp] def aqY(b)(ta)(xI):HP (.bool b) ta xI=ta b:=rfl
@[simp] def ase(ta)(xI):HP .undef ta xI=xI:=rfl
@[simp] def aq7(a r s z)(k):BY (.ptr a r s z) k=k:=rfl
@[simp] def arQ(es)(sI)(k):ahv (.map es sI) k=k es sI:=rfl
@[simp] def asS(n b)(k):od (.int 3 n) b k=a7 (Nat.blt n b) (k n) false:=rfl
@[simp] def arx(n b)(k):U5 (.int 3 n) b k=a7 (Nat.blt n b) (k n) false:=rfl
@[simp] def asc(r)(i):(Rows.fG r).row i=r:=rfl
@[simp] def asq(r)(k):rowAt (.fG r) 0 k=k r:=rfl
def bd.add(H:bd)(D:gB):bd:={(H.put H.next D) with next:=H.next+1}
def OQ{D k}(h:eR H.next):sJ H D k=k H.next (H.add D):=by simp only[sJ,Hz];rw[SX];rfl
@[simp] def bd.arz(H:bd)(D):(H.add D).next=H.next+1:=rfl
@[simp] def bd.asp(H:bd)(a)(D):(H.put a D).next=H.next:=rfl
def bd.Ul{H:bd}{D}{a}(h:eR H.next)(aD:eR a):(H.add D).get a=if a=H.next then D else H.get a:=by show(H.put H.next D).get a=_;exact bd.nG H _ _ D h aD
def bd.aef{H:bd}{D}{a}(h:eR H.next)(aD:a<H.next):(H.add D).get a=H.get a:=by rw[bd.Ul h Y,bA Y]
def bd.ah6{H:bd}{D}(h:eR H.next):(H.add D).get H.next=D:=by rw[bd.Ul h h,b3 rfl]
def bd.Nl{H:bd}{D}{a}(h:eR a):(H.put a D).get a=D:=by rw[bd.nG H a a D h h,b3 rfl]
def bd.si{H:bd}{D}{a bF}(h:eR a)(b5:eR bF)(dB:bF≠a):(H.put a D).get bF=H.get bF:=by rw[bd.nG H a bF D h b5,bA dB]
structure aj(H aq:bd)(d:Nat):Prop where
 next:H.next<=aq.next
 le:aq.next<=H.next+d
 same:∀a,a<H.next->aq.get a=H.get a
def aj.refl(H)(d):aj H H d:=⟨ez _,Y,λ_ _=>rfl⟩
def aj.trans{hM}(h:aj H ct d)(b5:aj ct hM jx):aj H hM (d+jx):=
 ⟨mq h.next b5.next,by have:=h.le;have:=b5.le;omega,λa aD=>(b5.same a (nV aD h.next)).trans (h.same a aD)⟩
def aj.mono(h:aj H ct d)(aJ:d<=jx):aj H ct jx:=⟨h.next,by have:=h.le;omega,h.same⟩
def aj.add{H}(D)(h:eR H.next):aj H (H.add D) 1:=⟨by simp,by simp,λa aD=>bd.aef h aD⟩
def aj.put{H ct}{d a}{D}(h:aj H ct d)(aD:H.next<=a)(K:eR a):aj H (ct.put a D) d:=
 ⟨h.next,h.le,λb av=>by rw[bd.si K Y Y];exact h.same b av⟩
section
variable{P:Program}{E:Nat->aO}{ext:Nat->Option e0}{X:Nat->Option Ep}
end
def adn{T b}(h:T.ae=[]):s5 T b=b:=by unfold s5;rw[h];rfl
@[simp] def aqX{α}(a)(l:List α)(e)(k:α->List α->Bool):kg (a::l) e k=k a l:=rfl
def D0(n)(l:cv)(k):jR (.agg n l) n k=k l:=by show a7 (Nat.beq n n) (k l) false=k l;rw[fY rfl];rfl
end Go.Ev
