/- Part of the proof of PrinterLines. -/
import Derived.Recover
import Derived.Test.YtddaefckjmdfoaaGreatDoorE6
set_option linter.all false
namespace Go.Ev
open Go
section
variable{P:Program}{es:aO}{aP:Nat}{bI:World}
variable{H ct:bd}{L:cv}{bZ:Exit->Act->World->Prop}{T:b4}{a:Act}{call:cG}{ae:dv}{i:Nat}{k:b4->bd->Bool}{aU:b4->bl->bd->Bool}{D:Oper}{an:Array Oper}{r:rB}{iO:aO}{w dg:World}{aa nN:cE}
def agn{k aU}(R:gQ bI aa H w)(f5:qx P bI call)(aB:oV P)(h:(oi P es ae D.op).f call L T H k aU=true)(dT:∀x∈D.op.operands.toList,i1 aa es ae L T a x):Ol P bI aa H w D a k aU:=by
 unfold oi at h;split at h
 .split at h;rename_i f aI;have b5:(sY P es ae D.op).f L T (λv=>k v H)=true:=by rw[aI];exact h
  have⟨v,V,B,F,ah⟩:=Yq b5 dT;exact sd.out R ⟨aa,H,v,V,w,B,F,R.rel,Step.refl _ _ _,.inl (ah w)⟩
 .split at h;rename_i f aI;have b5:(xz P es ae D.op).f L T (λbH v=>sJ H bH λa H=>k (v a) H)=true:=by rw[aI];exact h
  have⟨bH,gb,B,F,ah⟩:=acE b5;have⟨obj,ca,p2,aE,bt⟩:=ah aa a dT;have⟨bD,aq,g1,g2,g3,g4⟩:=aaU R.rel aE B;exact sd.out R ⟨bD,aq,_,_,_,g1,g2,g3,g4,.inl (bt w)⟩
 .split at h;rename_i f aI;have b5:(hN P es ae D.op).f call L T H k aU=true:=by rw[aI];exact h
  exact Zd R f5 aB b5 dT
def t6(bZ:Exit->Act->World->Prop)(bI:World)(es:aO)(aP:Nat)(aa:cE)(H:bd)(w:World)(k:b4->bd->Bool):Prop:=
 ∀bD aq cO bF a8,TR bD es aP cO bF->gQ bI bD aq a8->Step aa H w bD aq a8->k cO aq=true->bZ .normal bF a8
def wk(bZ:Exit->Act->World->Prop)(bI:World)(es:aO)(aP:Nat)(aa:cE)(H:bd)(w:World)(aU:b4->bl->bd->Bool):Prop:=
 ∀bD aq cO bF v V a8,TR bD es aP cO bF->gQ bI bD aq a8->Step aa H w bD aq a8->bk bD v V->aU cO v aq=true->bZ (.panic [{v:=V,recovered:=false}]) bF a8
def t6.step(h:t6 bZ bI es aP aa H w k)(s:Step aa H w nN ct dg):t6 bZ bI es aP nN ct dg k:=
 λbD aq cO bF a8 B F ah aE=>h bD aq cO bF a8 B F (s.trans ah) aE
def wk.step(h:wk bZ bI es aP aa H w aU)(s:Step aa H w nN ct dg):wk bZ bI es aP nN ct dg aU:=
 λbD aq cO bF v V a8 B F ah aE bt=>h bD aq cO bF v V a8 B F (s.trans ah) aE bt
def og(P:Program)(an:Array Oper)(bZ:Exit->Act->World->Prop):aO->Act->World->Prop
 |[],a,w=>bZ .normal a w
 |i::iO,a,w=>
  match an[i]? with
  |none=>og P an bZ iO a w
  |some D=>if Region.wanted D (yielded an a.tmps) then D.wp P a w (og P an bZ iO) bZ else og P an bZ iO (a.put D.dst undef) w
def Lv:∀(l)(a)(w),og P an bZ l a w->wpOps P an bZ l a w
 |[],_,_,h=>h
 |i::iO,a,w,h=>by
  unfold og at h;unfold wpOps;split at h
  .rename_i ay;simp only[ay];exact Lv iO a w h
  .rename_i D ay;simp only[ay];split at h
   .rename_i bx;rw[b3 bx];exact .inl (Oper.wp_mono (λa w=>Lv iO a w) h)
   .rename_i bx;rw[bA bx];exact Lv iO _ _ h
def ON{bZ d8}:∀(l)(a)(w),og P an (λe a w=>bZ e a d8 w) l a w->wpOpsS P an bZ l a d8 w
 |[],_,_,h=>h
 |i::iO,a,w,h=>by
  unfold og at h;unfold wpOpsS;split at h
  .rename_i ay;simp only[ay];exact ON iO a w h
  .rename_i D ay;simp only[ay];split at h
   .rename_i bx;rw[b3 bx];have h:=Oper.wp_mono (λa w=>ON iO a w) h;unfold Oper.wp at h;split
    .rename_i a8 ad;rw[ad] at h;exact h.elim
    .exact h
   .rename_i bx;rw[bA bx];exact ON iO _ _ h
def aac(ay:an[i]?=some D)(bx:Region.wanted D (yielded an a.tmps))(h:D.wp P a w (og P an bZ iO) bZ):og P an bZ (i::iO) a w:=by simp only[og,ay,bx,nI];exact h
def als(ay:an[i]?=some D)(bx:Region.wanted D (yielded an a.tmps)=false)(h:og P an bZ iO (a.put D.dst undef) w):og P an bZ (i::iO) a w:=by simp only[og,ay,bx,n1,md];exact h
def Kv(P:Program)(bI:World)(es:aO)(aP:Nat)(an:Array Oper)(call:cG)(iO:aO)(ae:dv)(r:rB):Prop:=
 ∀(aa:cE)(H:bd)(w:World)(L:cv)(T:b4)(a:Act)(k:b4->bd->Bool)(aU:b4->bl->bd->Bool)(bZ:Exit->Act->World->Prop),gQ bI aa H w->ll aa es aP ae L T a->
  r.f call L T H k aU=true->t6 bZ bI es aP aa H w k->wk bZ bI es aP aa H w aU->og P an bZ iO a w
def ZA{an}{call}{iO}{ae:dv}{s}{r}{D:Oper}(ad:Kv P bI es aP an call iO (D.dst::ae) r){aa}{H}{w}{L}{T}{a}{k}{aU}{bZ}(bv:ll aa es aP ae L T a)(h:(after es aP D.dst s r).f call L T H k aU)(B:t6 bZ bI es aP aa H w k)(F:wk bZ bI es aP aa H w aU):∃c8,s.f call L T H c8 (aU T)/\∀bD aq v V a8,gQ bI bD aq a8->Step aa H w bD aq a8->bk bD v V->c8 v aq->og P an bZ iO (a.put D.dst V) a8:=by
 unfold after at h;have⟨s⟩:=s;have⟨r⟩:=r;generalize aJ:D.dst=pU at h ad;cases pU with
 |none=>
  refine⟨_,h,λbD aq v V a8 bq aS bU cU=>?_⟩;refine ad bD aq a8 _ T _ k aU bZ bq ?_ cU (B.step aS) (F.step aS);exact⟨⟨bv.size,λt s x y=>bk.mono aS.le _ _ (bv.tmp t s x y),bv.defers.mono aS.le⟩,by simp [bv.len],λt i aH=>by
   simp only[jp] at aH;cases ax:jp t ae with
   |none=>rw[ax] at aH;cases aH
   |some M=>rw[ax] at aH;simp at aH;subst aH;exact bk.mono aS.le _ _ (bv.loc t M ax)⟩
 |some d=>
  simp only at h;split at h
  .rename_i av aH;refine⟨_,h,λbD aq v V a8 bq aS bU cU=>?_⟩;exact ad bD aq a8 _ T _ k aU bZ bq ((bv.mono aS.le).acY (cZ.1 av) aH bU) cU (B.step aS) (F.step aS)
  .rename_i i av aH;split at h
   .rename_i N ak hp;refine⟨_,h,λbD aq v V a8 bq aS bU cU=>?_⟩;have eI:(xZ i).N T v (λT=>r call (v::L) T aq k aU)=true:=by rw[hp];exact cU
    rw[JN] at eI;exact ad bD aq a8 _ _ _ k aU bZ bq ((bv.mono aS.le).akb (cZ.1 av) aH (cZ.1 ak) bU) eI (B.step aS) (F.step aS)
   .exact bS h
  .exact bS h
def VV(f5:qx P bI call)(aB:oV P)(ay:an[i]?=some D)(ad:Kv P bI es aP an call iO (D.dst::ae) r)(R:gQ bI aa H w)(bv:ll aa es aP ae L T a)(h:(after es aP D.dst (oi P es ae D.op) r).f call L T H k aU)(B:t6 bZ bI es aP aa H w k)(F:wk bZ bI es aP aa H w aU)(bx:Region.wanted D (yielded an a.tmps)):og P an bZ (i::iO) a w:=by have⟨c8,g1,g2⟩:=ZA ad bv h B F;exact aac ay bx (agn R f5 aB g1 (λx _=>bv.wj x) _ _ g2 λbD aq v V a8 bq aS bU cU=>F bD aq T a v V a8 (bv.toTR.mono aS.le) bq aS bU cU)
def ajF(ay:an[i]?=some D)(ad:Kv P bI es aP an call iO (D.dst::ae) r)(R:gQ bI aa H w)(bv:ll aa es aP ae L T a)(h:(after es aP D.dst Jk r).f call L T H k aU)(B:t6 bZ bI es aP aa H w k)(F:wk bZ bI es aP aa H w aU)(bx:Region.wanted D (yielded an a.tmps)=false):og P an bZ (i::iO) a w:=by have⟨c8,g1,g2⟩:=ZA (s:=Jk) ad bv h B F;exact als ay bx (g2 aa H .undef undef w R (Step.refl _ _ _) DN g1)
def anC{D}{c}{f}(ay:D.op=.defer c)(aw:c.callee=.value f)(aa){g:Nat}{X er}(aI:aa f=.func (.func g) X er)(w):(execOp aa D).run P w=.ok (.defer {target:=.fn (.func g) er,args:=X++c.args.map aa}) w:=by unfold execOp;rw[ay];show(do pure (.defer (<-resolve aa c D.type)):Sem Next).run P w=_;rw[eU];unfold resolve;rw[aw];simp only[Deferred.ofValue,aI,eB,ff]
def Tl(f5:qx P bI call)(aB:oV P):∀(l)(i)(ae),(∀M D,l[M]?=some D->an[i+M]?=some D)->Kv P bI es aP an call (List.range' i l.length) ae (uv P es aP an ae l)
 |[],i,ae,K=>by intro aa H w L T a k aU bZ R bv h B F;exact B aa H T a w bv.toTR R (Step.refl _ _ _) h
 |D::l,i,ae,K=>by
  intro aa H w L T a k aU bZ R bv h B F;have ay:an[i]?=some D:=by simpa using K 0 D rfl
  have hJ:∀M D,l[M]?=some D->an[(i+1)+M]?=some D:=λM D bb=>by have:=K (M+1) D (by simpa using bb);have e:i+(M+1)=i+1+M:=Y;rwa [e] at this
  have bB:=λae=>Tl f5 aB l (i+1) ae hJ;show og P an bZ (i::List.range' (i+1) l.length) a w;unfold uv at h;split at h
  .rename_i c dT;split at h
   .rename_i br aJ;have Ch:=bB (none::ae);have bx:Region.wanted D (yielded an a.tmps)=true:=by unfold Region.wanted;rw[br]
    unfold ach at h;split at h
    .rename_i f aw;generalize uv P es aP an (none::ae) l=r at h Ch;have⟨r⟩:=r;split at h;rename_i pz da gC Yk has fN;cases fN;have⟨g,bY,bJ,e,ah⟩:=adu h;rw[qM] at ah;have aI:=bv.wj f;unfold i1 at aI;rw[Yk] at aI;simp only at aI;rw[e] at aI;simp only[bk] at aI;have⟨x8,yh,bq,aS,bU⟩:=aI;have q2:=JL (es:=es) (ae:=ae) (L:=L) (T:=T) (aa:=aa) (a:=a) (l:=c.args.toList) λx _=>bv.wj x;rw[has] at q2;refine aac ay bx ?_;unfold Oper.wp;rw[anC dT aw a.eval bq];show og P an bZ (List.range' (i+1) l.length) (Act.put _ D.dst undef) w;rw[aJ];refine Ch aa H w _ _ _ k aU bZ R ?_ ah B F;refine⟨⟨bv.size,bv.tmp,?_⟩,by simp [bv.len],λt i aH=>?_⟩
     .refine⟨_,_,rfl,⟨x8++c.args.toList.map a.eval,yh,?_,aS.append q2,bU⟩,bv.defers⟩;congr 1;apply Array.ext';simp
     .simp only[jp] at aH;cases ax:jp t ae with
      |none=>rw[ax] at aH;cases aH
      |some M=>rw[ax] at aH;simp at aH;subst aH;exact bv.loc t M ax
    .exact bS h
   .exact bS h
  .rename_i op ael;have Ch:=bB (D.dst::ae);generalize uv P es aP an (D.dst::ae) l=r at h Ch;cases br:D.guard with
   |none=>
    rw[br] at h;have bx:Region.wanted D (yielded an a.tmps)=true:=by unfold Region.wanted;rw[br]
    exact VV f5 aB ay Ch R bv h B F bx
   |some JW=>
    have⟨M,k2⟩:=JW;rw[br] at h;simp only at h;cases aJ:(an[M]?).bind (·.dst) with
    |none=>rw[aJ] at h;exact bS h
    |some d=>
     rw[aJ] at h;simp only at h;have⟨dg,ej⟩:=GW (D:=D) br aJ (bv.NG d);generalize arX:ki es ae d=g at h dg ej;generalize ap:after es aP D.dst (oi P es ae D.op) r=y at h;generalize iI:after es aP D.dst Jk r=no at h;have⟨g⟩:=g;have⟨y⟩:=y;have⟨no⟩:=no;have yes:y call L T H k aU=true->Region.wanted D (yielded an a.tmps)=true->og P an bZ (i::List.range' (i+1) l.length) a w:=λbq aS=>VV f5 aB ay Ch R bv (by rw[ap];exact bq) B F aS;have MH:no call L T H k aU=true->Region.wanted D (yielded an a.tmps)=false->og P an bZ (i::List.range' (i+1) l.length) a w:=λbq aS=>ajF ay Ch R bv (by rw[iI];exact bq) B F aS;cases k2 with
     |true=>
      rcases E3 h with⟨b,e,ah⟩|⟨e,ah⟩
      .rcases ic ah with⟨av,aE⟩|⟨av,aE⟩
       .exact yes aE (by rw[dg b e,av];rfl)
       .exact MH aE (by rw[dg b e,av];rfl)
      .exact MH ah (ej e)
     |false=>
      rcases E3 h with⟨b,e,ah⟩|⟨e,ah⟩
      .rcases ic ah with⟨av,aE⟩|⟨av,aE⟩
       .exact MH aE (by rw[dg b e,av];rfl)
       .exact yes aE (by rw[dg b e,av];rfl)
      .exact MH ah (ej e)
end
def aA{α:Type}(aX:(α->Bool)->Bool):Prop:=(∀k,aX k=false)\/∃v,∀k,aX k=k v
section
variable{α:Type}
def aA.fail:aA (λ_:α->Bool=>false):=.inl λ_=>rfl
def aA.ret(v):aA (λk:α->Bool=>k v):=.inr ⟨v,λ_=>rfl⟩
def aA.gy{v}{G:Nat->Nat->(α->Bool)->Bool}(h:∀c n,aA (G c n)):aA (λk=>Ev.gy v λc n=>G c n k):=by cases v<;>first|exact aA.fail|exact h _ _
def aA.AS{v}{aX:Nat->Nat->(α->Bool)->Bool}{G:Nat->Nat->Nat->(α->Bool)->Bool}(cb:∀c n,aA (aX c n))(h:∀a b c,aA (G a b c)):aA (λk=>Ev.AS v (λc n=>aX c n k) λa b c=>G a b c k):=by cases v<;>first|exact aA.fail|exact cb _ _|exact h _ _ _
def aA.mi{v}{G:Bool->(α->Bool)->Bool}(h:∀c,aA (G c)):aA (λk=>Ev.mi v λc=>G c k):=by cases v<;>first|exact aA.fail|exact h _
def aA.hK{v}{G:Nat->Nat->(α->Bool)->Bool}(h:∀c n,aA (G c n)):aA (λk=>Ev.hK v λc n=>G c n k):=by cases v<;>first|exact aA.fail|exact h _ _
def aA.sA{v}{G:Nat->Nat->Nat->Nat->(α->Bool)->Bool}(h:∀a b c d,aA (G a b c d)):aA (λk=>Ev.sA v λa b c d=>G a b c d k):=by cases v<;>first|exact aA.fail|exact h _ _ _ _
def aA.Ab{v}{G:Nat->Nat->Nat->Nat->Bool->Nat->(α->Bool)->Bool}(h:∀a b c d e f,aA (G a b c d e f)):aA (λk=>Ev.Ab v λa b c d e f=>G a b c d e f k):=by cases v<;>first|exact aA.fail|exact h _ _ _ _ _ _
def aA.En{c}{G:(α->Bool)->Bool}(h:aA G):aA (λk=>Ev.En c (G k)):=by cases c<;>first|exact aA.fail|exact h
def aA.Ee{c}{G:(α->Bool)->Bool}(h:aA G):aA (λk=>Ev.Ee c (G k)):=by cases c<;>first|exact aA.fail|exact h
def aA.LJ{c}{G:(α->Bool)->Bool}(h:aA G):aA (λk=>Ev.LJ c (G k)):=by cases c<;>first|exact aA.fail|exact h
def aA.KX{c}{G:(α->Bool)->Bool}(h:aA G):aA (λk=>Ev.KX c (G k)):=by cases c<;>first|exact aA.fail|exact h
def aA.Nw{c}{G:(α->Bool)->Bool}(h:aA G):aA (λk=>Ev.Nw c (G k)):=by cases c<;>first|exact aA.fail|exact h
def aA.tw{v}{aX}{G:Nat->Nat->Nat->Nat->Bool->Nat->(α->Bool)->Bool}(cb:aA aX)(h:∀a b c d e f,aA (G a b c d e f)):aA (λk=>Ev.tw v (aX k) λa b c d e f=>G a b c d e f k):=by cases v<;>first|exact aA.fail|exact h _ _ _ _ _ _|exact aA.En cb
def aA.Gn{v}{G:Nat->bl->(α->Bool)->Bool}(h:∀a b,aA (G a b)):aA (λk=>Ev.Gn v λa b=>G a b k):=by cases v<;>first|exact aA.fail|exact h _ _
def aA.HC{v}{aX}{G:Nat->bl->(α->Bool)->Bool}(cb:aA aX)(h:∀a b,aA (G a b)):aA (λk=>Ev.HC v (aX k) λa b=>G a b k):=by cases v<;>first|exact aA.fail|exact h _ _|exact aA.Ee cb
def aA.vA{v}{G:Nat->cv->(α->Bool)->Bool}(h:∀a b,aA (G a b)):aA (λk=>Ev.vA v λa b=>G a b k):=by cases v<;>first|exact aA.fail|exact h _ _
def aA.Bt{v}{G:cv->(α->Bool)->Bool}(h:∀a,aA (G a)):aA (λk=>Ev.Bt v λa=>G a k):=by cases v<;>first|exact aA.fail|exact h _
def aA.BY{v}{G:(α->Bool)->Bool}(h:aA G):aA (λk=>Ev.BY v (G k)):=by cases v<;>first|exact aA.fail|exact h
def aA.q6{v:bl}{aX:(α->Bool)->Bool}{G:Nat->cv->(α->Bool)->Bool}(cb:aA aX)(h:∀a b,aA (G a b)):aA (λk=>Ev.q6 v (aX k) λa b=>G a b k):=by cases v<;>first|exact aA.fail|exact h _ _|exact cb
def aA.Fu{v:bl}{aX G:(α->Bool)->Bool}(cb:aA aX)(h:aA G):aA (λk=>Ev.Fu v (aX k) (G k)):=by cases v<;>first|exact aA.fail|exact h|exact aA.LJ cb
def aA.FE{v:bl}{aX G:(α->Bool)->Bool}(cb:aA aX)(h:aA G):aA (λk=>Ev.FE v (aX k) (G k)):=by cases v<;>first|exact aA.fail|exact h|exact aA.En cb
def aA.FQ{v:bl}{aX G:(α->Bool)->Bool}(cb:aA aX)(h:aA G):aA (λk=>Ev.FQ v (aX k) (G k)):=by cases v<;>first|exact aA.fail|exact h|exact aA.KX cb
def aA.Fw{v:bl}{aX G:(α->Bool)->Bool}(cb:aA aX)(h:aA G):aA (λk=>Ev.Fw v (aX k) (G k)):=by cases v<;>first|exact aA.fail|exact h|exact aA.Nw cb
def aA.D4{v:bl}{aX G:(α->Bool)->Bool}(cb:aA aX)(h:aA G):aA (λk=>Ev.D4 v (aX k) (G k)):=by cases v<;>first|exact aA.fail|exact h|exact aA.Ee cb
def aA.a7{b:Bool}{aX G:(α->Bool)->Bool}(cb:aA aX)(h:aA G):aA (λk=>Ev.a7 b (aX k) (G k)):=by cases b<;>assumption
theorem aA.e5{n:Nat}{G:Nat->(α->Bool)->Bool}(h:∀n,aA (G n)):aA (λk=>Ev.e5 n λn=>G n k):=by
 have e:(λk=>Ev.e5 n λn=>G n k)=G n:=by funext k;rw[gT]
 rw[e];exact h n
theorem aA.lX{b:Bool}{G:Bool->(α->Bool)->Bool}(h:∀b,aA (G b)):aA (λk=>Ev.lX b λb=>G b k):=by
 have e:(λk=>Ev.lX b λb=>G b k)=G b:=by funext k;rw[ri]
 rw[e];exact h b
theorem aA.pc{gd:Type}{l:List gd}{n:Nat}{G:List gd->(α->Bool)->Bool}(h:∀l,aA (G l)):aA (λk=>Ev.pc l n λl=>G l k):=by
 by_cases aB:n<=l.length
 .have e:(λk=>Ev.pc l n λl=>G l k)=G (l.drop n):=by funext k;rw[wo aB]
  rw[e];exact h _
 .refine .inl λk=>?_;cases ax:Ev.pc l n λl=>G l k with
  |false=>exact ax
  |true=>exact absurd (Bz ax).1 aB
theorem aA.rN{gd:Type}{l:List gd}{n:Nat}{G:List gd->(α->Bool)->Bool}(h:∀l,aA (G l)):aA (λk=>Ev.rN l n λl=>G l k):=by
 by_cases aB:n<=l.length
 .have e:(λk=>Ev.rN l n λl=>G l k)=G (l.take n):=by funext k;rw[xJ aB]
  rw[e];exact h _
 .refine .inl λk=>?_;cases ax:Ev.rN l n λl=>G l k with
  |false=>exact ax
  |true=>exact absurd (Iq ax).1 aB
theorem aA.nx{gd:Type}{l m:List gd}{G:List gd->(α->Bool)->Bool}(h:∀l,aA (G l)):aA (λk=>Ev.nx l m λl=>G l k):=by
 have e:(λk=>Ev.nx l m λl=>G l k)=G (l++m):=by funext k;rw[qM]
 rw[e];exact h _
def aA.kg{gd:Type}{l:List gd}{aX:(α->Bool)->Bool}{G:gd->List gd->(α->Bool)->Bool}(cb:aA aX)(h:∀a l,aA (G a l)):aA (λk=>Ev.kg l (aX k) λa l=>G a l k):=by
 cases l with
 |nil=>exact cb
 |cons a l=>exact h a l
def aA.jR{v:bl}{n:Nat}{G:cv->(α->Bool)->Bool}(h:∀l,aA (G l)):aA (λk=>Ev.jR v n λl=>G l k):=
 aA.q6 (aA.a7 (h _) aA.fail) λ_ _=>aA.a7 (h _) aA.fail
def aA.vy{l:cv}{i:Nat}{G:bl->(α->Bool)->Bool}(h:∀v,aA (G v)):aA (λk=>Ev.vy l i λv=>G v k):=
 aA.pc λ_=>aA.kg aA.fail λv _=>h v
def aA.od{v:bl}{b:Nat}{G:Nat->(α->Bool)->Bool}(h:∀v,aA (G v)):aA (λk=>Ev.od v b λv=>G v k):=
 aA.gy λ_ n=>aA.a7 (aA.a7 (h n) aA.fail) aA.fail
def aA.U5{v:bl}{b:Nat}{G:Nat->(α->Bool)->Bool}(h:∀v,aA (G v)):aA (λk=>Ev.U5 v b λv=>G v k):=
 aA.gy λ_ n=>aA.a7 (aA.a7 (h n) aA.fail) aA.fail
def aA.get{aX:(α->Bool)->Bool}(h:aA aX){k:α->Bool}(az:aX k=true):∃v,k v=true/\∀c8,aX c8=c8 v:=by
 rcases h with h|⟨v,h⟩
 .rw[h] at az;cases az
 .exact⟨v,(h k).symm.trans az,h⟩
end
section
variable{P:Program}{es:aO}{ae:dv}{L:cv}{T:b4}
def aht(op:BinOp)(c bg h a b:Nat):aA ((k4 op c bg h).f a b):=by
 unfold k4;split<;>(try split)<;>first
  |exact aA.e5 λ_=>aA.ret _
  |exact aA.lX λ_=>aA.ret _
  |exact aA.a7 (aA.a7 (aA.a7 aA.fail (aA.e5 λ_=>aA.ret _)) aA.fail) aA.fail
  |exact aA.a7 (aA.ret _) (aA.ret _)
  |exact aA.fail
def aiS(op:BinOp)(c:Nat)(x y:fO):aA ((vh op c x y).f L T):=by
 have⟨x⟩:=x;have⟨y⟩:=y;unfold vh;split
 .exact aA.gy λ_ _=>aA.gy λ_ _=>aA.a7 (aA.a7 (aA.e5 λ_=>aA.ret _) aA.fail) aA.fail
 .exact aA.gy λ_ _=>aA.gy λ_ _=>aA.a7 (aA.a7 (aA.a7 (aA.e5 λ_=>aA.ret _) aA.fail) aA.fail) aA.fail
 .have aw:=λa b=>aht op c (cp c) (dL c) a b;generalize k4 op c (cp c) (dL c)=f at aw;have⟨f⟩:=f;cases Is op with
  |false=>exact aA.gy λ_ a=>aA.gy λ_ b=>aA.a7 (aA.a7 (aw a b) aA.fail) aA.fail
  |true=>
   exact aA.AS (λ_ a=>aA.gy λ_ b=>aA.a7 (aA.a7 (aw a b) aA.fail) aA.fail)
    λ_ _ _=>aA.gy λ_ _=>aA.a7 (aA.a7 (aA.a7 (aA.a7 (aA.a7 (aA.a7 (aA.ret _) aA.fail) aA.fail) aA.fail) aA.fail) aA.fail) aA.fail
def ak1(op:BinOp)(x y:fO):aA ((x6 op x y).f L T):=by
 have⟨x⟩:=x;have⟨y⟩:=y;unfold x6;simp only;split
 .exact aA.hK λ_ _=>aA.hK λ_ _=>aA.a7 (aA.e5 λ_=>aA.e5 λ_=>aA.ret _) aA.fail
 .exact aA.hK λ_ _=>aA.hK λ_ _=>aA.lX λ_=>aA.ret _
 .exact aA.hK λ_ _=>aA.hK λ_ _=>aA.a7 (aA.ret _) (aA.ret _)
 .exact aA.hK λ_ _=>aA.hK λ_ _=>aA.lX λ_=>aA.ret _
 .exact aA.hK λ_ _=>aA.hK λ_ _=>aA.a7 (aA.ret _) (aA.a7 (aA.ret _) (aA.ret _))
 .exact aA.hK λ_ _=>aA.hK λ_ _=>aA.a7 (aA.ret _) (aA.lX λ_=>aA.ret _)
 .exact aA.hK λ_ _=>aA.hK λ_ _=>aA.a7 (aA.ret _) (aA.ret _)
 .exact aA.fail
def anR(op:BinOp)(x y:fO):aA ((y2 op x y).f L T):=by
 have⟨x⟩:=x;have⟨y⟩:=y;unfold y2;simp only;split
 .exact aA.mi λ_=>aA.mi λ_=>aA.a7 (aA.lX λ_=>aA.ret _) (aA.a7 (aA.ret _) (aA.ret _))
 .exact aA.mi λ_=>aA.mi λ_=>aA.a7 (aA.a7 (aA.ret _) (aA.ret _)) (aA.lX λ_=>aA.ret _)
 .exact aA.fail
def ao2(eq:Bool)(c:oJ)(x:fO):aA ((uA eq c x).f L T):=by
 have⟨x⟩:=x;cases eq<;>cases c<;>first
  |exact aA.Fu (aA.ret _) (aA.ret _)|exact aA.FE (aA.ret _) (aA.ret _)|exact aA.FQ (aA.ret _) (aA.ret _)|exact aA.Fw (aA.ret _) (aA.ret _)|exact aA.D4 (aA.ret _) (aA.ret _)
def ajl(op:BinOp)(c:oJ)(x y:Operand)(ce ee:fO):aA ((uL op c x y ce ee).f L T):=by unfold uL;split<;>first|exact ao2 _ _ _|exact aA.fail
def agC(op:BinOp)(t:TypeId)(x y:Operand)(ce ee:fO):aA ((CL P op t x y ce ee).f L T):=by unfold CL;split<;>first|exact aiS _ _ _ _|exact ak1 _ _ _|exact anR _ _ _|exact ajl _ _ _ _ _ _|exact aA.fail
def akU(op:UnOp)(x:fO):aA ((DA op x).f L T):=by have⟨x⟩:=x;cases op<;>first|exact aA.mi λ_=>aA.a7 (aA.ret _) (aA.ret _)|exact aA.gy λ_ _=>aA.e5 λ_=>aA.ret _|exact aA.fail
def aiQ(s d:TypeId)(x:fO):aA ((Ci P s d x).f L T):=by
 have⟨x⟩:=x;unfold Ci;simp only;split
 .split
  .exact aA.gy λ_ _=>aA.a7 (aA.e5 λ_=>aA.ret _) aA.fail
  .exact aA.AS (λ_ _=>aA.a7 (aA.a7 (aA.ret _) aA.fail) aA.fail) λ_ _ _=>aA.a7 (aA.a7 (aA.ret _) aA.fail) aA.fail
 .exact aA.hK λ_ _=>aA.ret _
 .exact aA.fail
def Wo(t:TypeId)(aT:Nat)(l:cv):aA ((wH P t aT).f l):=by
 unfold wH;split
 .exact aA.pc λ_=>aA.rN λ_=>aA.ret _
 .exact aA.vy λ_=>aA.ret _
 .exact aA.fail
def agw(t:TypeId)(f:Nat)(x:fO):aA ((Cu P t f x).f L T):=by
 have⟨x⟩:=x;unfold Cu;split
 .split
  .exact aA.vA λ_ l=>Wo _ _ l
  .exact aA.fail
 .exact aA.fail
def amR(t:TypeId)(f:Nat)(x:fO):aA ((Bu P t f x).f L T):=by
 have⟨x⟩:=x;unfold Bu;split
 .split
  .split
   .exact aA.sA λ_ _ _ _=>aA.e5 λ_=>aA.ret _
   .exact aA.fail
  .exact aA.fail
 .exact aA.fail
def ahF(t:TypeId)(x i:fO):aA ((Bo P t x i).f L T):=by
 have⟨x⟩:=x;have⟨i⟩:=i;unfold Bo;simp only;split
 .exact aA.hK λ_ _=>aA.od λ_=>aA.e5 λ_=>aA.ret _
 .rename_i len e hu;split
  .rename_i N s hp ak K;refine aA.vA λ_ l=>aA.od λ_=>aA.pc λr=>?_;have:=Wo (P:=P) e 0 r;rw[hp] at this;exact this
  .exact aA.fail
 .exact aA.fail
def anT(t:TypeId)(x i:fO):aA ((CK P t x i).f L T):=by
 have⟨x⟩:=x;have⟨i⟩:=i;unfold CK;simp only;split
 .split
  .exact aA.Ab λ_ _ _ _ _ _=>aA.od λ_=>aA.a7 (aA.e5 λ_=>aA.ret _) aA.fail
  .exact aA.fail
 .split
  .exact aA.sA λ_ _ _ _=>aA.od λ_=>aA.e5 λ_=>aA.ret _
  .exact aA.fail
 .exact aA.fail
def E1{α:Type}(x:Option Operand)(d:Nat){G:Nat->(α->Bool)->Bool}(h:∀n,aA (G n)):aA (λk=>(v7 es ae x).f L T d λn=>G n k):=by
 cases x with
 |none=>exact h d
 |some y=>exact aA.od h
def anr(t:TypeId)(x:fO)(g8 aH:Option Operand):aA ((CH P t x (v7 es ae g8) (v7 es ae aH)).f L T):=by
 have⟨x⟩:=x;unfold CH;simp only;split
 .exact aA.hK λ_ _=>E1 aH _ λ_=>E1 g8 _ λ_=>aA.a7 (aA.a7 (aA.e5 λ_=>aA.e5 λ_=>aA.ret _) aA.fail) aA.fail
 .split
  .refine aA.tw (E1 aH _ λ_=>E1 g8 _ λ_=>aA.a7 (aA.a7 (aA.ret _) aA.fail) aA.fail) λ_ _ _ _ _ _=>aA.a7 (E1 aH _ λ_=>E1 g8 _ λ_=>aA.a7 (aA.a7 ?_ ?_) aA.fail) aA.fail
   .exact aA.a7 (aA.a7 (aA.e5 λ_=>aA.e5 λ_=>aA.ret _) (aA.a7 (aA.ret _) (aA.ret _))) aA.fail
   .exact aA.a7 (aA.a7 (aA.e5 λ_=>aA.e5 λ_=>aA.e5 λ_=>aA.ret _) (aA.ret _)) aA.fail
  .exact aA.fail
 .exact aA.fail
def aqa(x:fO)(i:Nat):aA ((J3 x i).f L T):=by have⟨x⟩:=x;exact aA.Bt λ_=>aA.vy λ_=>aA.ret _
def akV(t:TypeId)(ok:Bool)(x:fO):aA ((I2 P t ok x).f L T):=by
 have⟨x⟩:=x;unfold I2;simp only;split
 .exact aA.fail
 .split
  .exact aA.HC (aA.ret _) λ_ _=>aA.a7 (aA.ret _) (aA.ret _)
  .exact aA.Gn λ_ _=>aA.a7 (aA.ret _) aA.fail
  .exact aA.fail
 .exact aA.fail
def anu(t:TypeId)(x:fO):aA ((In P t x).f L T):=by have⟨x⟩:=x;unfold In;simp only;split<;>first|exact aA.fail|exact aA.ret _
def aj8{α:Type}(l:cv):∀{r:C2}{G:cv->(α->Bool)->Bool},(∀G:cv->(α->Bool)->Bool,(∀l,aA (G l))->aA λk=>r.f L T λq=>G q k)->(∀l,aA (G l))->aA λk=>(By l r).f L T λq=>G q k:=by
 induction l with
 |nil=>intro r G h Q;exact h G Q
 |cons x l bB=>intro r G h Q;exact bB h (G:=λq=>G (x::q)) λq=>Q _
def SM{α:Type}(parts:List (Nat×fO)):∀(cz:List Field)(i:Nat)(z:cv)(r:C2),tL P parts i cz z=some r->∀G:cv->(α->Bool)->Bool,(∀l,aA (G l))->aA λk=>r.f L T λq=>G q k
 |[],i,[],r,h,G,Q=>by simp only[tL,Option.some.injEq] at h;subst h;exact Q _
 |[],i,_::_,r,h,G,Q=>by simp [tL] at h
 |fd::cz,i,z,r,h,G,Q=>by
  unfold tL at h;split at h
  .split at h
   .rename_i gC g _ rx _;cases h;exact aA.jR λc=>SM parts cz (i+1) _ _ rx (λq k=>Ev.nx c q λq=>G q k) λq=>aA.nx Q
   .rename_i gC _ rx _;cases h;exact aj8 _ (λG Q=>SM parts cz (i+1) _ _ rx G Q) Q
   .cases h
  .cases h
def agx(t:TypeId)(parts:List (Nat×fO)):aA ((C5 P t parts).f L T):=by
 unfold C5;split
 .split
  .split
   .rename_i n _ _ _ _ r ad;exact SM parts _ _ _ _ ad (λl (k:bl->Bool)=>k (bl.agg n l)) λl=>aA.ret _
   .exact aA.fail
  .exact aA.fail
 .exact aA.fail
def alF(t:TypeId)(x:fO):aA ((Bq P t x).f L T):=by
 have⟨x⟩:=x;unfold Bq;simp only;split
 .exact aA.hK λ_ _=>aA.ret _
 .exact aA.tw (aA.ret _) λ_ _ _ _ _ _=>aA.ret _
 .split<;>first|exact aA.fail|exact aA.ret _
 .exact aA.fail
def LU(bE:Bool):∀(l:List fO)(c:nn),o5 bE l=some c->∀G:bl->(bl->Bool)->Bool,(∀v,aA (G v))->aA λk=>c.f L T λv=>G v k
 |[],c,h,G,Q=>by simp [o5] at h
 |[⟨x⟩],c,h,G,Q=>by simp only[o5,Option.some.injEq] at h;subst h;exact aA.gy λ_ _=>aA.a7 (Q _) aA.fail
 |⟨x⟩::y::l,c,h,G,Q=>by
  unfold o5 at h;split at h
  .rename_i r ad;cases h;exact aA.gy λ_ n=>aA.a7 (LU true (y::l) _ ad (λv k=>Ev.gy v λ_ m=>Ev.a7 (nZ n m) (G (.int 3 m) k) (G (.int 3 n) k)) λv=>aA.gy λ_ _=>aA.a7 (Q _) (Q _)) aA.fail
  .rename_i r ad;cases h;exact aA.gy λ_ n=>aA.a7 (LU false (y::l) _ ad (λv k=>Ev.gy v λ_ m=>Ev.a7 (nZ m n) (G (.int 3 m) k) (G (.int 3 n) k)) λv=>aA.gy λ_ _=>aA.a7 (Q _) (Q _)) aA.fail
  .cases h
def apI(op:Op):aA ((sY P es ae op).f L T):=by
 unfold sY;split
 .exact aA.ret _
 .exact aA.ret _
 .exact aA.mi λ_=>aA.a7 (aA.ret _) (aA.ret _)
 .exact agx _ _
 .exact aA.BY (aA.ret _)
 .exact agC _ _ _ _ _ _
 .exact akU _ _
 .exact aiQ _ _ _
 .exact anu _ _
 .exact aA.ret _
 .exact anr _ _ _ _
 .exact amR _ _ _
 .exact agw _ _ _
 .exact anT _ _ _
 .exact ahF _ _ _
 .exact aqa _ _
 .exact akV _ _ _
 .split
  .exact alF _ _
  .split
   .rename_i r ad;exact LU true _ _ ad (λv k=>k v) λv=>aA.ret _
   .exact aA.fail
  .split
   .rename_i r ad;exact LU false _ _ ad (λv k=>k v) λv=>aA.ret _
   .exact aA.fail
  .exact aA.fail
 .exact aA.fail
variable{H:bd}{k:bl->Bool}{N:bl}
def ajp{D}(h:(sY P es ae D.op).f L T k=true):∃v,k v=true/\∀(aa:cE)(a:Act),(∀x∈D.op.operands.toList,i1 aa es ae L T a x)->∃V,bk aa v V/\∀w,(execOp a.eval D).run P w=.ok (.value V) w:=by
 have⟨v,au,az⟩:=(apI (P:=P) (es:=es) (ae:=ae) (L:=L) (T:=T) D.op).get h;refine⟨v,au,λaa a dT=>?_⟩;have F:(sY P es ae D.op).f L T (λx=>@decide (x=v) (Classical.propDecidable _))=true:=by rw[az];simp
 have⟨km,V,g1,g2,g3⟩:=Yq F dT;have:km=v:=by simpa using g1
 exact⟨V,this▸g2,g3⟩
def tE(P:Program)(H:bd)(t:TypeId)(N v:bl):Prop:=∀k,(il P t).f N H k=k v
theorem afd(t:TypeId)(N:bl)(H:bd):aA ((il P t).f N H):=by
 have aF:∀{G:Nat->Nat->cv->(bl->Bool)->Bool},(∀s z r,aA (G s z r))->aA λk=>rowOf N H λs z r=>G s z r k:=by
  intro G Q;unfold rowOf;refine aA.sA λa r s z=>?_;have e:(λk:bl->Bool=>zR H a λD=>yq D λam n cI _ _ _=>a7 (Nat.blt r n) (a7 (Nat.beq z cI) (rowAt am r λaF=>G s z aF k) false) false)=
   λk=>yq (H.get a) λam n cI _ _ _=>a7 (Nat.blt r n) (a7 (Nat.beq z cI) (rowAt am r λaF=>G s z aF k) false) false:=by
   funext k;rw[pN]
  rw[e];cases H.get a with
  |none=>exact aA.fail
  |dead=>exact aA.fail
  |map es sI=>exact aA.fail
  |cells am n cI el u dK=>
   refine aA.a7 (aA.a7 ?_ aA.fail) aA.fail;unfold rowAt;cases am with
   |fG q=>exact aA.a7 (Q _ _ _) aA.fail
   |dc q=>exact Q _ _ _
   |cl q=>exact Q _ _ _
   |hD q=>exact Q _ _ _
   |j3 g c=>exact Q _ _ _
 unfold il;split
 .exact aF λs z r=>aA.a7 (aA.a7 (aA.ret _) aA.fail) (aA.pc λ_=>aA.rN λ_=>aA.ret _)
 .exact aF λs z r=>aA.vy λ_=>aA.ret _
 .exact aA.fail
def P5{t:TypeId}(h:(il P t).f N H k=true):∃v,k v=true/\tE P H t N v:=by have⟨v,B,F⟩:=(afd t N H).get h;exact⟨v,B,F⟩
def tE.run{t:TypeId}{v}(h:tE P H t N v):∃a r s z,N=.ptr a r s z/\(H.get a).live=true/\∀(aa:cE)(w:World)(V:Value),bk aa N V->ng aa w a (H.get a)->∃yo,bk aa v yo/\(Instr.loadAt t V).run P w=.ok yo w:=by
 have F:(il P t).f N H (λx=>@decide (x=v) (Classical.propDecidable _))=true:=by rw[h];simp
 have⟨km,a,r,s,z,g1,g2,g3,g4⟩:=Vc F;have:km=v:=by simpa using g1
 subst this;exact⟨a,r,s,z,g2,g3,g4⟩
end
def aec:∀(l)(acc),∃r,iK acc l=acc++r/\r.length=l.length/\∀(i)(D),l[i]?=some D->(iK acc l)[acc.length+i]?=some (sS ((iK acc l).take (acc.length+i)) D.after.toList)
 |[],acc=>⟨[],by simp [iK],rfl,by simp⟩
 |D::l,acc=>by
  have⟨r,B,F,ah⟩:=aec l (acc++[sS acc D.after.toList]);have e:iK acc (D::l)=acc++(sS acc D.after.toList::r):=by show iK (acc++[sS acc D.after.toList]) l=_;rw[B];simp
  refine⟨_,e,by simp [F],λi x I=>?_⟩;cases i with
  |zero=>simp at I;subst I;rw[e];simp
  |succ i=>
   have:=ah i x (by simpa using I);have aN:iK acc (D::l)=iK (acc++[sS acc D.after.toList]) l:=rfl;rw[aN];have c9:acc.length+(i+1)=(acc++[sS acc D.after.toList]).length+i:=by simp;omega
   rw[c9];exact this
variable{H ct:bd}{i M:Nat}{b7:Array Bool}{D:Oper}{an:Array Oper}{w bI:World}{aa:cE}
def B4{m}:dd m i=true↔m.testBit i:=by unfold dd;rw[cF];show((m>>>i)&&& 1=1)↔_;rw[Nat.testBit,Nat.and_comm];simp
def E8{a b i:Nat}:dd (Nat.lor a b) i=true↔dd a i\/dd b i:=by rw[B4,B4,B4];show(a|||b).testBit i=true↔_;rw[Nat.testBit_or,qC]
def Gz{n i:Nat}:dd (Nat.pow 2 n) i=true↔i=n:=by rw[B4];show(2 ^ n).testBit i=true↔_;rw[Nat.testBit_two_pow];simp;exact eq_comm
def Q1:¬dd 0 i:=by rw[B4];simp
def aax{acc M}:∀{es},dd (sS acc es) M=true↔∃e∈es,Region.binds .any e/\(M=e.on\/dd (acc.getD e.on 0) M)
 |[]=>by simp [sS,Q1]
 |e::es=>by
  have bB:=aax (acc:=acc) (M:=M) (es:=es);unfold sS;cases av:Region.binds .any e with
  |true=>
   simp only;rw[E8,E8,Gz,bB];constructor
   .rintro((h|h)|⟨ci,B,F,ah⟩)
    .exact⟨e,by simp,av,.inl h⟩
    .exact⟨e,by simp,av,.inr h⟩
    .exact⟨ci,by simp [B],F,ah⟩
   .rintro⟨ci,B,F,ah⟩;rcases fS.1 B with rfl|B
    .exact .inl ah
    .exact .inr ⟨ci,B,F,ah⟩
  |false=>
   simp only;rw[bB];constructor
   .rintro⟨ci,B,F,ah⟩;exact⟨ci,by simp [B],F,ah⟩
   .rintro⟨ci,B,F,ah⟩;rcases fS.1 B with rfl|B
    .rw[av] at F;cases F
    .exact⟨ci,B,F,ah⟩
def YY{l}(h:l[i]?=some D)(M):dd (mk (iK [] l) i) M=true↔∃e∈D.after.toList,Region.binds .any e/\(M=e.on\/(e.on<i/\dd (mk (iK [] l) e.on) M)):=by
 have⟨r,B,F,ah⟩:=aec l [];have aE:=ah i D h;simp only[r8,jq] at aE;have aH:i<l.length:=(jb.1 h).1;have e:mk (iK [] l) i=sS ((iK [] l).take i) D.after.toList:=by unfold mk;rw[oE,aE];rfl
 rw[e,aax];have fy:(iK [] l).length=l.length:=by rw[B];simpa using F
 have acc:∀n,((iK [] l).take i).getD n 0=if n<i then mk (iK [] l) n else 0:=by intro n;unfold mk;rw[oE,oE,List.getElem?_take];split<;>rfl
 constructor
 .rintro⟨e,g1,g2,g3⟩;refine⟨e,g1,g2,?_⟩;rcases g3 with g3|g3
  .exact .inl g3
  .rw[acc] at g3;split at g3
   .rename_i aV;exact .inr ⟨aV,g3⟩
   .exact absurd g3 Q1
 .rintro⟨e,g1,g2,g3⟩;refine⟨e,g1,g2,?_⟩;rcases g3 with g3|⟨aV,g3⟩
  .exact .inl g3
  .rw[acc,b3 aV];exact .inr g3
def Down(an:Array Oper)(b7:Array Bool):Prop:=
 ∀(i:Nat)(D:Oper),an[i]?=some D->b7.getD i false=true->∀e∈D.after,Region.binds .any e=true->b7.getD e.on false=true
def Ti(bi:Down an b7):∀(n i)(D),i<n->an[i]?=some D->(∀e∈D.after,Region.binds .any e->b7.getD e.on false)->∀M,dd (mk (iK [] an.toList) i) M->b7.getD M false
 |0,i,D,aH,ay,h,M,bb=>Y
 |n+1,i,D,aH,ay,h,M,bb=>by
  have lU:an.toList[i]?=some D:=by rw[x3];exact ay
  have⟨e,B,F,ah⟩:=(YY lU M).1 bb;have ar:=h e (Array.mem_toList_iff.1 B) F;rcases ah with rfl|⟨aV,ah⟩
  .exact ar
  .have fv:e.on<an.size:=by have:=(Bj.1 ay).1;omega
   have um:an[e.on]?=some an[e.on]:=OE fv;exact Ti bi n e.on _ Y um (λci aE bt=>bi e.on _ um ar ci aE bt) M ah
def Down.YL(bi:Down an b7)(ay:an[i]?=some D)(h:b7.getD i false)(bb:dd (mk (iK [] an.toList) i) M):b7.getD M false:=
 Ti bi (i+1) i D Y ay (bi i D ay h) M bb
def Down.ready(bi:Down an b7)(ad:i∈Region.ready .any an b7)(bb:dd (mk (iK [] an.toList) i) M):b7.getD M false:=by have⟨cb,D,ay,B⟩:=uu.1 ad;exact Ti bi (i+1) i D Y ay B M bb
def Mw{b7:Array Bool}{i M}(h:(b7.setIfInBounds i true).getD M false):M=i\/b7.getD M false:=by
 by_cases e:i=M
 .exact .inl e.symm
 .rw[HS false e] at h;exact .inr h
def Down.add{an}{b7}(bi:Down an b7){i}(ad:i∈Region.ready .any an b7):Down an (b7.setIfInBounds i true):=by
 intro M D ay bb e ar av;rcases Mw bb with rfl|bb
 .have⟨cb,bs,lU,B⟩:=uu.1 ad;rw[ay] at lU;cases lU;exact zT (B e ar av)
 .exact zT (bi M D ay bb e ar av)
def acV(ay:an[i]?=some D)(aB:b7.getD i true=false)(h:∀M,dd (mk (iK [] an.toList) i) M->b7.getD M false):i∈Region.ready .any an b7:=by
 refine uu.2 ⟨aB,D,ay,λe ar av=>h e.on ?_⟩;have lU:an.toList[i]?=some D:=by rw[x3];exact ay
 exact(YY lU e.on).2 ⟨e,Array.mem_toList_iff.2 ar,av,.inl rfl⟩
def Rel.weaken(R:Rel aa H w)(aB:ct.next=H.next)(br:∀x,eR x->ct.get x=H.get x\/(ct.get x).live=false):Rel aa ct w:=by
 have K:∀x,eR x->(ct.get x).live=true->(H.get x).live=true:=λx I h=>by
  rcases br x I with e|e
  .rw[<-e];exact h
  .rw[h] at e;cases e
 refine⟨by rw[aB];exact R.next,λa x h=>by rw[aB];exact R.pH a x h,λa aD=>?_,λa bF B F df cH=>R.inj a bF B F (K a B df) (K bF F cH)⟩;rcases br a aD with e|e
 .rw[e];exact R.obj a aD
 .cases ax:ct.get a with
  |none=>trivial
  |dead=>trivial
  |cells am n z el u dK=>rw[ax] at e;cases e
  |map es sI=>rw[ax] at e;cases e
def kI.weaken{b}(br:∀x,eR x->ct.get x=H.get x\/(ct.get x).live=false)(h:kI aa ct b):kI aa H b:=by
 have⟨a,aD,K,ca,ad⟩:=h;rcases br a aD with e|e
 .exact⟨a,aD,by rw[<-e];exact K,ca,ad⟩
 .rw[K] at e;cases e
def Step.weaken{gh ga}(S:Step gh ga bI aa H w)(pV:eR ga.next)(aB:ct.next=H.next)(br:∀x,eR x->ct.get x=H.get x\/(ct.get x).live=false):Step gh ga bI aa ct w:=
 ⟨S.le,S.hZ,by rw[aB];exact S.next,S.size,S.frame,λb h=>S.own b (h.weaken br),λx I aJ=>by
  rcases br x Y with e|e
  .rw[e];exact S.dead x I aJ
  .exact e,S.tape,S.os,S.output⟩
def Dd.weaken(bP:Dd bI aa H w)(br:∀x,eR x->ct.get x=H.get x\/(ct.get x).live=false):Dd bI aa ct w:=
 ⟨bP.size,bP.same,λb h=>bP.zj b (h.weaken br),bP.tape,bP.os,bP.output⟩
def Rel.apE{x}(R:Rel aa H w)(I:eR x)(K:(H.get x).live):x<H.next:=by have⟨b,ca,h,_⟩:=(R.obj x I).block K;exact R.pH x _ h
def aeZ{gh aa}{ga H}{ii bI w}(R:gQ bI aa H w)(S:Step gh ga ii aa H w){id ca}(jd:ga.next<=id)(hid:id<H.next)(rH:aa id=none){bH}{obj}{gb}{p2}(aB:CU aa bH obj ca gb p2){aq}(pV:aq.next=H.next)(br:∀x,eR x->aq.get x=if x=id then bH else H.get x):gQ bI (aa.set id (w.heap.size,ca)) aq (w.alloc obj)/\Step gh ga ii (aa.set id (w.heap.size,ca)) aq (w.alloc obj)/\bk (aa.set id (w.heap.size,ca)) (gb id) (p2 w.heap.size)/\aa.le (aa.set id (w.heap.size,ca)):=by
 have hle:aa.le (aa.set id (w.heap.size,ca)):=cE.CC _ rH;have kn:(aa.set id (w.heap.size,ca)) id=some (w.heap.size,ca):=cE.Df _ _ _;have⟨g1,g2⟩:=aB _ (w.alloc obj) w.heap.size id hle kn (JH w obj);have gL:(w.alloc obj).heap.size=w.heap.size+1:=Mb w obj;have kK:∀a dA fs,eR a->a≠id->(H.get a).live=true->(aa.set id (w.heap.size,ca)) a=some (dA,fs)->dA<w.heap.size/\kI aa H dA:=by intro a dA fs aD dB K ad;rw[cE.rf _ _ dB] at ad;exact⟨R.rel.Oo ⟨a,aD,K,fs,ad⟩,a,aD,K,fs,ad⟩
 have own:∀b,kI (aa.set id (w.heap.size,ca)) aq b->w.heap.size<=b\/kI aa H b:=by
  rintro b ⟨a,aD,K,fs,ad⟩;rw[br a aD] at K;by_cases e:a=id
  .rw[e,kn] at ad;cases ad;exact .inl (ez _)
  .rw[bA e] at K;exact .inr (kK a b fs aD e K ad).2
 refine⟨⟨⟨by rw[pV];exact R.rel.next,?_,?_,?_⟩,?_⟩,?_,g2,hle⟩
 .intro a x I;rw[pV];by_cases e:a=id
  .rw[e];exact hid
  .rw[cE.rf _ _ e] at I;exact R.rel.pH a x I
 .intro a aD;rw[br a aD];by_cases e:a=id
  .rw[b3 e,e];exact g1
  .rw[bA e];exact(R.rel.obj a aD).mono hle λdA fs K ad=>Dm w obj (R.rel.Oo ⟨a,aD,K,fs,ad⟩)
 .intro bN a2 B F df cH dA sT sM dc cl;rw[br bN B] at df;rw[br a2 F] at cH;by_cases aZ:bN=id<;>by_cases aN:a2=id
  .rw[aZ,aN]
  .rw[bA aN] at cH;have:=kK a2 dA sM F aN cH cl;rw[aZ,kn] at dc;cases dc;omega
  .rw[bA aZ] at df;have:=kK bN dA sT B aZ df dc;rw[aN,kn] at cl;cases cl;omega
  .rw[bA aZ] at df;rw[bA aN] at cH;rw[cE.rf _ _ aZ] at dc;rw[cE.rf _ _ aN] at cl;exact R.rel.inj bN a2 B F df cH dA sT sM dc cl
 .refine⟨by rw[gL];have:=R.jr.size;omega,λb av=>?_,λb ay=>?_,R.jr.tape,R.jr.os,R.jr.output⟩
  .rw[Dm w obj (nV av R.jr.size)];exact R.jr.same b av
  .rcases own b ay with h|h
   .exact mq R.jr.size h
   .exact R.jr.zj b h
 .refine⟨cE.le_trans S.le hle,λa aD=>?_,by rw[pV];exact S.next,by rw[gL];have:=S.size;omega,λb av iI=>?_,λb ay=>?_,λx I aJ=>?_,S.tape,S.os,S.output⟩
  .rw[cE.rf _ _ Y];exact S.hZ a aD
  .rw[Dm w obj (nV av S.size)];exact S.frame b av iI
  .rcases own b ay with h|h
   .exact .inl (mq S.size h)
   .exact S.own b h
  .have iU:eR x:=by have:=S.next;have:=R.rel.next;omega
   rw[br x iU,bA Y];exact S.dead x I aJ
def apc{gh aa bD}{ga vU ct aq Gp}{ii bI w a8}(R:gQ bI aa vU w)(S:Step gh ga ii aa vU w)(tP:gQ bI bD aq a8)(dM:Step aa ct w bD aq a8)(qt:ct.next=vU.next)(X)[DecidablePred X](ch:∀x,X x->x<vU.next/\ga.next<=x/\(ct.get x).live=false/\(vU.get x).live)(Nn:∀x,eR x->¬X x->ct.get x=vU.get x\/(ct.get x).live=false)(Af:Gp.next=aq.next)(CJ:∀x,eR x->Gp.get x=if X x then vU.get x else aq.get x):gQ bI bD Gp a8/\Step gh ga ii bD Gp a8:=by
 have bx:∀x,eR x->ct.get x=vU.get x\/(ct.get x).live=false:=λx I=>by
  by_cases h:X x
  .exact .inr (ch x h).2.2.1
  .exact Nn x I h
 have aV:∀x,X x->eR x:=λx h=>eN;have place:∀x,X x->∃b ca,aa x=some (b,ca)/\bD x=some (b,ca)/\b<w.heap.size/\¬kI aa ct b/\kI aa vU b/\a8.heap[b]?=w.heap[b]?:=by
  intro x h;have⟨B,F,ah,aE⟩:=ch x h;have⟨b,ca,g1,g2⟩:=(R.rel.obj x (aV x h)).block aE;have iI:¬kI aa ct b:=by
   rintro⟨a,aD,K,fs,ad⟩;have gS:(vU.get a).live=true:=by
    rcases bx a aD with e|e
    .rw[<-e];exact K
    .rw[K] at e;cases e
   have:=R.rel.inj a x aD (aV x h) gS aE b fs ca ad g1;subst this;rw[K] at ah;cases ah
  exact⟨b,ca,g1,dM.le x _ g1,g2,iI,⟨x,aV x h,aE,ca,g1⟩,dM.frame b g2 iI⟩
 have YG:∀x,X x->∀b ca,bD x=some (b,ca)->¬kI bD aq b:=by
  intro x h b ca ad ay;have⟨dA,fs,g1,g2,g3,g4,g5,g6⟩:=place x h;rw[ad] at g2;cases g2;rcases dM.own b ay with q|q
  .omega
  .exact g4 q
 have own:∀b,kI bD Gp b->w.heap.size<=b\/kI aa vU b:=by
  rintro b ⟨a,aD,K,fs,ad⟩;rw[CJ a aD] at K;by_cases h:X a
  .have⟨dA,aq9,g1,g2,g3,g4,g5,g6⟩:=place a h;rw[ad] at g2;cases g2;exact .inr g5
  .rw[bA h] at K;rcases dM.own b ⟨a,aD,K,fs,ad⟩ with q|q
   .exact .inl q
   .exact .inr (q.weaken bx)
 refine⟨⟨⟨by rw[Af];exact tP.rel.next,λa x h=>by rw[Af];exact tP.rel.pH a x h,λa aD=>?_,λbN a2 B F df cH b sT sM dc cl=>?_⟩,?_⟩,?_⟩
 .rw[CJ a aD];by_cases h:X a
  .rw[b3 h];refine(R.rel.obj a aD).mono dM.le λb ca K ad=>?_;have⟨dA,fs,g1,g2,g3,g4,g5,g6⟩:=place a h;rw[ad] at g1;cases g1;exact g6
  .rw[bA h];exact tP.rel.obj a aD
 .rw[CJ bN B] at df;rw[CJ a2 F] at cH;by_cases dS:X bN<;>by_cases fw:X a2
  .rw[b3 dS] at df;rw[b3 fw] at cH;have⟨cw,dr,g1,g2,_⟩:=place bN dS;have⟨c7,c3,g3,g4,_⟩:=place a2 fw;rw[dc] at g2;rw[cl] at g4;cases g2;cases g4;exact R.rel.inj bN a2 B F df cH b sT sM g1 g3
  .rw[bA fw] at cH;exact absurd ⟨a2,F,cH,sM,cl⟩ (YG bN dS b sT dc)
  .rw[bA dS] at df;exact absurd ⟨bN,B,df,sT,dc⟩ (YG a2 fw b sM cl)
  .rw[bA dS] at df;rw[bA fw] at cH;exact tP.rel.inj bN a2 B F df cH b sT sM dc cl
 .exact⟨tP.jr.size,tP.jr.same,λb ay=>by
   rcases own b ay with q|q
   .exact mq R.jr.size q
   .exact R.jr.zj b q,tP.jr.tape,tP.jr.os,tP.jr.output⟩
 .refine⟨cE.le_trans S.le dM.le,λa aD=>?_,by rw[Af];have B:=dM.next;have F:=S.next;omega,mq S.size dM.size,λb av iI=>?_,λb ay=>?_,λx I aJ=>?_,
   dM.tape.trans S.tape,dM.os.trans S.os,dM.output.trans S.output⟩
  .rw[dM.hZ a (by have:=S.next;omega)];exact S.hZ a aD
  .have qz:=nV av S.size;rw[dM.frame b qz λay=>?_]
   .exact S.frame b av iI
   .rcases S.own b (ay.weaken bx) with q|q
    .omega
    .exact iI q
  .rcases own b ay with q|q
   .exact .inl (mq S.size q)
   .exact S.own b q
  .have iU:eR x:=by have:=S.next;have:=R.rel.next;omega
   rw[CJ x iU,bA (λh=>by have:=(ch x h).2.1;omega)];refine dM.dead x (by have:=S.next;omega) ?_;rcases bx x iU with e|e
   .rw[e];exact S.dead x I aJ
   .exact e
inductive agR where
 |pure
 |load (t:TypeId) (N:bl)
 |alloc (id:Nat) (bH:gB)
 |writer
structure kV where
 i:Nat
 v:bl
 k:agR
def fp(an:gu)(bu:List kV):dv:=bu.map λe=>(an[e.i]?).bind (·.dst)
def hr(bu:List kV):cv:=bu.map (·.v)
def nu(bu:List kV)(i:Nat):Prop:=∃e∈bu,e.i=i
def adI(P:Program)(D:Oper):Prop:=W5 D.op=true\/(match lN P D.op with|.pure=>false|_=>true)=true
section
variable(P:Program)(es:aO)(aP:Nat)(T:b4)(an:gu)
def rP(aa:cE)(D:Oper)(bu:List kV)(a:Act):Prop:=∀t∈looks an D,wx aa es (fp an bu) (hr bu) T a t
def A3(bu:List kV)(e:kV)(D:Oper):Prop:=match e.k with
 |.pure=>∀aa a,rP es T an aa D bu a->∃V,bk aa e.v V/\Yields P an.toArray D V a
 |.load t N=>adI P D/\∀aa a,rP es T an aa D bu a->Region.wanted D (yielded an.toArray a.tmps)=true/\∃Lj,bk aa N Lj/\∀w V,(Instr.loadAt t Lj).run P w=.ok V w->(execOp a.eval D).run P w=.ok (.value V) w
 |.alloc id bH=>adI P D/\bH.live=true/\∀aa a,rP es T an aa D bu a->Region.wanted D (yielded an.toArray a.tmps)=true/\∃obj ca gb p2,gb id=e.v/\CU aa bH obj ca gb p2/\
  ∀w,(execOp a.eval D).run P w=.ok (.value (p2 w.heap.size)) (w.alloc obj)
 |.writer=>True
def UG(bg:aO)(bu:List kV)(e:kV):Prop:=∃D,an[e.i]?=some D/\(∀d,D.dst=some d->d<aP)/\(∀M,dd (mk bg e.i) M=true->nu bu M)/\¬nu bu e.i/\A3 P es T an bu e D
def ni(bg:aO):List kV->Prop
 |[]=>True
 |e::bu=>UG P es aP T an bg bu e/\ni bg bu
end
end Go.Ev
