/- A part. -/
import Derived.Test.YtkjmpcfikenlbaaGreatDoorQ1
set_option linter.all false
namespace Go.Tx
open Go Go.Ev
set_option maxRecDepth 100000
set_option maxHeartbeats 8000000
attribute [local irreducible] eo eA bU eE eJ eN cU eX
def aoa{e:ai}{k}(h:GE (k+1) e):SF (e.k e.kids (e.aj,e.an,e.aM,2091)) where
 bs:=rfl
 ar:=tn λx M=>by rw[ai.dN];exact(h.2 x M).cj af
 au:=tn λx M=>(h.1.bL x M).zE af
 aC:=kk h.1.jy rfl λx M=>by unfold dI.row;exact tV nH (tV lq (tV (tP (h.1.jO x M).Jm rfl) BX))
 aE:=by show cf [1045] (.aH e.bL.g (e.bL.l.map al.row))=false;rw[h.1.z];rfl
 z1:=tn λx M=>by unfold dI.row;exact tV nH (tV lq (tV (tP (h.1.jO x M).Jm rfl) BX))
 Tr:=kk h.1.er rfl λx M=>(h.1.bL x M).zE af
 Ig:=tP h.1.f8 rfl
def Df{e:ai}{G}(h:e.b0):(e.k e.kids G).b0:=⟨(ai.mS _).2 ⟨h.one,((ai.mS _).1 h.1).2⟩,by have:=h.2;rw[ai.size_eq]at this ⊢;exact this⟩
section
variable{C:Nat->cE}{ext:Nat->Option eS}{Q:e9}(aa:Env C ext Q)(aS:jW Q)
include aa aS
def Q8(C:Nat->cE)(g:Nat)(Q:e9)(k:Nat):Prop:=∀e:ai,GE k e->k<=10->∀a,a<=Q.length->bU C [1045] 24 [.bN 1000 0,.J (.agg e.cells)] [(1000,dD g Q a)] (qb g Q λv=>∃y:ai,v=.agg y.cells/\lb e y)
variable{g:Nat}
def amd(gd:g / 2=3)(k:Nat)(bQ:Q8 C g Q k):Q8 C g Q (k+1):=by
 intro e h ak6 a aC;have aw:e.b0:=h.b0 ak6;have bo:=aoa h;have sZ:e.kind=15->0<e.kids.length:=h.1.aqx;refine aa.y 24 ff rfl rfl ?_;have jy:(e.kids.map ai.row).length=e.kids.length:=bW;have⟨c4,cl,dm,fp,h5,io,ld,jZ,il,rQ,rP⟩:=aw.one;have eI:cf [1045] (.op g Q.W)=false:=aS.cj gd rfl;have f1:cf [1045] (.aH e.aj (e.types.map al.row))=false:=bo.Tr;have f2:cf [1045] (.aH e.an (e.cg.map b6))=false:=bo.Ig;have f3:cf [1045] (.aH e.aM (e.bM.map dI.row))=false:=bo.aC;have f4:cf [1045] (.aH e.bL.g (e.bL.l.map al.row))=false:=bo.aE;have f8:(e.cg.map b6).length=e.cg.length:=bW
 (conv=>whnf)
 repeat(first|refine bV.mk ⟨mq e.kids λx=>by rw[ai.dN];rfl,I⟩ ?_|refine da ?_);(conv=>whnf)
 refine eh (λbr=>?_) (λbr=>?_);case' refine_1=>
  refine N ?_;refine aW (dy aa aS a 4 aC af af) ?_;rintro v A ⟨⟨r,rfl,vC⟩,bk,cY,rfl⟩;refine N ?_;refine eh (λD=>?_) (λD=>?_)
  .refine N ?_;refine aW (dy aa aS bk _ cY br I) ?_;rintro v A ⟨⟨i,rfl,aN⟩,bu,cy,rfl⟩;have jd:i<e.kids.length:=I;have ap:=sE ai.row jd;rw[ai.dN]at ap;refine N ?_;refine bV.mk aN ?_;refine N ?_;refine kK.mk _ ap ?_;refine N ?_;refine aW (bQ _ (h.2 _ (fQ jd)) I bu cy) ?_;rintro v A ⟨⟨y,rfl,lr⟩,b1,dl,rfl⟩;show ia [1045] _ _ _ _;refine i6 ⟨bo.ar,trivial⟩ ?_;simp(disch:=first|assumption|with_unfolding_all rfl) only[gg,hq,dF,iI,iV,i1,i2,i3,i0,iY,jn,ij];refine N ?_;refine bV.mk aN ?_;refine N ?_;refine bV.mk aN ?_;refine N ?_;exact⟨⟨_,by rw[show y.cells=y.row from(ai.dN y).symm,<-List.map_set];rfl,.l0 i y (e.aj,e.an,e.aM,2091) jd lr⟩,b1,dl,rfl⟩
  refine N ?_
 case' refine_2=>refine N ?_;obtain⟨bk,cY,rfl⟩:∃x,x<=Q.length/\x=a:=⟨_,aC,rfl⟩
 all_goals
  refine ch (λaP=>?_) (λaP=>?_)
  .refine N ?_;refine aW (dy aa aS bk 2 cY af af) ?_;rintro v A ⟨⟨n,rfl,aD⟩,bu,cy,rfl⟩;refine N ?_;exact⟨⟨_,rfl,.bool n aP aD⟩,bu,cy,rfl⟩
  refine N ?_
  refine ch (λaP=>?_) (λaP=>?_)
  .refine N ?_;refine aW (dy aa aS bk 5 cY af af) ?_;rintro v A ⟨⟨n,rfl,aD⟩,bu,cy,rfl⟩;have⟨s,ib,iv⟩:=CZ (l:=[[120],[120,97],[120,98],[118,97,98],[122,122]]) (n:=n) aD;refine N ?_;refine bV.mk aD (dU.mk _ iv ?_);refine N ?_;exact⟨⟨_,rfl,.ay s (e.aj,e.an,e.aM,2091) (nP ib rfl) I (.inl aP)⟩,bu,cy,rfl⟩
  refine N ?_
  refine ch (λaP=>?_) (λaP=>?_)
  .refine N ?_;refine ch (λ_=>?_) (λh=>absurd aP h);refine N ?_;refine aW (EP aa aS gd bk cY (e.k e.kids (e.aj,e.an,e.aM,2091)) (Df aw) bo (by show e.kind=7\/e.kind=9\/e.kind=10\/e.kind=11\/e.kind=14\/e.kind=16;omega)) ?_;rintro v A ⟨⟨y,rfl,lr⟩,bu,cy,rfl⟩;show ia [1045] _ _ _ _;refine i6 trivial ?_;simp(disch:=first|assumption|with_unfolding_all rfl) only[gg,hq,dF,iI,iV,i1,i2,i3,i0,iY,jn,ij];refine N ?_;exact⟨⟨y,rfl,lr.pre⟩,bu,cy,rfl⟩
  refine N ?_
  refine ch (λaP=>?_) (λaP=>?_)
  .refine N ?_;refine ch (λ_=>?_) (λh=>absurd aP h);refine N ?_;refine aW (EP aa aS gd bk cY (e.k e.kids (e.aj,e.an,e.aM,2091)) (Df aw) bo (by show e.kind=7\/e.kind=9\/e.kind=10\/e.kind=11\/e.kind=14\/e.kind=16;omega)) ?_;rintro v A ⟨⟨y,rfl,lr⟩,bu,cy,rfl⟩;show ia [1045] _ _ _ _;refine i6 trivial ?_;simp(disch:=first|assumption|with_unfolding_all rfl) only[gg,hq,dF,iI,iV,i1,i2,i3,i0,iY,jn,ij];refine N ?_;exact⟨⟨y,rfl,lr.pre⟩,bu,cy,rfl⟩
  refine N ?_
  refine ch (λaP=>?_) (λaP=>?_)
  .refine N ?_;refine ch (λ_=>?_) (λh=>absurd aP h);refine N ?_;refine aW (EP aa aS gd bk cY (e.k e.kids (e.aj,e.an,e.aM,2091)) (Df aw) bo (by show e.kind=7\/e.kind=9\/e.kind=10\/e.kind=11\/e.kind=14\/e.kind=16;omega)) ?_;rintro v A ⟨⟨y,rfl,lr⟩,bu,cy,rfl⟩;show ia [1045] _ _ _ _;refine i6 trivial ?_;simp(disch:=first|assumption|with_unfolding_all rfl) only[gg,hq,dF,iI,iV,i1,i2,i3,i0,iY,jn,ij];refine N ?_;exact⟨⟨y,rfl,lr.pre⟩,bu,cy,rfl⟩
  refine N ?_
  refine ch (λaP=>?_) (λaP=>?_)
  .refine N ?_;refine ch (λ_=>?_) (λh=>absurd aP h);refine N ?_;refine aW (EP aa aS gd bk cY (e.k e.kids (e.aj,e.an,e.aM,2091)) (Df aw) bo (by show e.kind=7\/e.kind=9\/e.kind=10\/e.kind=11\/e.kind=14\/e.kind=16;omega)) ?_;rintro v A ⟨⟨y,rfl,lr⟩,bu,cy,rfl⟩;show ia [1045] _ _ _ _;refine i6 trivial ?_;simp(disch:=first|assumption|with_unfolding_all rfl) only[gg,hq,dF,iI,iV,i1,i2,i3,i0,iY,jn,ij];refine N ?_;exact⟨⟨y,rfl,lr.pre⟩,bu,cy,rfl⟩
  refine N ?_
  refine ch (λaP=>?_) (λaP=>?_)
  .refine N ?_;refine ch (λ_=>?_) (λh=>absurd aP h);refine N ?_;refine aW (EP aa aS gd bk cY (e.k e.kids (e.aj,e.an,e.aM,2091)) (Df aw) bo (by show e.kind=7\/e.kind=9\/e.kind=10\/e.kind=11\/e.kind=14\/e.kind=16;omega)) ?_;rintro v A ⟨⟨y,rfl,lr⟩,bu,cy,rfl⟩;show ia [1045] _ _ _ _;refine i6 trivial ?_;simp(disch:=first|assumption|with_unfolding_all rfl) only[gg,hq,dF,iI,iV,i1,i2,i3,i0,iY,jn,ij];refine N ?_;exact⟨⟨y,rfl,lr.pre⟩,bu,cy,rfl⟩
  refine N ?_
  refine ch (λaP=>?_) (λaP=>?_)
  .refine N ?_;refine aW (EP aa aS gd bk cY (e.k e.kids (e.aj,e.an,e.aM,2091)) (Df aw) bo (by show e.kind=7\/e.kind=9\/e.kind=10\/e.kind=11\/e.kind=14\/e.kind=16;omega)) ?_;rintro v A ⟨⟨y,rfl,lr⟩,bu,cy,rfl⟩;show ia [1045] _ _ _ _;refine i6 trivial ?_;simp(disch:=first|assumption|with_unfolding_all rfl) only[gg,hq,dF,iI,iV,i1,i2,i3,i0,iY,jn,ij];refine N ?_;exact⟨⟨y,rfl,lr.pre⟩,bu,cy,rfl⟩
  refine N ?_
  refine ch (λaP=>?_) (λaP=>?_)
  .refine N ?_;refine aW (dy aa aS bk 4 cY af af) ?_;rintro v A ⟨⟨n,rfl,aD⟩,bu,cy,rfl⟩;have⟨s,ib,iv⟩:=CZ (l:=[[97],[98],[99],[122]]) (n:=n) aD;refine N ?_;refine bV.mk aD (dU.mk _ iv ?_);refine N ?_;exact⟨⟨_,rfl,.mem s e.cg (e.aj,e.an,e.aM,2091) (.inr (nP ib rfl)) (λh _=>absurd aP h) (.inl rfl)⟩,bu,cy,rfl⟩
  refine N ?_
  refine ch (λaP=>?_) (λaP=>?_)
  .refine N ?_;refine aW (dy aa aS bk 4 cY af af) ?_;rintro v A ⟨⟨n,rfl,aD⟩,bu,cy,rfl⟩;have⟨s,ib,iv⟩:=CZ (l:=[[61,61],[60],[43],[47]]) (n:=n) aD;refine N ?_;refine bV.mk aD (dU.mk _ iv ?_);refine N ?_;exact⟨⟨_,rfl,.op s (e.aj,e.an,e.aM,2091) (nP ib rfl) aP⟩,bu,cy,rfl⟩
  refine N ?_
  refine ch (λaP=>?_) (λaP=>?_)
  .refine N ?_;refine aW (ag2 aa aS gd bk cY (e.k e.kids (e.aj,e.an,e.aM,2091)) (Df aw) bo aP (List.length_pos_iff.1 (sZ aP))) ?_;rintro v A ⟨⟨y,rfl,lr⟩,bu,cy,rfl⟩;show ia [1045] _ _ _ _;refine i6 trivial ?_;simp(disch:=first|assumption|with_unfolding_all rfl) only[gg,hq,dF,iI,iV,i1,i2,i3,i0,iY,jn,ij];refine N ?_;exact⟨⟨y,rfl,lr.pre⟩,bu,cy,rfl⟩
  refine N ?_
  refine ch (λaP=>?_) (λaP=>?_)
  .refine N ?_;refine aW (dy aa aS bk 4 cY af af) ?_;rintro v A ⟨⟨n,rfl,aD⟩,bu,cy,rfl⟩;have⟨s,ib,iv⟩:=CZ (l:=[[98,97,115,101],[103,101,111],[97,112,112],[110,111,110,101]]) (n:=n) aD;refine N ?_;refine bV.mk aD (dU.mk _ iv ?_);refine N ?_;exact⟨⟨_,rfl,.ay s (e.aj,e.an,e.aM,2091) (nP ib rfl) I (.inr (.inl aP))⟩,bu,cy,rfl⟩
  refine N ?_
  refine ch (λaP=>?_) (λaP=>?_)
  .refine N ?_;refine bV.mk ⟨mq e.cg λx=>rfl,I⟩ ?_;refine bV.mk (by show _*16<=_;omega) ?_;refine N ?_;refine eh (λa3=>?_) (λa3=>?_)
   .refine N ?_;refine aW (dy aa aS bk 3 cY af af) ?_;rintro v A ⟨⟨n,rfl,aD⟩,bu,cy,rfl⟩;have⟨z,ib,iv⟩:=si (l:=[[97],[98],[122]]) (n:=n) aD;refine N ?_;refine qm.mk rfl ?_;refine N ?_;refine bV.mk aD ?_;refine N ?_;refine kK.mk _ iv ?_;refine N ?_;refine bV.mk a3 ?_;refine N ?_;refine bV.mk a3 ?_;refine N ?_;exact⟨⟨_,by rw[show [b9.str z]=b6 z from rfl,<-List.map_set];rfl,.mem e.mem (e.cg.set 0 z) (e.aj,2019,e.aM,2091) (.inl rfl) (λ_ h=>h) (.inr ⟨z,nP ib rfl,rfl⟩)⟩,bu,cy,rfl⟩
   .refine N ?_;exact⟨⟨_,rfl,.id (e.aj,2019,e.aM,2091)⟩,bk,cY,rfl⟩
  refine N ?_
  exact⟨⟨.mk 23 [] [] 0 1 [] 1 [] 1 [] 90 [e] (.mk [] 1 []) 0,by rw[<-ai.dN];rfl,.wrap e 90 rfl id rfl⟩,bk,cY,rfl⟩
def alO(gd:g / 2=3)(k:Nat):Q8 C g Q k:=by
 induction k with
 |zero=>exact λe h=>h.elim|succ k bQ=>exact amd aa aS gd k bQ
end
def n3.ok{x}(h:n3 x):x.ok:=⟨by have:=h.ay;omega,by have:=h.len;omega,λs ap=>by have:=h.ec s ap;omega⟩
def iN.ok{x}(h:iN x):x.ok:=by
 have b:(1000:Nat)<9223372036854775808:=af;have tF:∀{l:List bj},(∀s∈l,s.length<=100/\(46:UInt8)∉s/\s≠[65,114,114,97,121])->∀s∈l,s.length<1000:=λh s ap=>by have:=(h s ap).1;omega
 refine⟨by have:=h.kind;omega,by have:=h.rel;omega,by have:=h.ay;omega,by rw[h.tW];decide,λy aE=>by(rw[h.tW]at aE;exact absurd aE Ax),by have:=h.cH;omega,λy aE=>?_,by have:=h.cq;omega,λy aE=>?_,by have:=h.c9;omega,λy aE=>?_,by have:=h.eg;omega,λy aE=>?_,by have:=h.fJ;omega,λy aE=>?_⟩
 .have k:=h.cT y aE;exact⟨by have:=k.since;omega,by have:=k.ay;omega,by have:=k.pl;omega,tF k.tF,by have:=k.hr;omega,λf a1=>⟨by have:=(k.nw f a1).ay;omega,(k.nw f a1).bL.b0 af⟩⟩
 .have k:=h.cN y aE;exact⟨by have:=k.since;omega,by have:=k.ay;omega,by have:=k.pl;omega,tF k.tF,by have:=k.ou;omega,λf a1=>⟨by have:=(k.A3 f a1).ay;omega,by have:=(k.A3 f a1).pl;omega,λt au=>((k.A3 f a1).tF t au).b0 af⟩⟩
 .have k:=h.el y aE;exact⟨by have:=k.since;omega,by have:=k.ay;omega,by have:=k.xx;omega,λm hm=>⟨by have:=(k.rN m hm).ay;omega,by have:=(k.rN m hm).jI;omega,λt au=>((k.rN m hm).jO t au).b0 af,(k.rN m hm).eW.b0 af,by have:=(k.rN m hm).HK;omega⟩⟩
 .have k:=h.e0 y aE;exact⟨by have:=k.ec;omega,by have:=k.hQ;omega,λg bI=>(k.ge g bI).ok,k.bL.b0 af,by have:=k.eh;omega,λb aB=>⟨by have:=(k.eO b aB).1;omega,by have:=(k.eO b aB).2;omega⟩⟩
 .have k:=h.gB y aE;exact⟨by have:=k.since;omega,by have:=k.ay;omega,by have:=k.hQ;omega,λg bI=>(k.ge g bI).ok,by have:=k.jI;omega,λa aC=>⟨by have:=(k.jO a aC).ay;omega,(k.jO a aC).bL.b0 af,(k.jO a aC).HK.b0 af⟩,k.eW.b0 af,k.yc.b0 af⟩
section
variable{C:Nat->cE}{ext:Nat->Option eS}{Q:e9}(aa:Env C ext Q)(aS:jW Q)
include aa aS
def R0{g}(gd:g / 2=3)(a:Nat)(aC:a<=Q.length)(m:cZ)(hm:iN m):bU C [1045,1067,1049,1086] 9 [.bN 1000 0,.J (.agg m.cells)] [(1000,dD g Q a)] (qb g Q λv=>∃y:cZ,v=.agg y.cells/\vb m y):=by
 refine aa.y 9 ff rfl rfl ?_;have tm:(m.fA.map hM.row).length=m.fA.length:=bW;have er:(m.dJ.map dX.row).length=m.dJ.length:=bW;have f8:(m.d9.map dV.row).length=m.d9.length:=bW;have jy:(m.e2.map eG.row).length=m.e2.length:=bW;have lj:(m.dn.map em.row).length=m.dn.length:=bW;have ny:(m.funcs.map cu.row).length=m.funcs.length:=bW;have g3:m.fA.length=0:=by rw[hm.tW];rfl
 have cH:=hm.cH;have cq:=hm.cq;have c9:=hm.c9;have eg:=hm.eg;have fJ:=hm.fJ;have eI:cf [1045] (.op g Q.W)=false:=aS.cj gd rfl;have KM:cf [1067,1049,1086] (.op g Q.W)=false:=aS.cj gd rfl;have f0:cf [1045] (.aH m.aj (m.fA.map hM.row))=false:=hm.nw;have f1:cf [1045] (.aH m.an (m.dJ.map dX.row))=false:=hm.cK af;have f2:cf [1045] (.aH m.aM (m.d9.map dV.row))=false:=hm.tc af;have f3:cf [1045] (.aH m.bs (m.e2.map eG.row))=false:=hm.ka af;have f4:cf [1045] (.aH m.cp (m.dn.map em.row))=false:=hm.uZ af;have f5:cf [1045] (.aH m.dj (m.funcs.map cu.row))=false:=hm.kn af;have a4:m.ok:=hm.ok;have⟨_,_,_,_,_,_,mj,_,FA,_,alE,_,amF,_,are⟩:=id a4;have Hn:∀e∈Eh,cj [e] [43,9,105,45,132,134,124,128,130,147,74,78,82,86,49]:=af;have app:abN m.uz:=⟨rfl,rfl,rfl,λe aw=>yf (hm.xs ((Hn e aw).sub af)) (by show cn (2149 / 2) [e]=false;revert e;decide),λe aw=>yf (hm.Tm ((Hn e aw).sub af)) (by show cn (2157 / 2) [e]=false;revert e;decide),λe aw=>yf (hm.Fl ((Hn e aw).sub af)) (by show cn (2165 / 2) [e]=false;revert e;decide),λe aw=>hm.Mn ((Hn e aw).sub af),λe aw=>hm.i9 ((Hn e aw).sub af)⟩
 (conv=>whnf)
 repeat(first|refine bV.mk ⟨mq m.dJ λx=>rfl,I⟩ ?_|refine bV.mk ⟨mq m.d9 λx=>rfl,I⟩ ?_|refine bV.mk ⟨mq m.e2 λx=>rfl,I⟩ ?_|refine bV.mk ⟨mq m.dn λx=>rfl,I⟩ ?_|refine bV.mk ⟨mq m.funcs λx=>rfl,I⟩ ?_|refine bV.mk ⟨mq m.fA λx=>rfl,I⟩ ?_|refine da ?_);(conv=>whnf)
 refine aW (dy aa aS a 12 aC af af) ?_;rintro v A ⟨⟨r,rfl,vC⟩,bk,cY,rfl⟩;refine N ?_;refine eh (λaP=>?n0) (λaP=>?nQ);case' n0=>refine N ?_;refine eh (λa3=>?DX) (λa3=>?f0)
 case DX=>refine N ?_;refine aW (dy aa aS bk _ cY a3 I) ?_;rintro v A ⟨⟨i,rfl,aN⟩,bu,cy,rfl⟩;have jd:i<m.funcs.length:=I;have ap:=sE cu.row jd;refine N ?_;refine bV.mk aN ?_;refine N ?_;unfold cu.row at ap;simp only[lJ,ps]at ap;refine kK.mk _ ap ?_;refine N ?_;refine aW (alO aa aS gd 10 _ (hm.gB _ (fQ jd)).yc af bu cy) ?_;rintro v A ⟨⟨y,rfl,aE⟩,b1,dl,rfl⟩;show ia [1045] _ _ _ _;refine i6 ⟨tn λx _=>rfl,hm.i9 af,hm.Mn af,hm.Fl af,hm.Tm af,hm.xs af,trivial⟩ ?_;simp(disch:=first|assumption|with_unfolding_all rfl) only[gg,hq,dF,iI,iV,i1,i2,i3,agt,i0,iY,jn,ij,lv];refine N ?_;refine bV.mk aN ?_;refine N ?_;have ag:=oF cu.row jd;unfold cu.row at ag;simp only[lJ,ps]at ag;refine bV.mk aN (dU.mk _ ag ?_);refine N ?_;refine⟨⟨_,?_,.body i jd y aE⟩,b1,dl,rfl⟩;show b9.agg [_,_,_,_,_,_,_,_,.aH 2099 ((m.funcs.map cu.row).set i (cu.row {m.funcs[i]with body:=y}))]=_;rw[<-List.map_set];rfl
 case' f0=>refine N ?_;refine ch (λh=>absurd h I) (λ_=>?_);refine N ?_;refine ch (λh=>absurd h I) (λ_=>?_);refine N ?_;refine ch (λh=>absurd h I) (λ_=>?_);refine N ?_;refine ch (λh=>absurd h I) (λ_=>?_);refine N ?_;refine ch (λh=>absurd h I) (λ_=>?_);refine N ?_
 case' nQ=>refine N ?_;refine ch (λaP=>?ic) (λaP=>?c4)
 case' ic=>refine N ?_;refine eh (λa3=>?en) (λa3=>?f1)
 case en=>refine N ?_;refine aW (dy aa aS bk _ cY a3 I) ?_;rintro v A ⟨⟨i,rfl,aN⟩,bu,cy,rfl⟩;have jd:i<m.funcs.length:=I;have ap:=sE cu.row jd;refine N ?_;refine bV.mk aN ?_;refine N ?_;refine kK.mk _ ap ?_;refine N ?_;refine aW (apO aa aS bu cy _ (are _ (fQ jd))) ?_;rintro v A ⟨⟨y,rfl,aE⟩,b1,dl,rfl⟩;refine N ?_;refine bV.mk aN ?_;refine N ?_;refine bV.mk aN ?_;refine N ?_;exact⟨⟨_,by rw[<-List.map_set];rfl,.fn i jd y aE⟩,b1,dl,rfl⟩
 case' f1=>refine N ?_;refine ch (λh=>absurd h I) (λ_=>?_);refine N ?_;refine ch (λh=>absurd h I) (λ_=>?_);refine N ?_;refine ch (λh=>absurd h I) (λ_=>?_);refine N ?_;refine ch (λh=>absurd h I) (λ_=>?_);refine N ?_
 case' c4=>refine N ?_;refine ch (λaP=>?hF) (λaP=>?cl)
 case' hF=>refine N ?_;refine eh (λa3=>?gI) (λa3=>?f2)
 case gI=>refine N ?_;refine aW (dy aa aS bk _ cY a3 I) ?_;rintro v A ⟨⟨i,rfl,aN⟩,bu,cy,rfl⟩;have jd:i<m.dJ.length:=I;have ap:=sE dX.row jd;refine N ?_;refine bV.mk aN ?_;refine N ?_;refine kK.mk _ ap ?_;refine N ?_;refine aW (agJ aa aS bu cy _ (mj _ (fQ jd))) ?_;rintro v A ⟨⟨y,rfl,aE⟩,b1,dl,rfl⟩;refine N ?_;refine bV.mk aN ?_;refine N ?_;refine bV.mk aN ?_;refine N ?_;exact⟨⟨_,by rw[<-List.map_set];rfl,.iy i jd y aE⟩,b1,dl,rfl⟩
 case' f2=>refine N ?_;refine ch (λh=>absurd h I) (λ_=>?_);refine N ?_;refine ch (λh=>absurd h I) (λ_=>?_);refine N ?_;refine ch (λh=>absurd h I) (λ_=>?_);refine N ?_
 case' cl=>refine N ?_;refine ch (λaP=>?oa) (λaP=>?dm)
 case' oa=>refine N ?_;refine eh (λa3=>?l3) (λa3=>?f3)
 case l3=>refine N ?_;refine aW (dy aa aS bk _ cY a3 I) ?_;rintro v A ⟨⟨i,rfl,aN⟩,bu,cy,rfl⟩;have jd:i<m.d9.length:=I;have ap:=sE dV.row jd;refine N ?_;refine bV.mk aN ?_;refine N ?_;refine kK.mk _ ap ?_;refine N ?_;refine aW (aqt aa aS bu cy _ (FA _ (fQ jd))) ?_;rintro v A ⟨⟨y,rfl,aE⟩,b1,dl,rfl⟩;refine N ?_;refine bV.mk aN ?_;refine N ?_;refine bV.mk aN ?_;refine N ?_;exact⟨⟨_,by rw[<-List.map_set];rfl,.un i jd y aE⟩,b1,dl,rfl⟩
 case' f3=>refine N ?_;refine ch (λh=>absurd h I) (λ_=>?_);refine N ?_;refine ch (λh=>absurd h I) (λ_=>?_);refine N ?_
 case' dm=>refine N ?_;refine ch (λaP=>?uR) (λaP=>?fp)
 case' uR=>refine N ?_;refine eh (λa3=>?tz) (λa3=>?f4)
 case tz=>refine N ?_;refine aW (dy aa aS bk _ cY a3 I) ?_;rintro v A ⟨⟨i,rfl,aN⟩,bu,cy,rfl⟩;have jd:i<m.e2.length:=I;have ap:=sE eG.row jd;refine N ?_;refine bV.mk aN ?_;refine N ?_;refine kK.mk _ ap ?_;refine N ?_;refine aW (ao3 aa aS bu cy _ (alE _ (fQ jd))) ?_;rintro v A ⟨⟨y,rfl,aE⟩,b1,dl,rfl⟩;refine N ?_;refine bV.mk aN ?_;refine N ?_;refine bV.mk aN ?_;refine N ?_;exact⟨⟨_,by rw[<-List.map_set];rfl,.ec i jd y aE⟩,b1,dl,rfl⟩
 case' f4=>refine N ?_;refine ch (λh=>absurd h I) (λ_=>?_);refine N ?_
 case' fp=>refine N ?_;refine ch (λaP=>?H0) (λaP=>?h5)
 case' H0=>refine N ?_;refine eh (λa3=>?KN) (λa3=>?f5)
 case KN=>refine N ?_;refine aW (dy aa aS bk _ cY a3 I) ?_;rintro v A ⟨⟨i,rfl,aN⟩,bu,cy,rfl⟩;have jd:i<m.dn.length:=I;have ap:=sE em.row jd;refine N ?_;refine bV.mk aN ?_;refine N ?_;refine kK.mk _ ap ?_;refine N ?_;refine aW (amH aa aS bu cy _ (amF _ (fQ jd))) ?_;rintro v A ⟨⟨y,rfl,aE⟩,b1,dl,rfl⟩;refine N ?_;refine bV.mk aN ?_;refine N ?_;refine bV.mk aN ?_;refine N ?_;exact⟨⟨_,by rw[<-List.map_set];rfl,.Is i jd y aE⟩,b1,dl,rfl⟩
 case' f5=>refine N ?_
 case' h5=>refine N ?_
 all_goals
  refine aW (apY aa aS gd bk cY m.uz a4 app) ?_
  rintro v A ⟨⟨y,rfl,aE⟩,bu,cy,rfl⟩
  show ia [1067,1049,1086] _ _ _ _
  refine i6 trivial ?_
  simp(disch:=first|assumption|with_unfolding_all rfl) only[gg,hq,dF,iI,iV,i1,i2,i3,i0,iY,jn,ij,lv]
  refine N ?_
  exact⟨⟨y,rfl,.Rd y aE⟩,bu,cy,rfl⟩
end
section
variable{C:Nat->cE}{ext:Nat->Option eS}{Q:e9}(aa:Env C ext Q)
include aa
def JC(aj an:Nat)(a b:List bj)(aC:a.length<1000000)(aB:b.length<1000000):dz C 169 [.J (.aH aj (a.map b6)),.J (.aH an (b.map b6))] λv=>v=.bool (decide (a=b)):=by
 refine aa.z 169 (gK [(0,[5,6],[],[])]) rfl rfl ?_;have hm:(a.map b6).length=a.length:=bW;have aD:(b.map b6).length=b.length:=bW;refine N ?_;refine eQ ?_;refine ch (λh=>?_) (λh=>?_);rotate_left
 .refine N ?_;exact⟨rfl,by rw[pU];intro e;subst e;exact h rfl⟩
 .refine N ?_;refine kA b6 a 3 (λd (_:Unit)=>[]) (λd _=>[]) (λd _=>d<+:b) ⟨(),List.nil_prefix,rfl⟩ (λd _ x r ba aw be ag a7 bt=>?_) (λ_ ba a7=>?_)
  .have⟨t,au⟩:=a7;have Y:a.length=b.length:=I;rcases t with _|⟨y,b3⟩
   .rw[kE]at au;subst au;rw[aw]at Y;simp at Y
   .have ct:fT (b.map b6) d.length=b6 y:=by rw[<-au];exact fu.k6 b6 d y b3
    refine dk ?_;refine bV.mk I (dU.mk _ ct ?_);refine N ?_;refine eQ ?_;refine cQ (λh=>?_) (λh=>?_);rotate_left
    .refine N ?_;exact⟨rfl,by rw[pU];intro e;rw[aw,<-au]at e;simp at e;exact h e.1⟩
    .refine N ?_;subst h;exact bt () _ _ ⟨b3,by rw[<-au];simp⟩ rfl
  .refine dd ?_;exact⟨rfl,by rw[r7];exact a7.eq_of_length I⟩
open Classical in
def OA(aj an:Nat)(a b:List al)(aC:a.length<1000000)(aB:b.length<1000000)(aQ:∀x∈a,∀y∈b,dz C 170 [.J (.agg x.cells),.J (.agg y.cells)] λv=>v=.bool (decide (x.aA=y.aA))):dz C 171 [.J (.aH aj (a.map al.row)),.J (.aH an (b.map al.row))] λv=>v=.bool (decide (a.map al.aA=b.map al.aA)):=by
 refine aa.z 171 (gK [(0,[5,6],[],[])]) rfl rfl ?_;have hm:(a.map al.row).length=a.length:=bW;have aD:(b.map al.row).length=b.length:=bW;refine N ?_;refine eQ ?_;refine ch (λh=>?_) (λh=>?_);rotate_left
 .refine N ?_;exact⟨rfl,lN λe=>h (by have:=fr List.length e;simpa using this)⟩
 .refine N ?_;refine kA al.row a 3 (λd (_:Unit)=>[]) (λd _=>[]) (λd _=>∃cC t,b=cC++t/\cC.length=d.length/\d.map al.aA=cC.map al.aA) ⟨(),⟨[],b,rfl,rfl,rfl⟩,rfl⟩ (λd _ x r ba aw be ag a7 bt=>?_) (λ_ ba a7=>?_)
  .have⟨cC,t,au,Y,bl⟩:=a7;have vt:a.length=b.length:=I;rcases t with _|⟨y,b3⟩
   .rw[kE]at au;subst au;rw[aw]at vt;simp[Y]at vt
   .have ct:fT (b.map al.row) d.length=al.row y:=by rw[au,<-Y];exact fu.k6 al.row cC y b3
    have gG:=aQ x (by simp[aw]) y (by simp[au]);rw[al.dN]at ag ct;refine dk ?_;refine bV.mk I (dU.mk _ ct ?_);refine N ?_;refine bn gG ?_;refine eQ ?_;refine eO (λh=>?_) (λh=>?_);rotate_left
    .refine N ?_;exact⟨rfl,lN λe=>by rw[aw,au]at e;simp at e h;have:=List.append_inj e (by simp[Y]);simp at this;exact h this.2.1⟩
    .refine N ?_;exact bt () _ _ ⟨cC++[y],b3,by simp[au],by simp[Y],by simp at h;simp[bl,h]⟩ rfl
  .refine dd ?_;have⟨cC,t,au,Y,bl⟩:=a7;have e:t=[]:=by
    have:b.length=cC.length+t.length:=by rw[au];simp
    exact List.eq_nil_of_length_eq_zero I
   rw[e,kE]at au;exact⟨rfl,by rw[au,bl];simp⟩
open Classical in
def z6:∀t:al,t.b0->∀u:al,u.b0->dz C 170 [.J (.agg t.cells),.J (.agg u.cells)] λv=>v=.bool (decide (t.aA=u.aA)):=
 al.ind λt bQ au u hu=>by
  have Y:=au.len;have ar:=hu.len;rw[ex]at Y ar;have dv:=OA aa t.g u.g t.l u.l I I (λx M y aE=>bQ x M (au.l0 M) y (hu.l0 aE));have e:t.aA=u.aA↔t.ay=u.ay/\t.l.map al.aA=u.l.map al.aA:=by rw[al.jD,al.jD];simp
  refine aa.z 170 ff rfl rfl ?_;refine N ?_;refine cQ (λh=>?_) (λh=>?_);rotate_left
  .refine N ?_;exact⟨rfl,lN λx=>by rw[e]at x;exact h x.1⟩
  refine N ?_;refine bn dv ?_;refine⟨rfl,sf ?_⟩;rw[e];simp[h]
open Classical in
def Xd(aj an:Nat)(a b:List c3)(aC:a.length<1000000)(aB:b.length<1000000)(y3:∀x∈a,x.ok)(bN:∀x∈b,x.ok):dz C 172 [.J (.aH aj (a.map c3.row)),.J (.aH an (b.map c3.row))] λv=>v=.bool (decide (a.map c3.aA=b.map c3.aA)):=by
 refine aa.z 172 (gK [(0,[5,6],[],[])]) rfl rfl ?_;have hm:(a.map c3.row).length=a.length:=bW;have aD:(b.map c3.row).length=b.length:=bW;refine N ?_;refine eQ ?_;refine ch (λh=>?_) (λh=>?_);rotate_left
 .refine N ?_;exact⟨rfl,lN λe=>h (by have:=fr List.length e;simpa using this)⟩
 .refine N ?_;refine kA c3.row a 3 (λd (_:Unit)=>[]) (λd _=>[]) (λd _=>∃cC t,b=cC++t/\cC.length=d.length/\d.map c3.aA=cC.map c3.aA) ⟨(),⟨[],b,rfl,rfl,rfl⟩,rfl⟩ (λd _ x r ba aw be ag a7 bt=>?_) (λ_ ba a7=>?_)
  .have⟨cC,t,au,Y,bl⟩:=a7;have vt:a.length=b.length:=I;rcases t with _|⟨y,b3⟩
   .rw[kE]at au;subst au;rw[aw]at vt;simp[Y]at vt
   .have ct:fT (b.map c3.row) d.length=c3.row y:=by rw[au,<-Y];exact fu.k6 c3.row cC y b3
    have tg:=y3 x (by simp[aw]);have u3:=bN y (by simp[au]);have gG:=JC aa x.g y.g x.ec y.ec (by have:=tg.2.1;omega) (by have:=u3.2.1;omega);have dv:a.map c3.aA=b.map c3.aA->x.ay=y.ay/\x.ec=y.ec:=λe=>by rw[aw,au]at e;simp at e;have:=List.append_inj e (by simp[Y]);simp[c3.aA]at this;exact this.2.1
    unfold c3.row at ag ct;refine dk ?_;refine bV.mk I (dU.mk _ ct ?_);refine N ?_;refine eQ ?_;refine cQ (λD=>?_) (λD=>?_);rotate_left
    .refine N ?_;exact⟨rfl,lN λe=>D (dv e).1⟩
    .refine dk ?_;refine bV.mk I (dU.mk _ ct ?_);refine N ?_;refine bn gG ?_;refine eQ ?_;refine eO (λh=>?_) (λh=>?_);rotate_left
     .refine N ?_;exact⟨rfl,lN λe=>by simp[(dv e).2]at h⟩
     .refine N ?_;exact bt () _ _ ⟨cC++[y],b3,by simp[au],by simp[Y],by simp at h;simp[bl,h,D,c3.aA]⟩ rfl
  .refine dd ?_;have⟨cC,t,au,Y,bl⟩:=a7;have e:t=[]:=by
    have:b.length=cC.length+t.length:=by rw[au];simp
    exact List.eq_nil_of_length_eq_zero I
   rw[e,kE]at au;exact⟨rfl,by rw[au,bl];simp⟩
open Classical in
def YM:∀t:ai,t.b0->∀u:ai,u.b0->dz C 173 [.J (.agg t.cells),.J (.agg u.cells),.J (.bool false)] λv=>v=.bool (decide (t.aA=u.aA)):=
 ai.ind λt bQ au u hu=>by
  have⟨_,_,rW,uQ,KX,_,DP,DQ,K3,_⟩:=au.one;have⟨_,_,wN,Pv,aiO,_,al3,Wd,apg,_⟩:=hu.one;have cT:=OA aa t.aj u.aj t.types u.types I I (λx M y aE=>z6 aa x (uQ x M) y (Pv y aE));have cN:=JC aa t.an u.an t.cg u.cg I I;have c4:(t.bM.map dI.row).length=t.bM.length:=bW;have cl:(u.bM.map dI.row).length=u.bM.length:=bW;have dm:(t.kids.map ai.row).length=t.kids.length:=bW;have fp:(u.kids.map ai.row).length=u.kids.length:=bW;have e:t.aA=u.aA↔t.kind=u.kind/\t.ay=u.ay/\t.mem=u.mem/\t.num=u.num/\t.types.map al.aA=u.types.map al.aA/\t.cg=u.cg/\t.bM.map dI.aA=u.bM.map dI.aA/\t.kids.map ai.aA=u.kids.map ai.aA:=by rw[ai.jD,ai.jD];simp
  refine aa.z 173 (gK [(0,[10,11],[],[3,4]),(2,[12,13],[],[3,4])]) rfl rfl ?_;refine dY λh=>?_;refine dY λD=>?_;refine dY λF=>?_;refine dY λaq=>?_;refine N ?_;refine bn cT ?_;refine dY λaL=>?_;refine N ?_;refine bn cN ?_;refine dY λbO=>?_;refine N ?_;refine eQ ?_;refine ch (λcr=>?_) (λcr=>?_);rotate_left
  .refine N ?_;exact⟨rfl,lN λx=>by rw[e]at x;have:=fr List.length x.2.2.2.2.2.2.1;simp at this;omega⟩
  refine N ?_;refine eQ ?_;refine ch (λfK=>?_) (λfK=>?_);rotate_left
  .refine N ?_;exact⟨rfl,lN λx=>by rw[e]at x;have:=fr List.length x.2.2.2.2.2.2.2;simp at this;omega⟩
  refine N ?_;refine kA dI.row t.bM 6 (λd (_:Unit)=>[]) (λd _=>[(3,.box 45 11 (.cb t.cells)),(4,.box 45 11 (.cb u.cells))]) (λd _=>∃cC r,u.bM=cC++r/\cC.length=d.length/\d.map dI.aA=cC.map dI.aA) ⟨(),⟨[],u.bM,rfl,rfl,rfl⟩,rfl⟩ (λd _ x r ba aw be ag a7 bt=>?_) (λ_ ba a7=>?_)
  .have⟨cC,s,ap,Y,bl⟩:=a7;rcases s with _|⟨y,b3⟩
   .have gV:=fr List.length aw;have gA:=fr List.length ap;simp at gV gA;omega
   .have ct:fT (u.bM.map dI.row) d.length=dI.row y:=by rw[ap,<-Y];exact fu.k6 dI.row cC y b3
    have tg:=DQ x (by simp[aw]);have u3:=Wd y (by simp[ap]);have gG:=JC aa x.g y.g x.names y.names (by have:=tg.2.1;omega) (by have:=u3.2.1;omega);have dv:t.aA=u.aA->x.ma=y.ma/\x.case=y.case/\x.names=y.names:=λz=>by rw[e]at z;have z:=z.2.2.2.2.2.2.1;rw[aw,ap]at z;simp at z;have:=List.append_inj z (by simp[Y]);simp[dI.aA]at this;exact this.2.1
    unfold dI.row at ag ct;refine dk ?_;refine bV.mk I (dU.mk _ ct ?_);refine dY λaj=>?_;refine dk ?_;refine bV.mk I (dU.mk _ ct ?_);refine dY λan=>?_;refine dk ?_;refine bV.mk I (dU.mk _ ct ?_);refine N ?_;refine bn gG ?_;refine dY λaM=>?_;refine N ?_;exact bt () _ _ ⟨cC++[y],b3,by simp[ap],by simp[Y],by simp at aj aM;simp[bl,dI.aA,aj,an,aM]⟩ rfl
  .have⟨cC,s,ap,Y,bl⟩:=a7;have aP:s=[]:=by have gA:=fr List.length ap;simp at gA;exact List.eq_nil_of_length_eq_zero I
   rw[aP,kE]at ap;rw[<-ap]at bl;clear ap Y aP;refine dd ?_;refine kA ai.row t.kids 7 (λd (_:Unit)=>[]) (λd _=>[(3,.box 45 11 (.cb t.cells)),(4,.box 45 11 (.cb u.cells))]) (λd _=>∃cC r,u.kids=cC++r/\cC.length=d.length/\d.map ai.aA=cC.map ai.aA) ⟨(),⟨[],u.kids,rfl,rfl,rfl⟩,rfl⟩ (λd _ x r ba aw be ag a7 bt=>?_) (λ_ ba a7=>?_)
   .have⟨cC,s,ap,Y,ar⟩:=a7;rcases s with _|⟨y,b3⟩
    .have gV:=fr List.length aw;have gA:=fr List.length ap;simp at gV gA;omega
    .have ct:fT (u.kids.map ai.row) d.length=ai.row y:=by rw[ap,<-Y];exact fu.k6 ai.row cC y b3
     have M:x∈t.kids:=by simp[aw]
     have aE:y∈u.kids:=by simp[ap]
     have gG:=bQ x M (au.l0 M) y (hu.l0 aE);have dv:t.aA=u.aA->x.aA=y.aA:=λz=>by rw[e]at z;have z:=z.2.2.2.2.2.2.2;rw[aw,ap]at z;simp at z;have:=List.append_inj z (by simp[Y]);simp at this;exact this.2.1
     rw[ai.dN]at ag ct;refine dk ?_;refine bV.mk I (dU.mk _ ct ?_);refine N ?_;refine bn gG ?_;refine dY λaM=>?_;refine N ?_;exact bt () _ _ ⟨cC++[y],b3,by simp[ap],by simp[Y],by simp at aM;simp[ar,aM]⟩ rfl
   .have⟨cC,s,ap,Y,ar⟩:=a7;have aP:s=[]:=by have gA:=fr List.length ap;simp at gA;exact List.eq_nil_of_length_eq_zero I
    rw[aP,kE]at ap;rw[<-ap]at ar;refine dd ?_;refine⟨rfl,?_⟩;have z:t.aA=u.aA:=by rw[e];simp at aL bO;exact⟨h,D,F,aq,aL,bO,bl,ar⟩
    simp[z]
open Classical in
def apm(a b:dX)(aC:a.ok)(aB:b.ok):dz C 99 [.J (.agg a.row),.J (.agg b.row)] λv=>v=.bool (decide (a.aA=b.aA)):=by
 unfold dX.ok at aC aB;have e0:=JC aa a.aj b.aj a.params b.params I I;have y3:∀x∈a.fields,x.ok:=by simp_all
 have bN:∀x∈b.fields,x.ok:=by simp_all
 have c4:(a.fields.map eT.row).length=a.fields.length:=bW;have cl:(b.fields.map eT.row).length=b.fields.length:=bW;have cH:a.fields.length<100:=by simp_all
 have cq:b.fields.length<100:=by simp_all
 have fg:a.aA=b.aA↔a.since=b.since/\a.dr=b.dr/\a.e6=b.e6/\a.ay=b.ay/\a.params=b.params/\a.fields.map eT.aA=b.fields.map eT.aA:=by cases a;cases b;simp only[dX.aA,dX.mk.injEq,true_and]<;>(constructor<;>(intro h;simp_all))
 have e:a.aA=b.aA->a.fields.length=b.fields.length/\_:=λz=>by have z:=fg.1 z;exact⟨by simpa using fr List.length z.2.2.2.2.2,z⟩
 clear aC aB;refine aa.z 99 (gK [(0,[7,8],[],[2,3])]) rfl rfl ?_;unfold dX.row;refine dY λbr=>?_;refine dY λD=>?_;refine dY λF=>?_;refine dY λaq=>?_;refine N ?_;refine bn e0 ?_;refine dY λaL=>?_;refine dY λbO=>?_;refine N ?_;refine kA eT.row a.fields 5 (λd (_:Unit)=>[]) (λd _=>[(2,.box 74 6 (.cb a.row)),(3,.box 74 6 (.cb b.row))]) (λd _=>∃cC r,b.fields=cC++r/\cC.length=d.length/\d.map eT.aA=cC.map eT.aA) ⟨(),⟨[],b.fields,rfl,rfl,rfl⟩,rfl⟩ (λd _ x r ba aw be ag a7 bt=>?_) (λ_ ba a7=>?_)
 .have⟨cC,s,ap,Y,bl⟩:=a7;rcases s with _|⟨y,b3⟩
  .have gV:=fr List.length aw;have gA:=fr List.length ap;simp at gV gA;omega
  .have ct:fT (b.fields.map eT.row) d.length=eT.row y:=by rw[ap,<-Y];exact fu.k6 eT.row cC y b3
   have tg:=y3 x (by simp[aw]);have u3:=bN y (by simp[ap]);unfold eT.ok at tg u3;have Ke:=z6 aa x.bL (by simp_all) y.bL (by simp_all);have s3:x.aA=y.aA↔x.dr=y.dr/\x.ay=y.ay/\x.bL.aA=y.bL.aA:=by cases x;cases y;simp only[eT.aA,eT.mk.injEq,true_and]<;>(constructor<;>(intro h;simp_all))
   have e:a.aA=b.aA->x.dr=y.dr/\x.ay=y.ay/\x.bL.aA=y.bL.aA:=λz=>by rw[<-s3];rw[fg]at z;have z:=z.2.2.2.2.2;rw[aw,ap]at z;simp at z;have:=List.append_inj z (by simp[Y]);simp at this;exact this.2.1
   unfold eT.row at ag ct;refine dk ?_;refine bV.mk I (dU.mk _ ct ?_);refine dY λVu=>?_;refine dk ?_;refine bV.mk I (dU.mk _ ct ?_);refine dY λGb=>?_;refine dk ?_;refine bV.mk I (dU.mk _ ct ?_);refine N ?_;refine bn Ke ?_;refine dY λnN=>?_;refine N ?_;refine bt () _ _ ⟨cC++[y],b3,by simp[ap],by simp[Y],?_⟩ rfl;have:x.aA=y.aA:=by simp_all
   simp[bl,this]
 .have⟨cC,s,ap,Y,bl⟩:=a7;have aP:s=[]:=by have gA:=fr List.length ap;simp at gA;exact List.eq_nil_of_length_eq_zero I
  rw[aP,kE]at ap;rw[<-ap]at bl;refine dd ?_;refine⟨rfl,?_⟩;have z:a.aA=b.aA:=by simp_all
  simp[z]
open Classical in
def aq1(a b:dV)(aC:a.ok)(aB:b.ok):dz C 100 [.J (.agg a.row),.J (.agg b.row)] λv=>v=.bool (decide (a.aA=b.aA)):=by
 unfold dV.ok at aC aB;have e0:=JC aa a.aj b.aj a.params b.params I I;have y3:∀x∈a.cases,x.ok:=by simp_all
 have bN:∀x∈b.cases,x.ok:=by simp_all
 have c4:(a.cases.map fl.row).length=a.cases.length:=bW;have cl:(b.cases.map fl.row).length=b.cases.length:=bW;have cH:a.cases.length<100:=by simp_all
 have cq:b.cases.length<100:=by simp_all
 have fg:a.aA=b.aA↔a.since=b.since/\a.dr=b.dr/\a.e6=b.e6/\a.ay=b.ay/\a.params=b.params/\a.cases.map fl.aA=b.cases.map fl.aA:=by cases a;cases b;simp only[dV.aA,dV.mk.injEq,true_and]<;>(constructor<;>(intro h;simp_all))
 have e:a.aA=b.aA->a.cases.length=b.cases.length/\_:=λz=>by have z:=fg.1 z;exact⟨by simpa using fr List.length z.2.2.2.2.2,z⟩
 clear aC aB;refine aa.z 100 (gK [(0,[7,8],[],[2,3])]) rfl rfl ?_;unfold dV.row;refine dY λbr=>?_;refine dY λD=>?_;refine dY λF=>?_;refine dY λaq=>?_;refine N ?_;refine bn e0 ?_;refine dY λaL=>?_;refine dY λbO=>?_;refine N ?_;refine kA fl.row a.cases 5 (λd (_:Unit)=>[]) (λd _=>[(2,.box 78 6 (.cb a.row)),(3,.box 78 6 (.cb b.row))]) (λd _=>∃cC r,b.cases=cC++r/\cC.length=d.length/\d.map fl.aA=cC.map fl.aA) ⟨(),⟨[],b.cases,rfl,rfl,rfl⟩,rfl⟩ (λd _ x r ba aw be ag a7 bt=>?_) (λ_ ba a7=>?_)
 .have⟨cC,s,ap,Y,bl⟩:=a7;rcases s with _|⟨y,b3⟩
  .have gV:=fr List.length aw;have gA:=fr List.length ap;simp at gV gA;omega
  .have ct:fT (b.cases.map fl.row) d.length=fl.row y:=by rw[ap,<-Y];exact fu.k6 fl.row cC y b3
   have tg:=y3 x (by simp[aw]);have u3:=bN y (by simp[ap]);unfold fl.ok at tg u3;have Ke:=OA aa x.g y.g x.gL y.gL I I (λx M y aE=>z6 aa x (by simp_all) y (by simp_all));have s3:x.aA=y.aA↔x.ind=y.ind/\x.ay=y.ay/\x.gL.map al.aA=y.gL.map al.aA:=by cases x;cases y;simp only[fl.aA,fl.mk.injEq,true_and]<;>(constructor<;>(intro h;simp_all))
   have e:a.aA=b.aA->x.ind=y.ind/\x.ay=y.ay/\x.gL.map al.aA=y.gL.map al.aA:=λz=>by rw[<-s3];rw[fg]at z;have z:=z.2.2.2.2.2;rw[aw,ap]at z;simp at z;have:=List.append_inj z (by simp[Y]);simp at this;exact this.2.1
   unfold fl.row at ag ct;refine dk ?_;refine bV.mk I (dU.mk _ ct ?_);refine dY λVu=>?_;refine dk ?_;refine bV.mk I (dU.mk _ ct ?_);refine dY λGb=>?_;refine dk ?_;refine bV.mk I (dU.mk _ ct ?_);refine N ?_;refine bn Ke ?_;refine dY λnN=>?_;refine N ?_;refine bt () _ _ ⟨cC++[y],b3,by simp[ap],by simp[Y],?_⟩ rfl;have:x.aA=y.aA:=by simp_all
   simp[bl,this]
 .have⟨cC,s,ap,Y,bl⟩:=a7;have aP:s=[]:=by have gA:=fr List.length ap;simp at gA;exact List.eq_nil_of_length_eq_zero I
  rw[aP,kE]at ap;rw[<-ap]at bl;refine dd ?_;refine⟨rfl,?_⟩;have z:a.aA=b.aA:=by simp_all
  simp[z]
open Classical in
def arc(a b:eG)(aC:a.ok)(aB:b.ok):dz C 101 [.J (.agg a.row),.J (.agg b.row)] λv=>v=.bool (decide (a.aA=b.aA)):=by
 unfold eG.ok at aC aB;have y3:∀x∈a.eu,x.ok:=by simp_all
 have bN:∀x∈b.eu,x.ok:=by simp_all
 have c4:(a.eu.map fS.row).length=a.eu.length:=bW;have cl:(b.eu.map fS.row).length=b.eu.length:=bW;have cH:a.eu.length<100:=by simp_all
 have cq:b.eu.length<100:=by simp_all
 have fg:a.aA=b.aA↔a.since=b.since/\a.dr=b.dr/\a.pV=b.pV/\a.ay=b.ay/\a.eu.map fS.aA=b.eu.map fS.aA:=by cases a;cases b;simp only[eG.aA,eG.mk.injEq,true_and]<;>(constructor<;>(intro h;simp_all))
 have e:a.aA=b.aA->a.eu.length=b.eu.length/\_:=λz=>by have z:=fg.1 z;exact⟨by simpa using fr List.length z.2.2.2.2,z⟩
 clear aC aB;refine aa.z 101 (gK [(0,[6,7,9,10],[],[2,3])]) rfl rfl ?_;unfold eG.row;refine dY λbr=>?_;refine dY λD=>?_;refine dY λF=>?_;refine dY λaq=>?_;refine dY λaL=>?_;refine N ?_;refine kA fS.row a.eu 5 (λd (_:Unit)=>[]) (λd _=>[(2,.box 82 5 (.cb a.row)),(3,.box 82 5 (.cb b.row))]) (λd _=>∃cC r,b.eu=cC++r/\cC.length=d.length/\d.map fS.aA=cC.map fS.aA) ⟨(),⟨[],b.eu,rfl,rfl,rfl⟩,rfl⟩ (λd _ x r ba aw be ag a7 bt=>?_) (λ_ ba a7=>?_)
 .have⟨cC,s,ap,Y,bl⟩:=a7;rcases s with _|⟨y,b3⟩
  .have gV:=fr List.length aw;have gA:=fr List.length ap;simp at gV gA;omega
  .have ct:fT (b.eu.map fS.row) d.length=fS.row y:=by rw[ap,<-Y];exact fu.k6 fS.row cC y b3
   have tg:=y3 x (by simp[aw]);have u3:=bN y (by simp[ap]);unfold fS.ok at tg u3;have UT:=OA aa x.g y.g x.args y.args I I (λx M y aE=>z6 aa x (by simp_all) y (by simp_all));have Ke:=z6 aa x.eW (by simp_all) y.eW (by simp_all);have s3:x.aA=y.aA↔x.ay=y.ay/\x.args.map al.aA=y.args.map al.aA/\x.eW.aA=y.eW.aA/\x.gk=y.gk:=by cases x;cases y;simp only[fS.aA,fS.mk.injEq,true_and]<;>(constructor<;>(intro h;simp_all))
   have e:a.aA=b.aA->x.ay=y.ay/\x.args.map al.aA=y.args.map al.aA/\x.eW.aA=y.eW.aA/\x.gk=y.gk:=λz=>by rw[<-s3];rw[fg]at z;have z:=z.2.2.2.2;rw[aw,ap]at z;simp at z;have:=List.append_inj z (by simp[Y]);simp at this;exact this.2.1
   unfold fS.row at ag ct;refine dk ?_;refine bV.mk I (dU.mk _ ct ?_);refine dY λVu=>?_;refine N ?_;refine bn UT ?_;refine dY λGb=>?_;refine N ?_;refine bn Ke ?_;refine dY λnN=>?_;refine dY λVv=>?_;refine N ?_;refine bt () _ _ ⟨cC++[y],b3,by simp[ap],by simp[Y],?_⟩ rfl;have:x.aA=y.aA:=by simp_all
   simp[bl,this]
 .have⟨cC,s,ap,Y,bl⟩:=a7;have aP:s=[]:=by have gA:=fr List.length ap;simp at gA;exact List.eq_nil_of_length_eq_zero I
  rw[aP,kE]at ap;rw[<-ap]at bl;refine dd ?_;refine⟨rfl,?_⟩;have z:a.aA=b.aA:=by simp_all
  simp[z]
open Classical in
def ajW(a b:cu)(aC:a.ok)(aB:b.ok):dz C 103 [.J (.agg a.row),.J (.agg b.row),.J (.bool false)] λv=>v=.bool (decide (a.aA=b.aA)):=by
 unfold cu.ok at aC aB;have e0:=Xd aa a.aj b.aj a.dB b.dB I I (by simp_all) (by simp_all);have gB:=z6 aa a.eW (by simp_all) b.eW (by simp_all);have P1:=YM aa a.body (by simp_all) b.body (by simp_all);have y3:∀x∈a.args,x.ok:=by simp_all
 have bN:∀x∈b.args,x.ok:=by simp_all
 have c4:(a.args.map cG.row).length=a.args.length:=bW;have cl:(b.args.map cG.row).length=b.args.length:=bW;have cH:a.args.length<100:=by simp_all
 have cq:b.args.length<100:=by simp_all
 have fg:a.aA=b.aA↔a.since=b.since/\a.dr=b.dr/\a.inl=b.inl/\a.ay=b.ay/\a.dB.map c3.aA=b.dB.map c3.aA/\a.eW.aA=b.eW.aA/\a.has=b.has/\a.args.map cG.aA=b.args.map cG.aA/\a.body.aA=b.body.aA:=by cases a;cases b;simp only[cu.aA,cu.mk.injEq,true_and]<;>(constructor<;>(intro h;simp_all))
 have e:a.aA=b.aA->a.args.length=b.args.length/\_:=λz=>by have z:=fg.1 z;exact⟨by simpa using fr List.length z.2.2.2.2.2.2.2.1,z⟩
 clear aC aB;refine aa.z 103 (gK [(0,[7,8,10,11],[],[3,4])]) rfl rfl ?_;unfold cu.row;refine dY λbr=>?_;refine dY λD=>?_;refine dY λF=>?_;refine dY λaq=>?_;refine N ?_;refine bn e0 ?_;refine dY λaL=>?_;refine N ?_;refine bn gB ?_;refine dY λbO=>?_;refine dY λcr=>?_;refine dY λfK=>?_;refine N ?_;refine bn P1 ?_;refine dY λhI=>?_;refine N ?_;refine kA cG.row a.args 6 (λd (_:Unit)=>[]) (λd _=>[(3,.box 49 20 (.cb a.row)),(4,.box 49 20 (.cb b.row))]) (λd _=>∃cC r,b.args=cC++r/\cC.length=d.length/\d.map cG.aA=cC.map cG.aA) ⟨(),⟨[],b.args,rfl,rfl,rfl⟩,rfl⟩ (λd _ x r ba aw be ag a7 bt=>?_) (λ_ ba a7=>?_)
 .have⟨cC,s,ap,Y,bl⟩:=a7;rcases s with _|⟨y,b3⟩
  .have gV:=fr List.length aw;have gA:=fr List.length ap;simp at gV gA;omega
  .have ct:fT (b.args.map cG.row) d.length=cG.row y:=by rw[ap,<-Y];exact fu.k6 cG.row cC y b3
   have tg:=y3 x (by simp[aw]);have u3:=bN y (by simp[ap]);unfold cG.ok at tg u3;have UT:=z6 aa x.bL (by simp_all) y.bL (by simp_all);have aid:=YM aa x.gk (by simp_all) y.gk (by simp_all);have s3:x.aA=y.aA↔x.ay=y.ay/\x.bL.aA=y.bL.aA/\x.has=y.has/\x.gk.aA=y.gk.aA:=by cases x;cases y;simp only[cG.aA,cG.mk.injEq,true_and]<;>(constructor<;>(intro h;simp_all))
   have e:a.aA=b.aA->x.ay=y.ay/\x.bL.aA=y.bL.aA/\x.has=y.has/\x.gk.aA=y.gk.aA:=λz=>by rw[<-s3];rw[fg]at z;have z:=z.2.2.2.2.2.2.2.1;rw[aw,ap]at z;simp at z;have:=List.append_inj z (by simp[Y]);simp at this;exact this.2.1
   unfold cG.row at ag ct;refine dk ?_;refine bV.mk I (dU.mk _ ct ?_);refine dY λVu=>?_;refine N ?_;refine bn UT ?_;refine dY λGb=>?_;refine dY λnN=>?_;refine N ?_;refine bn aid ?_;refine dY λVv=>?_;refine N ?_;refine bt () _ _ ⟨cC++[y],b3,by simp[ap],by simp[Y],?_⟩ rfl;have:x.aA=y.aA:=by simp_all
   simp[bl,this]
 .have⟨cC,s,ap,Y,bl⟩:=a7;have aP:s=[]:=by have gA:=fr List.length ap;simp at gA;exact List.eq_nil_of_length_eq_zero I
  rw[aP,kE]at ap;rw[<-ap]at bl;refine dd ?_;refine⟨rfl,?_⟩;have z:a.aA=b.aA:=by simp_all
  simp[z]
end
def PJ(gS a b:bj)(l:List bj):cU gS (a::b::l)=a++(gS++cU gS (b::l)):=by rw[cU];simp
def T7(gS x:bj):∀d:List bj,d≠[]->cU gS (d++[x])=cU gS d++(gS++x)
 |[],h=>absurd rfl h
 |[a],_=>by simp[cU]
 |a::b::d,_=>by have:=T7 gS x (b::d) (by simp);simp only[lJ]at this ⊢;rw[PJ,PJ,this];simp
def KV(gS:bj)(x:bj)(r:List bj):∀d:List bj,(cU gS d).length+x.length<=(cU gS (d++x::r)).length/\(d≠[]->(cU gS d).length+gS.length+x.length<=(cU gS (d++x::r)).length)
 |[]=>by cases r<;>simp[cU]
 |[a]=>by cases r<;>simp[cU]<;>omega
 |a::b::d=>by have:=KV gS x r (b::d);simp only[lJ,cU,fP,ne_eq,reduceCtorEq,not_false_eq_true,true_implies]at this ⊢;omega
section
variable{C:Nat->cE}{ext:Nat->Option eS}{Q:e9}(aa:Env C ext Q)
include aa
def EC(g:Nat)(l:List bj)(gS:bj)(Y:l.length<1000000)(aB:(cU gS l).length<100000000000000000):dz C 164 [.J (.aH g (l.map b6)),.J (.str gS)] λv=>v=.str (cU gS l):=by
 refine aa.z 164 (gK [(0,[4,5,9,10],[],[])]) rfl rfl ?_;have hm:(l.map b6).length=l.length:=bW;have oq:cU gS []=[]:=by unfold cU;rfl
 refine N ?_;refine kA b6 l 8 (λd (_:Unit)=>[(3,.J (.str (cU gS d)))]) (λd _=>[]) (λd _=>True) ⟨(),trivial,by rw[oq];rfl⟩ (λd _ x r ba aw be ag a7 bt=>?_) (λ_ ba a7=>?_)
 .have bq:=KV gS x r d;rw[<-aw]at bq;refine dk ?_;refine eh (λh=>?_) (λh=>?_)
  .have aY:d≠[]:=by intro e;subst e;simp at h
   have a0:=bq.2 aY;refine bw ?_;exact bt () _ _ trivial (by rw[T7 gS x d aY,k9];rfl)
  .have aY:d=[]:=List.eq_nil_of_length_eq_zero I;have a0:=bq.1;refine bw ?_;exact bt () _ _ trivial (by subst aY;rw[oq];unfold cU;rfl)
 .refine dd ?_;exact⟨rfl,rfl⟩
end
end Go.Tx
