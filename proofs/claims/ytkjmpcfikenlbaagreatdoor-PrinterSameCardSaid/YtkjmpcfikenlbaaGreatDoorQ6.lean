/- A part. -/
import Derived.Test.YtkjmpcfikenlbaaGreatDoorQ5
set_option linter.all false
namespace Go.Tx
open Go Go.Ev
set_option maxRecDepth 100000
set_option maxHeartbeats 8000000
attribute [local irreducible] eo eA bU eE eJ eN eX
def ZD{a b:ai}{K:List ai}{x:ai}(aD:oe a)(l9:oe b)(M:x.bc≠[])(ar:a.kind=b.kind)(D:a.ay=b.ay)(F:a.mem=b.mem)(aq:a.types=b.types)(aL:a.bM=b.bM)(aC:a.kids=K)(aB:b.kids=K++[x])(hm:a.cg=b.cg\/(a.kind=11/\∃n,b.cg=a.cg++[n])){n B}(h:wr n B a=wr n B b):False:=by
 have bx:=sP aD;have Gk:=sP l9;have xx:=AL aD;have Uy:=AL l9;have DZ:b.kids.length=a.kids.length+1:=by rw[aB,aC,fP];rfl
 have alJ:a.kind=9\/a.kind=10\/a.kind=11\/a.kind=14\/a.kind=16:=by
  have:=bx.g0;by_cases q:a.kind=9\/a.kind=10\/a.kind=11\/a.kind=14\/a.kind=16
  .exact q
  exfalso;by_cases iw:a.kind=1\/a.kind=2\/a.kind=3\/a.kind=20
  .have:=bx.g3 iw;have:=Gk.g3 (by rw[<-ar];exact iw);omega
  by_cases bC:a.kind=4\/a.kind=6\/a.kind=8\/a.kind=18\/a.kind=19
  .have:=bx.eg bC;have:=Gk.eg (by rw[<-ar];exact bC);omega
  by_cases aX:a.kind=5
  .have:=bx.fJ aX;have:=Gk.fJ (by rw[<-ar];exact aX);omega
  by_cases b4:a.kind=7\/a.kind=12\/a.kind=17\/a.kind=23\/a.kind=24
  .have:=bx.cH b4;have:=Gk.cH (by rw[<-ar];exact b4);omega
  by_cases dc:a.kind=13
  .have aP:=xx.2.1 dc;have a3:=Uy.2.1 (by rw[<-ar];exact dc);rcases hm with hm|hm
   .rw[hm]at aP;omega
   .omega
  by_cases eC:a.kind=15
  .have aP:=xx.2.2 eC;have a3:=Uy.2.2 (by rw[<-ar];exact eC);rw[aL]at aP;omega
  omega
 have s8:=xF (e:=a) (b7:=b) (Bc ar I) (CT ar aq) h;have len:=fr List.length s8;have hK:b.kids.map ai.bc=a.kids.map ai.bc++[x.bc]:=by rw[aB,aC,jj];rfl
 have lt:=GB [44,32] M (a.kids.map ai.bc);rcases alJ with k|k|k|k|k
 .rw[vF k,vF (by rw[<-ar];exact k),hK,<-D,<-aq]at len;simp only[fP,lI]at len lt;omega
 .rw[uY k,uY (by rw[<-ar];exact k),hK,<-D,<-aq,<-F]at len;simp only[fP,lI]at len lt;omega
 .rw[sW k,sW (by rw[<-ar];exact k),hK,<-D,<-aq]at len;have aP:=xx.1 k;have a3:=Uy.1 (by rw[<-ar];exact k);rcases hm with hm|⟨_,m,hm⟩
  .rw[hm]at aP;omega
  .have:=apj a.cg (a.kids.map ai.bc) (by rw[ex];exact aP) m x.bc;rw[hm]at len;simp only[fP]at len;omega
 .rw[ys k,ys (by rw[<-ar];exact k),hK,<-aq,<-F,ev (I:0<b.kids.length)]at len;simp only[fP,lI,lM,md]at len lt;split at len
  .simp only[fP,lM,md]at len;omega
  .simp only[md]at len;omega
 .rw[DI k,DI (by rw[<-ar];exact k),hK,<-aq]at len;simp only[fP,lI]at len lt;omega
def apr{e:ai}(fo G)(br:0<e.kids.length)(hm:fo=e.cg\/(e.kind=11/\e.kids.length<=e.cg.length/\fo=e.cg.take (e.kids.length - 1))):sC e (e.w e.ay e.mem e.types fo e.bM (e.kids.take (e.kids.length - 1)) G):=by
 intro aD l9 M1 n B h;exfalso;rcases List.eq_nil_or_concat e.kids with q|⟨K,x,q⟩
 .rw[q]at br;simp at br
 rw[List.concat_eq_append]at q;have gP:e.kids.take (e.kids.length - 1)=K:=by rw[q];simp
 refine ZD (a:=e.w e.ay e.mem e.types fo e.bM (e.kids.take (e.kids.length - 1)) G) (b:=e) (K:=K) (x:=x) l9 aD (aiE (M1 x (by rw[q];simp))) rfl rfl rfl rfl rfl gP q ?_ h.symm;rcases hm with hm|⟨ar,asy,hm⟩
 .exact .inl hm
 .have:=(AL aD).1 ar;rcases List.eq_nil_or_concat e.cg with aX|⟨bb,m,aX⟩
  .rw[aX,md]at this;omega
  rw[List.concat_eq_append]at aX;refine .inr ⟨ar,m,?_⟩;show e.cg=fo++[m];rw[hm,<-this,aX];simp
def amY{e:ai}(fo G)(x:ai)(M:x.bc≠[])(hm:fo=e.cg\/(e.kind=11/\fo=e.cg++[[97]])):sC e (e.w e.ay e.mem e.types fo e.bM (e.kids++[x]) G):=by
 intro aD l9 M1 n B h;exfalso;refine ZD (a:=e) (b:=e.w e.ay e.mem e.types fo e.bM (e.kids++[x]) G) (K:=e.kids) (x:=x) aD l9 M rfl rfl rfl rfl rfl rfl rfl ?_ h;rcases hm with hm|⟨ar,hm⟩
 .exact .inl hm.symm
 .exact .inr ⟨ar,[97],hm⟩
theorem ahx(T:List bj)(l:List dI)(a:dI)(x:bj)(h:l.length=T.length):pB (l++[a]) (T++[x])=pB l T++[]->False:=by
 intro e;have len:=congrArg List.length e;unfold pB at len;rw[List.zipWith_append h]at len;simp only[List.flatten_append,List.length_append,List.zipWith_cons_cons,List.zipWith_nil_left,List.flatten_cons,List.flatten_nil,List.length_nil]at len;have:0<(mg a x).length:=by unfold mg;simp only[List.length_append,List.length_cons];omega
 omega
def abw{a b:ai}(aD:oe a)(l9:oe b)(k:a.kind=15)(df:b.kind=15){bB:List dI}{r:dI}{K:List ai}{x:ai}(D:a.bM=bB)(F:b.bM=bB++[r])(aq:a.kids=K)(aL:b.kids=K++[x]){n B}(h:wr n B a=wr n B b):False:=by
 have um:=(AL aD).2.2 k;have DZ:=(AL l9).2.2 df;have t0:∀{c:ai},oe c->c.kind=15->c.types=[]:=λaQ q=>List.eq_nil_of_length_eq_zero ((sP aQ).t0 I I I I I I);have bO:=xF (e:=a) (b7:=b) (Bc (k.trans df.symm) I) (CT (k.trans df.symm) (by rw[t0 aD k,t0 l9 df])) h;have qD:a.bn 0=b.bn 0:=by have aj:0<a.kids.length:=I;have an:0<b.kids.length:=I;rw[Ba aj,Ba an];simp only[aq,aL];rw[List.getElem_append_left]
 rw[Ao k I,Ao df I,qD]at bO;have cr:=List.append_cancel_left bO;have hK:(b.kids.map ai.bc).drop 1=(a.kids.map ai.bc).drop 1++[x.bc]:=by rw[aL,aq,jj,List.drop_append_of_le_length (by rw[ex];rw[aq]at um;omega)];rfl
 rw[hK,F,<-D]at cr;exact ahx _ _ _ _ (by rw[qK,ex];omega) (cr.symm.trans (kE _).symm)
def aft{e:ai}(G)(ar:e.kind=15)(br:0<e.bM.length):sC e (e.w e.ay e.mem e.types e.cg (e.bM.take (e.bM.length - 1)) (e.kids.take (min e.bM.length e.kids.length)) G):=by
 intro aD l9 _ n B h;exfalso;have um:=(AL aD).2.2 ar;rcases List.eq_nil_or_concat e.bM with q|⟨bB,r,q⟩
 .rw[q]at br;simp at br
 rcases List.eq_nil_or_concat e.kids with aX|⟨K,x,aX⟩
 .rw[aX]at um;simp at um
 rw[List.concat_eq_append]at q aX;have aP:e.bM.take (e.bM.length - 1)=bB:=by rw[q];simp
 have a3:e.kids.take (min e.bM.length e.kids.length)=K:=by rw[DE I,show e.bM.length=K.length from by rw[aX]at um;simp at um;omega,aX];simp
 exact abw (a:=e.w e.ay e.mem e.types e.cg (e.bM.take (e.bM.length - 1)) (e.kids.take (min e.bM.length e.kids.length)) G) (b:=e) l9 aD ar ar aP q a3 aX h.symm
def anf{e:ai}(a x G)(ar:e.kind=15):sC e (e.w e.ay e.mem e.types e.cg (e.bM++[a]) (e.kids++[x]) G):=by intro aD l9 _ n B h;exfalso;exact abw (a:=e) (b:=e.w e.ay e.mem e.types e.cg (e.bM++[a]) (e.kids++[x]) G) aD l9 ar ar rfl rfl rfl rfl h
def T3{α fH nh:Type}(f:α->fH->nh):∀(l:List α)(T:List fH)(i:Nat)(h:i<T.length)(a:α),List.zipWith f (l.set i a) T=(List.zipWith f l T).set i (f a T[i])
 |[],_,_,_,_=>rfl|b::l,c::T,0,h,a=>rfl
 |b::l,c::T,i+1,h,a=>by have:=T3 f l T i (by simpa using h) a;simp only[List.set_cons_succ,List.zipWith_cons_cons,List.getElem_cons_succ,this]
def XF{e:ai}{k:Nat}(h:k<e.bM.length)(a:dI)(G)(ar:e.kind=15)(aD:oe e){n B}(cw:wr n B e=wr n B (e.w e.ay e.mem e.types e.cg (e.bM.set k a) e.kids G)):∃s,mg e.bM[k] s=mg a s:=by
 have um:=(AL aD).2.2 ar;have D:=xF (e:=e) (b7:=e.w e.ay e.mem e.types e.cg (e.bM.set k a) e.kids G) (Bc rfl I) (CT rfl rfl) cw;rw[Ao ar I,Ao (t:=e.w e.ay e.mem e.types e.cg (e.bM.set k a) e.kids G) ar (by show 0<e.kids.length;omega),A9 I]at D;have F:=List.append_cancel_left D;have hK:k<((e.kids.map ai.bc).drop 1).length:=by rw[qK,ex];omega
 refine⟨((e.kids.map ai.bc).drop 1)[k],?_⟩;refine(((OL (List.zipWith mg e.bM ((e.kids.map ai.bc).drop 1)) k (by rw[List.length_zipWith];omega)).l [123]).r [32,125]).inj ?_;rw[<-T3 mg e.bM _ k hK,<-T3 mg e.bM _ k hK,List.set_getElem_self h];exact F
def ajT{e:ai}(k s G)(h:k<e.bM.length)(ar:e.kind=15)(rZ:e.bM[k].ma=false):sC e (e.w e.ay e.mem e.types e.cg (e.bM.set k {e.bM[k]with case:=s}) e.kids G):=by
 intro aD l9 _ n B cw;have⟨t,au⟩:=XF h _ G ar aD cw;have:e.bM[k].case=s:=by
  by_cases Y:e.bM[k].names.length=0
  .rw[K8 rZ Y,K8 (a:={e.bM[k]with case:=s}) rZ Y]at au;exact List.append_cancel_left (List.append_cancel_right au)
  .rw[HD rZ Y,HD (a:={e.bM[k]with case:=s}) rZ Y]at au;exact((((fa.id.l [32]).r [40]).r (cU [44,32] e.bM[k].names)).r [41]|>.r ([32,45,62,32]++t++[59])).inj au
 rw[AJ,ai.jD,<-this,List.set_getElem_self h]
theorem agD{e:ai}(k g G)(h:k<e.bM.length)(ar:e.kind=15)(rZ:e.bM[k].ma=false):sC e (e.w e.ay e.mem e.types e.cg (e.bM.set k {e.bM[k]with g:=g,names:=e.bM[k].names++[[113]]}) e.kids G):=by
 intro aD l9 _ n B cw;exfalso;obtain⟨t,au⟩:=XF h _ G ar aD cw;have len:=congrArg List.length au;rw[HD (a:={e.bM[k]with g:=g,names:=e.bM[k].names++[[113]]}) rZ (by simp)]at len;by_cases Y:e.bM[k].names.length=0
 .rw[K8 rZ Y]at len;simp only[List.length_append,List.length_cons,List.length_nil]at len;omega
 .rw[HD rZ Y]at len;have:=GB [44,32] (x:=[113]) (by simp) e.bM[k].names;simp only[List.length_append,List.length_cons,List.length_nil]at len;omega
def aql{e b7:ai}(h:lb e b7):e.oC->b7.oC->∀n B,wr n B e=wr n B b7->e.aA=b7.aA:=by
 have iy:∀{a b:ai},sC a b->a.oC->b.oC->∀n B,wr n B a=wr n B b->a.aA=b.aA:=λY D F n B cw=>Y ((ai.xh _).1 D).1 ((ai.xh _).1 F).1 (λx M=>((ai.xh x).1 (((ai.xh _).1 D).2 x M)).1) n B cw;have c4:∀m,(qP m).bc≠[]:=λm=>by rw[Ip rfl];exact aeB _
 induction h with
 |id G=>intro _ _ _ _ _;rw[ai.jD];exact(AJ ..).symm|bool n D F=>exact iy (aqS n D)|wrap x g h _ _=>exact iy (aq2 g h)|ay s G _ D F=>exact iy (akR s G D F)|op s G _ D=>exact iy (aqe s G D)|mem s fo G _ D F=>exact iy (aju s fo G D F)|JZ t G D F=>exact iy (aq6 t G F)|Iv t G D F=>exact iy (aog t G F)|wH fo G D F=>exact iy (apr fo G D F)|zX fo G D=>exact iy (amY fo G _ (c4 1) D)|F1 G D F=>exact iy (aft G D F)|Ku k s G h _ D F=>exact iy (ajT k s G h D F)|I2 k g G h D F=>exact iy (agD k g G h D F)|JM a G _ D=>exact iy (anf a _ G D)
 |@l0 e i y G aN D bQ=>
  intro ef fO n B cw;have⟨c4,cT⟩:=(ai.xh _).1 ef;have⟨cl,cN⟩:=(ai.xh _).1 fO;have au:=xF (e:=e) (b7:=e.k (e.kids.set i y) G) rfl (CT rfl rfl) cw;have⟨m,q,aU,C9,aQ⟩:=akf c4 aN;have en:=aQ e.kids[i] G;have gI:=aQ y G;rw[List.set_getElem_self aN]at en;have fg:(e.k e.kids G).bc=e.bc:=by rw[<-ai.tA,<-e.tA];congr 1;rw[ai.jD e];exact AJ ..
  have:=C9.inj (en.symm.trans ((fg.trans au).trans gI));have aE:y.oC:=cN y (List.mem_set aN y);have an5:=bQ (cT _ (fQ aN)) aE m q this;rw[ai.jD];refine Eq.trans ?_ (AJ ..).symm;rw[List.map_set,<-an5,<-List.map_set,List.set_getElem_self aN]
def ML(s:bj):Nat:=s.foldl (λa b=>a*10+(b.toNat - 48)) 0
def amv:∀n,ML (j8 n)=n:=by
 intro n;induction n using Nat.strongRecOn with
 |ind n bQ=>
  by_cases br:n=0
  .subst br;rw[j8];rfl
  .rw[Gl I];unfold ML;rw[List.foldl_append];have:=bQ (n / 10) I;unfold ML at this;rw[this];show n / 10*10+((UInt8.ofNat (48+n % 10)).toNat - 48)=n;have D:n % 10<10:=mA _ af;rw[Lj];omega
def Tw(n):ML (sl n)=n:=by
 unfold sl;split
 .rename_i h;rw[h];rfl
 .exact amv n
def aqj{n m}(h:sl n=sl m):n=m:=by rw[<-Tw n,h,Tw]
def xI(n p m w):(nc n p m w).length=(if 0<n then 7+(sl n).length else 0)+(if p then 7 else 0)+(if m then w.length+1 else 0):=by
 unfold nc;simp only[fP];congr 1
 .congr 1
  .split<;>simp<;>omega
  .cases p<;>rfl
 .cases m<;>simp
def RY{n cI p m w}(h:nc n p m w=nc cI p m w):n=cI:=by
 unfold nc at h;have h:=List.append_cancel_right (List.append_cancel_right h);have len:=fr List.length h;by_cases q:0<n<;>by_cases eP:0<cI
 .rw[ev q,ev eP]at h;exact aqj (List.append_cancel_left (List.append_cancel_right h))
 .rw[ev q,cO eP]at len;simp at len
 .rw[cO q,ev eP]at len;simp at len
 .omega
theorem VT(T:List bj)(x:bj):(g6 T).length<(g6 (T++[x])).length:=by
 rw[AE (T:=T++[x]) (by simp)];by_cases h:T=[]
 .subst h;simp[g6]
 .rw[AE h,Nr _ _ _ h];simp only[List.length_append,List.length_cons,List.length_nil];omega
def y7{α:Type}(f:α->bj){l:List α}{i:Nat}(h:i<l.length){y:α}(e:de f l=de f (l.set i y)):f l[i]=f y:=by refine(OL (l.map f) i (by rw[ex];exact h)).inj ?_;rw[<-List.map_set,<-List.map_set,List.set_getElem_self h];exact e
def FE{α:Type}(f:α->bj)(l:List α){x:α}(h:f x≠[]):(de f l).length<(de f (l++[x])).length:=by have:0<(f x).length:=List.length_pos_iff.2 h;rw[abf,fP];omega
def S7{α:Type}(f:α->bj){l:List α}(h:0<l.length)(a1:f l[0]≠[]):(de f (l.drop 1)).length<(de f l).length:=by
 cases l with
 |nil=>simp at h|cons a l=>have:0<(f a).length:=List.length_pos_iff.2 a1;show(de f l).length<(de f (a::l)).length;simp only[de,gg,NQ,fP];omega
def t8{α fH:Type}(f:α->fH){l:List α}{i:Nat}(h:i<l.length){y:α}(e:f l[i]=f y):(l.set i y).map f=l.map f:=by rw[List.map_set,<-e,<-List.map_set,List.set_getElem_self h]
def Y4:∀t∈qg,t.bc≠[]:=by
 intro t h;rw[al.sa];have:t.ay≠[]:=by revert t;decide
 simp[this]
def ans{x y:dX}(h:va x y)(v:Pa x)(iq:Pa y)(e:jL x=jL y):x.aA=y.aA:=by
 have len:=fr List.length e;have a1:∀k (h:k<x.fields.length)(z:eT),jL x=jL {x with an:=249,fields:=x.fields.set k z}->n7 x.fields[k]=n7 z:=λk h z e=>y7 n7 h ((fa.id.l (qc x)).r [125,10]|>.inj e);cases h with
 |dr=>exfalso;simp only[jL,qc,fP,xI]at len;cases q:x.dr<;>simp[q]at len<;>omega
 |e6=>exfalso;simp only[jL,qc,fP,xI]at len;cases q:x.e6<;>simp[q]at len<;>omega
 |PD=>exfalso;have:=VT x.params [84];simp only[jL,qc,fP]at len;omega|since n _=>have:x.since=n:=RY ((((((fa.id.r [115,116,114,117,99,116,32]).r x.ay).r (g6 x.params)).r [32,123,10]).r (de n7 x.fields)).r [125,10]|>.inj e);unfold dX.aA;rw[this]
 |CJ k h=>exfalso;have:=fr List.length (a1 k h _ e);simp only[n7,fP,xI]at this;cases q:x.fields[k].dr<;>simp[q]at this<;>omega
 |Cn k h t _=>
  have fg:=a1 k h _ e;have D:=(((fa.id.l ([32,32]++nc 0 x.fields[k].dr false []++x.fields[k].ay++[58,32])).r [59,10]).inj fg);have f1:=(v.2.2.2 _ (fQ h)).2;have f2:=(iq.2.2.2 {x.fields[k]with bL:=t} (List.mem_set h _)).2;have:x.fields[k].aA=eT.aA {x.fields[k]with bL:=t}:=by unfold eT.aA;rw[EU f1 f2 D]
  unfold dX.aA;rw[t8 eT.aA h this]
 |Dn k h s _=>
  have fg:=a1 k h _ e;have D:=(((((fa.id.l ([32,32]++nc 0 x.fields[k].dr false [])).r [58,32]).r x.fields[k].bL.bc).r [59,10]).inj fg);have:x.fields[k].aA=eT.aA {x.fields[k]with ay:=s}:=by unfold eT.aA;rw[<-D]
  unfold dX.aA;rw[t8 eT.aA h this]
theorem ag0{x y:dV}(h:u2 x y)(e:kl x=kl y):x.aA=y.aA:=by
 have len:=congrArg List.length e;have a1:∀k (h:k<x.cases.length)(z:fl),kl x=kl {x with an:=257,cases:=x.cases.set k z}->mH x.cases[k]=mH z:=λk h z e=>y7 mH h ((fa.id.l (qn x)).r [125,10]|>.inj e);cases h with
 |dr=>exfalso;simp only[kl,qn,List.length_append,xI]at len;cases q:x.dr<;>simp[q]at len<;>omega
 |e6=>exfalso;simp only[kl,qn,List.length_append,xI]at len;cases q:x.e6<;>simp[q]at len<;>omega
 |Vp t _=>exfalso;have:=FE mH x.cases (x:=⟨false,[99,122],86,[t]⟩) (by simp[mH]);simp only[kl,qn,List.length_append]at len;omega
 |since n _=>have:x.since=n:=RY ((((((fa.id.r [117,110,105,111,110,32]).r x.ay).r (g6 x.params)).r [32,123,10]).r (de mH x.cases)).r [125,10]|>.inj e);unfold dV.aA;rw[this]
 |CJ k h=>exfalso;have:=congrArg List.length (a1 k h _ e);simp only[mH,List.length_append,xI]at this;cases q:x.cases[k].ind<;>simp[q]at this<;>omega
 |Cn k h t au=>exfalso;have:=congrArg List.length (a1 k h _ e);have lt:=GB [44,32] (x:=t.bc) (Y4 t au) (x.cases[k].gL.map al.bc);simp only[mH,List.length_append,List.map_append,List.map_cons,List.map_nil,List.length_cons,List.length_nil]at this lt;rw[if_pos (by omega:0<x.cases[k].gL.length+1)]at this;split at this<;>simp only[List.length_append,List.length_cons,List.length_nil]at this<;>omega
 |Dn k h s _=>
  have fg:=a1 k h _ e;have D:=((((fa.id.l ([32,32]++nc 0 false x.cases[k].ind [105,110,100,105,114,101,99,116])).r (if 0<x.cases[k].gL.length then [40]++cU [44,32] (x.cases[k].gL.map al.bc)++[41]else [])).r [59,10]).inj fg);have:x.cases[k].aA=fl.aA {x.cases[k]with ay:=s}:=by unfold fl.aA;rw[<-D]
  unfold dV.aA;rw[t8 fl.aA h this]
def alB{x y:eG}(h:vD x y)(v:HV x)(iq:HV y)(e:kw x=kw y):x.aA=y.aA:=by
 have len:=fr List.length e;cases h with
 |none h=>rfl
 |dr=>exfalso;simp only[kw,pn,fP,xI]at len;cases q:x.dr<;>simp[q]at len<;>omega
 |pV=>exfalso;simp only[kw,pn,fP,xI]at len;cases q:x.pV<;>simp[q]at len<;>omega
 |UQ s d _ _=>exfalso;have:=FE lU x.eu (x:=⟨s,86,[ob [83,101,108,102]],ob [73,110,116],d⟩) (by simp[lU]);simp only[kw,pn,fP]at len;omega
 |eW h t _=>
  have fg:lU x.eu[0]=lU {x.eu[0]with eW:=t}:=y7 lU h ((fa.id.l (pn x)).r [125,10]|>.inj e);have D:=((fa.id.l (([32,32,102,117,110,99,32]:bj)++x.eu[0].ay++([40]:bj)++cU [44,32] (x.eu[0].args.map al.bc)++([41,58,32]:bj))).r (if x.eu[0].gk=[]then []else([32,100,101,102,97,117,108,116,32]:bj)++x.eu[0].gk)).r [59,10]|>.inj fg;have f1:=(v.2.2 _ (fQ h)).2.2.1;have f2:=(iq.2.2 {x.eu[0]with eW:=t} (List.mem_set h _)).2.2.1;have:x.eu[0].aA=fS.aA {x.eu[0]with eW:=t}:=by unfold fS.aA;rw[EU f1 f2 D]
  unfold eG.aA;rw[t8 fS.aA h this]
 |arg h t au=>exfalso;have fg:lU x.eu[0]=lU {x.eu[0]with g:=87,args:=x.eu[0].args++[t]}:=y7 lU h ((fa.id.l (pn x)).r [125,10]|>.inj e);have:=fr List.length fg;have lt:=GB [44,32] (x:=t.bc) (Y4 t au) (x.eu[0].args.map al.bc);simp only[lU,fP,jj,gg,hq]at this lt;omega
 |drop g=>
  by_cases h:x.eu=[]
  .unfold eG.aA;rw[h];rfl
  .exfalso;have:=S7 lU (List.length_pos_iff.2 h) (by simp[lU]);simp only[kw,pn,fP]at len;omega
theorem ahd{x y:em}(h:vq x y)(v:Hp x)(iq:Hp y)(e:kc x=kc y):x.aA=y.aA:=by
 have len:=congrArg List.length e;cases h with
 |bL t _=>have D:=(((fa.id.l ([99,111,110,102,111,114,109,32]++x.rx++g6 (x.dB.map iz)++[32,102,111,114,32])).r [32,123,10]).r (de pt x.binds)).r [125,10]|>.inj e;unfold em.aA;rw[EU v.2.2.1 iq.2.2.1 D]
 |T6=>
  by_cases h:x.binds=[]
  .unfold em.aA;rw[h]
  .exfalso;obtain⟨a,l,q⟩:=List.exists_cons_of_ne_nil h;simp only[kc,re,List.length_append,q,de,List.map_cons,List.flatten_cons,List.map_nil,List.flatten_nil,List.length_nil,pt,List.length_cons]at len;omega
 |bind m f _ _=>exfalso;have:=FE pt x.binds (x:=⟨m,f⟩) (by simp[pt]);simp only[kc,re,List.length_append]at len;omega
 |sg s _=>exfalso;have:=VT (x.dB.map iz) (iz ⟨s,1,[]⟩);simp only[kc,re,List.length_append,List.map_append,List.map_cons,List.map_nil]at len;omega
 |gtr h s _=>
  exfalso;have fg:iz x.dB[0]=iz {x.dB[0]with g:=19,ec:=x.dB[0].ec++[s]}:=by refine(acn (x.dB.map iz) 0 (by rw[List.length_map];exact h)).inj ?_;rw[<-List.map_set,<-List.map_set,List.set_getElem_self h];exact(((((fa.id.l ([99,111,110,102,111,114,109,32]++x.rx)).r [32,102,111,114,32]).r x.bL.bc).r [32,123,10]).r (de pt x.binds)).r [125,10]|>.inj e
  have:=congrArg List.length fg;have lt:x.dB[0].ec≠[]->_:=λq=>congrArg List.length (Nr [32,43,32] s x.dB[0].ec q);unfold iz at this;simp only[List.length_append,List.length_cons,List.length_nil]at this lt;rw[if_neg (show ¬x.dB[0].ec.length+(0+1)=0 by omega)]at this;split at this
  .simp only[List.length_append,List.length_cons,List.length_nil]at this;omega
  .rename_i q;have:=lt (by intro eP;rw[eP]at q;exact q rfl);simp only[List.length_append,List.length_cons,List.length_nil]at*;omega
 |Sy h=>rfl|Qq s _=>have D:=(((((fa.id.l [99,111,110,102,111,114,109,32]).r (g6 (x.dB.map iz))).r [32,102,111,114,32]).r x.bL.bc).r [32,123,10]).r (de pt x.binds)|>.r [125,10]|>.inj e;unfold em.aA;rw[D]
def aim{e:ai}(h:e.oC)(au:e.bc=[49]):e.aA=(qP 1).aA:=by
 have aD:=((ai.xh e).1 h).1;have bx:=sP aD;have no:∀b:UInt8,b∈e.bc->b=49:=λb aB=>by rw[au]at aB;exact ji.1 aB
 have⟨p,bq,_,_,_,_,_,_,_,_,_,_,_,aq,_,_,pp,s1,sZ,_⟩:=aD;have oS:∀b:UInt8,b≠49->b∈e.bc->False:=λb h aB=>h (no b aB);rcases bx.g0 with ar|ar|ar|ar|ar|ar|ar|ar|ar|ar|ar|ar|ar|ar|ar|ar|ar|ar|ar|ar|ar|ar
 .rw[Ip ar]at au;have D:e.num=1:=by
   unfold mx at au;split at au
   .rw[<-Tw e.num,au];rfl
   .cases au
  have e5:e.kids=[]:=List.eq_nil_of_length_eq_zero (bx.g3 I);have t0:e.types=[]:=List.eq_nil_of_length_eq_zero (bx.t0 I I I I I I);rw[ai.jD,ar,D,e5,t0,bx.nQ I I I I I I I,bx.tm I I I,bx.jb I I,bx.dS I];rfl
 .exact(oS 101 af (by rw[Rw ar];split<;>simp)).elim
 .rw[Lt ar]at au;have:=aq (.inl ar);rw[au]at this;exact absurd this af
 .exact(oS 108 af (by rw[GA ar (by have:=bx.eg;omega)];simp)).elim
 .exact(oS 105 af (by rw[Ic ar (by have:=bx.fJ;omega)];simp)).elim
 .exact(oS 112 af (by rw[OE ar (by have:=bx.eg;omega)];simp)).elim
 .exact(oS 102 af (by rw[Hv ar (by have:=bx.cH;omega)];simp)).elim
 .exact(oS 32 af (by rw[GQ ar (by have:=bx.eg;omega)];simp)).elim
 .exact(oS 40 af (by rw[vF ar];simp)).elim
 .exact(oS 40 af (by rw[uY ar];simp)).elim
 .exact(oS 123 af (by rw[sW ar];simp[mw])).elim
 .exact(oS 46 af (by rw[JN ar (by have:=bx.cH;omega)];simp)).elim
 .exact(oS 32 af (by rw[D6 ar (by have:=s1 ar;omega)];simp)).elim
 .exact(oS 99 af (by rw[ys ar];simp)).elim
 .exact(oS 40 af (by rw[Ao ar (by have:=(sZ ar).1;omega)];simp)).elim
 .exact(oS 40 af (by rw[DI ar];simp)).elim
 .exact(oS 40 af (by rw[V6 ar (by have:=bx.cH;omega)];simp)).elim
 .exact(oS 40 af (by rw[TK ar];simp)).elim
 .exact(oS 40 af (by rw[Tt ar];simp)).elim
 .exact(oS 40 af (by rw[Mr ar];simp)).elim
 .exact(oS 40 af (by rw[Lp ar (by have:=bx.cH;omega)];simp)).elim
 .exact(oS 40 af (by rw[TD ar (by have:=bx.cH;omega)];simp)).elim
def amb:(qP 1).bc=[49]:=by rw[Ip rfl];show mx 1=_;unfold mx sl;rw[ev af,cO af,Gl af,j8];rfl
def ajs{x y:cu}(h:tv x y)(v:zm x)(iq:zm y)(e:ke x=ke y):x.aA=y.aA:=by
 have len:=fr List.length e;have aC:∀k (h:k<x.args.length)(z:cG),ke x=ke {x with aj:=265,an:=269,args:=x.args.set k z}->lV x.args[k]=lV z:=λk h z e=>by refine(ER [44,32] (x.args.map lV) k (by rw[ex];exact h)).inj ?_;rw[<-List.map_set,<-List.map_set,List.set_getElem_self h];exact((((fa.id.l (nc x.since x.dr x.inl [105,110,108,105,110,101]++[102,117,110,99,32]++x.ay++g6 (x.dB.map iz)++[40])).r [41,58,32]).r x.eW.bc).r (if x.has then [32,61,32]++x.body.bc else [])).r [59,10]|>.inj e
 cases h with
 |id=>rfl
 |dr=>exfalso;simp only[ke,fP,xI]at len;cases q:x.dr<;>simp[q]at len<;>omega
 |inl=>exfalso;simp only[ke,fP,xI]at len;cases q:x.inl<;>simp[q]at len<;>omega
 |since n _=>have D:=((((((((fa.id.r [102,117,110,99,32]).r x.ay).r (g6 (x.dB.map iz))).r [40]).r (cU [44,32] (x.args.map lV))).r [41,58,32]).r x.eW.bc).r (if x.has then [32,61,32]++x.body.bc else [])).r [59,10]|>.inj e;have:x.since=n:=RY D;unfold cu.aA;rw[this]|eW t _=>have D:=((fa.id.l (nc x.since x.dr x.inl [105,110,108,105,110,101]++[102,117,110,99,32]++x.ay++g6 (x.dB.map iz)++[40]++cU [44,32] (x.args.map lV)++[41,58,32])).r (if x.has then [32,61,32]++x.body.bc else [])).r [59,10]|>.inj e;unfold cu.aA;rw[EU v.2.2.2.1 iq.2.2.2.1 D]
 |P8 i h t _=>
  have fg:=aC i h _ e;have D:=(fa.id.l (x.args[i].ay++[58,32])).r (if x.args[i].has then(if x.args[i].gk.zero then [32,61]else [32,61,32]++x.args[i].gk.bc)else [])|>.inj fg;have f1:=(v.2.2.2.2.2.2 _ (fQ h)).2.1;have f2:=(iq.2.2.2.2.2.2 {x.args[i]with bL:=t} (List.mem_set h _)).2.1;have:x.args[i].aA=cG.aA {x.args[i]with bL:=t}:=by unfold cG.aA;rw[EU f1 f2 D]
  unfold cu.aA;rw[t8 cG.aA h this]
 |Qb t _=>exfalso;have lt:=GB [44,32] (x:=lV ⟨[120,97],t,false,LC⟩) (by simp[lV]) (x.args.map lV);simp only[ke,fP,jj,gg,hq]at len lt;omega
 |sg s _=>exfalso;have:=VT (x.dB.map iz) (iz ⟨s,1,[]⟩);simp only[ke,fP,jj,gg,hq]at len;omega
 |Ta i h=>
  have fg:=aC i h _ e;have D:=fa.id.l (x.args[i].ay++[58,32]++x.args[i].bL.bc)|>.inj fg;have aI:=(v.2.2.2.2.2.2 _ (fQ h)).2.2;have F:(if x.args[i].has then(if x.args[i].gk.zero then [32,61]else [32,61,32]++x.args[i].gk.bc)else [])=([32,61,32]:bj)++(qP 1).bc:=D;rw[amb]at F;have:x.args[i].aA=cG.aA {x.args[i]with has:=true,gk:=qP 1}:=by
   cases q:x.args[i].has
   .rw[q]at F;cases F
   cases aX:x.args[i].gk.zero
   .rw[q,aX]at F;have aq:x.args[i].gk.bc=[49]:=@List.append_cancel_left _ [32,61,32] _ _ F;rcases aI with aI|aI
    .rw[aX]at aI;cases aI
    unfold cG.aA;rw[q,aim aI.2 aq]
   .rw[q,aX]at F;cases F
  unfold cu.aA;rw[t8 cG.aA h this]
def apy(f:eT):n7 f.aA=n7 f:=by unfold n7 eT.aA;rw[al.tA]
def aoK(x:dX):jL x.aA=jL x:=by unfold jL qc de dX.aA;rw[List.map_map];congr 3;exact List.map_congr_left λf _=>apy f
def agq(c:fl):mH c.aA=mH c:=by unfold mH fl.aA;rw[al.P9,ex]
def apM(x:dV):kl x.aA=kl x:=by unfold kl qn de dV.aA;rw[List.map_map];congr 3;exact List.map_congr_left λf _=>agq f
def akP(m:fS):lU m.aA=lU m:=by unfold lU fS.aA;rw[al.P9,al.tA]
def arI(x:eG):kw x.aA=kw x:=by unfold kw pn de eG.aA;rw[List.map_map];congr 3;exact List.map_congr_left λf _=>akP f
def Wt(l:List c3):(l.map c3.aA).map iz=l.map iz:=by rw[List.map_map];exact List.map_congr_left λg _=>rfl
def aov(x:em):kc x.aA=kc x:=by unfold kc re em.aA;rw[Wt,al.tA]
def aoR(e:ai):e.aA.zero=e.zero:=by rw[ai.jD];unfold ai.zero;show decide (e.kind=0/\e.ay=[]/\e.mem=[]/\e.num=0/\e.types.map al.aA=[]/\e.cg=[]/\e.bM.map dI.aA=[]/\e.kids.map ai.aA=[])=_;simp only[List.map_eq_nil_iff]
def aom(a:cG):lV a.aA=lV a:=by unfold lV cG.aA;rw[al.tA,aoR,ai.tA]
def ajt(f:cu):ke f.aA=ke f:=by unfold ke cu.aA;rw[Wt,al.tA,ai.tA,List.map_map];have:f.args.map (lV ∘ cG.aA)=f.args.map lV:=List.map_congr_left λa _=>aom a;rw[this]
def JU{α:Type}(f:α->bj)(e:α->α)(h:∀x,f (e x)=f x)(l:List α):de f (l.map e)=de f l:=by unfold de;rw[List.map_map];congr 1;exact List.map_congr_left λx _=>h x
def W0(m:cZ):m1 m.aA=m1 m:=by unfold m1 cZ.aA;rw[JU jL _ aoK,JU kl _ apM,JU kw _ arI,JU kc _ aov,JU ke _ ajt];rfl
def amM(x):jL x≠[]:=by simp[jL]
def amI(x):ke x≠[]:=by simp[ke]
def aqp(x):kc x≠[]:=by simp[kc]
def ace(x):n6 x≠[]:=by simp[n6]
def af7{m y:cZ}(h:yL m y)(e:m1 m=m1 y):m.aA=y.aA:=by
 have len:=fr List.length e;cases h with
 |id=>rfl|NZ g h=>exfalso;have:=S7 n6 h (ace _);simp only[m1,oH,fP]at len;omega|N2 s r _ _ _=>exfalso;have:=FE n6 m.fA (x:=⟨s,r⟩) (ace _);simp only[m1,oH,fP]at len;omega|Qz i h=>exfalso;have:=FE ke m.funcs (x:=m.funcs[i]) (amI _);simp only[m1,oH,fP]at len;omega|Sf h=>exfalso;have:=FE kc m.dn (x:=m.dn[0]) (aqp _);simp only[m1,oH,fP]at len;omega|Dz g h=>exfalso;have:=S7 jL h (amM _);simp only[m1,oH,fP]at len;omega
def aii{f:cu}{y:ai}(h:lb f.body y)(v:zm f)(iq:zm {f with body:=y})(e:ke f=ke {f with body:=y}):f.aA=cu.aA {f with body:=y}:=by
 have jT:f.body.aA=y.aA->f.aA=cu.aA {f with body:=y}:=λq=>by unfold cu.aA;rw[q]
 apply jT;cases q:f.has
 .have gV:=v.2.2.2.2.2.1 q;have gA:y.zero=true:=iq.2.2.2.2.2.1 q;unfold ai.zero at gV gA;have⟨bk,bu,b1,cP,dO,eb,eY,mN⟩:=sw gV;have⟨cD,dp,ga,fX,hO,kd,nE,CK⟩:=sw gA;rw[ai.jD,ai.jD,bk,bu,b1,cP,dO,eb,eY,mN,cD,dp,ga,fX,hO,kd,nE,CK]
 .have ef:=v.2.2.2.2.1 q;have fO:y.oC:=iq.2.2.2.2.1 q;refine aql h ef fO 0 false ?_;rw[Ur,Ur];unfold ke at e;have D:=List.append_cancel_left (List.append_cancel_right e);have F:(if f.has then [32,61,32]++f.body.bc else [])=(if f.has then([32,61,32]:bj)++y.bc else []):=D;rw[q]at F;exact @List.append_cancel_left _ [32,61,32] _ _ F
def ahE{m y:cZ}(h:vb m y)(v:AP m)(iq:AP y)(e:m1 m=m1 y):m.aA=y.aA:=by
 have⟨_,_,_,_,_,_,_,v1,v2,vo,K4,oI⟩:=v;have⟨_,_,_,_,_,_,_,ef,fO,j3,lz,n9⟩:=iq;have Xf:∀i (h:i<m.funcs.length)(z:cu),m1 m=m1 {m.uz with funcs:=m.funcs.set i z}->ke m.funcs[i]=ke z:=λi h z e=>y7 ke h (fa.id.l (oH m++de n6 m.fA++de jL m.dJ++de kl m.d9++de kw m.e2++de kc m.dn)|>.inj e);cases h with
 |body i h y aE=>have:=aii aE (oI _ (fQ h)) (n9 {m.funcs[i]with body:=y} (List.mem_set h _)) (Xf i h _ e);unfold cZ.aA;show _=(⟨_,_,_,_,_,_,_,_,_,_,_,_,_,_,(m.funcs.set i {m.funcs[i]with body:=y}).map cu.aA⟩:cZ);rw[t8 cu.aA h this];rfl|fn i h y aE=>have:=ajs aE (oI _ (fQ h)) (n9 y (List.mem_set h _)) (Xf i h _ e);unfold cZ.aA;show _=(⟨_,_,_,_,_,_,_,_,_,_,_,_,_,_,(m.funcs.set i y).map cu.aA⟩:cZ);rw[t8 cu.aA h this];rfl|iy i h y aE=>have fg:jL m.dJ[i]=jL y:=y7 jL h (((((fa.id.l (oH m++de n6 m.fA)).r (de kl m.d9)).r (de kw m.e2)).r (de kc m.dn)).r (de ke m.funcs)|>.inj e);have:=ans aE (v1 _ (fQ h)) (ef y (List.mem_set h _)) fg;unfold cZ.aA;show _=(⟨_,_,_,_,_,_,(m.dJ.set i y).map dX.aA,_,_,_,_,_,_,_,_⟩:cZ);rw[t8 dX.aA h this];rfl|un i h y aE=>have fg:kl m.d9[i]=kl y:=y7 kl h ((((fa.id.l (oH m++de n6 m.fA++de jL m.dJ)).r (de kw m.e2)).r (de kc m.dn)).r (de ke m.funcs)|>.inj e);have:=ag0 aE fg;unfold cZ.aA;show _=(⟨_,_,_,_,_,_,_,_,(m.d9.set i y).map dV.aA,_,_,_,_,_,_⟩:cZ);rw[t8 dV.aA h this];rfl|ec i h y aE=>have fg:kw m.e2[i]=kw y:=y7 kw h (((fa.id.l (oH m++de n6 m.fA++de jL m.dJ++de kl m.d9)).r (de kc m.dn)).r (de ke m.funcs)|>.inj e);have:=alB aE (vo _ (fQ h)) (j3 y (List.mem_set h _)) fg;unfold cZ.aA;show _=(⟨_,_,_,_,_,_,_,_,_,_,(m.e2.set i y).map eG.aA,_,_,_,_⟩:cZ);rw[t8 eG.aA h this];rfl|Is i h y aE=>have fg:kc m.dn[i]=kc y:=y7 kc h ((fa.id.l (oH m++de n6 m.fA++de jL m.dJ++de kl m.d9++de kw m.e2)).r (de ke m.funcs)|>.inj e);have:=ahd aE (K4 _ (fQ h)) (lz y (List.mem_set h _)) fg;unfold cZ.aA;show _=(⟨_,_,_,_,_,_,_,_,_,_,_,_,(m.dn.set i y).map em.aA,_,_⟩:cZ);rw[t8 em.aA h this];rfl|Rd y aE=>exact(af7 (m:=m.uz) aE e:m.uz.aA=y.aA)
def anH{m y:cZ}(h:vb m y)(v:AP m)(iq:AP y):m.aA=y.aA↔m1 m=m1 y:=
 ⟨λq=>by rw[<-W0 m,q,W0],ahE h v iq⟩
theorem PR{α:Type}(f:α->Nat){bb n:Nat}{l:List α}(h:∀x∈l,f x<=bb)(aD:l.length<=n):(l.map f).sum<=n*bb:=by
 have:∀l:List α,(∀x∈l,f x<=bb)->(l.map f).sum<=l.length*bb:=by
  intro l;induction l with
  |nil=>intro _;simp|cons a l bQ=>intro h;have D:=h a List.mem_cons_self;have F:=bQ λx M=>h x (List.mem_cons_of_mem _ M);simp only[List.map_cons,List.sum_cons,List.length_cons,Nat.succ_mul];omega
 exact Nat.le_trans (this l h) (Nat.mul_le_mul_right _ aD)
def JI{α:Type}(f:α->bj){bb n:Nat}{l:List α}(h:∀x∈l,(f x).length<=bb)(aD:l.length<=n):bD (l.map f)<=n*bb:=by unfold bD;rw[List.map_map];exact PR _ h aD
def Lx{bb n:Nat}{l:List bj}(h:∀x∈l,x.length<=bb)(aD:l.length<=n):bD l<=n*bb:=by have:=JI (λs=>s) h aD;simpa using this
def wt{α:Type}(f:α->bj){bb n:Nat}{l:List α}(h:∀x∈l,(f x).length<=bb)(aD:l.length<=n):(de f l).length<=n*bb:=by unfold de;rw[List.length_flatten];exact JI f h aD
def ap1:∀t:al,t.ok->t.jK=true->t.bc.length<=1010*5 ^ t.ir:=al.ind λt bQ aV ap=>by have⟨D,_,aq⟩:=(al.mS t).1 aV;rw[al.J3]at ap;have⟨gx,s2⟩:=Bool.and_eq_true_iff.1 ap;have gx:=sw gx;have s2:=ub.1 s2;have aB:=Cs (t.l.map al.bc);have Y:bD (t.l.map al.bc)<=4*(1010*5 ^ al.f6 t.l):=JI al.bc (λx M=>nR (bQ x M (aq x M) (s2 x M)) (aeV _ (Nat.pow_le_pow_right af (al.Bv M)))) gx;have bq:0<5 ^ al.f6 t.l:=Nat.pow_pos af;rw[al.sa,al.vG,Nat.pow_succ,fP];rw[ex]at aB;omega
def ET{t:al}(h:t.b0)(ap:t.jK=true)(aY:t.ir<=8):t.bc.length<=400000000:=by have D:=ap1 t h.1 ap;have F:5 ^ t.ir<=5 ^ 8:=Nat.pow_le_pow_right af aY;have aq:(5:Nat) ^ 8=390625:=af;omega
def aoz{l:List al}(h:sz l=false):∀t∈l,t.ir<=8:=λt au=>by unfold sz at h;have:=List.any_eq_false.1 h t au;simp at this;exact this
def aco{l:List al}{n:Nat}(h:∀t∈l,t.b0)(ap:l.all al.jK=true)(aY:sz l=false)(aD:l.length<=n):bD (l.map al.bc)<=n*400000000:=
 JI al.bc (λt au=>ET (h t au) (ub.1 ap t au) (aoz aY t au)) aD
def an3:∀e:ai,e.ok->e.jK=true->e.uA=false->e.pq+2<=1700000000*e.size:=ai.ind λe bQ aV ap aY=>by
 have⟨cL,ok⟩:=(ai.mS e).1 aV;rw[ai.J3]at ap;rw[ai.Nq]at aY;have⟨gx,s2⟩:=Bool.and_eq_true_iff.1 ap;have⟨d1,d2⟩:=H8.1 aY;unfold ai.MD at gx;simp only[ig,mz]at gx;obtain⟨⟨⟨⟨⟨bk,bu⟩,b1⟩,cP⟩,_⟩,eb⟩:=gx;have⟨c4,cl,dm,fp,h5,io,ld,jZ,_⟩:=cL;have t1:=aco fp bu d1 bk;have j5:bD e.cg<=12*1000:=Lx (λs ap=>Nat.le_of_lt (io s ap)) b1;have rW:(e.bM.map x8).sum<=13*14000:=PR x8 (λa aC=>by
  have D:=jZ a aC;have F:a.names.length<=12:=by unfold Sz at eb;exact sw (ub.1 eb a aC)
  have aq:bD a.names<=12*1000:=Lx (λs ap=>Nat.le_of_lt (D.2.2 s ap)) F;have aL:=D.1;unfold x8;omega) cP
 have ar:∀l:List ai,(∀x∈l,x.pq+2<=1700000000*x.size)->ai.uL l<=1700000000*ai.fw l:=by
  intro l;induction l with
  |nil=>intro _;simp[ai.uL]|cons a l Cq=>intro h;have D:=h a ua;have F:=Cq λx M=>h x (tD _ M);simp only[ai.uL,ai.fw,Qk];omega
 have D:=ar e.kids λx M=>bQ x M (ok x M) (ub.1 s2 x M) (by have:=List.any_eq_false.1 d2 x M;simpa using this);rw[ai.VE,ai.size_eq];unfold ai.own;omega
def Zt{e:ai}(h:e.b0)(ap:JE e)(aY:Ot e=false):e.pq<=3400000000000:=by unfold Ot at aY;have:=an3 e h.1 ap.2 (H8.1 aY).2;have:=ap.1;omega
theorem Zu{l:List c3}(h:∀g∈l,g.ok)(ap:B6 l=true):bD (l.map iz)+2*l.length<=20000:=by
 unfold B6 at ap;obtain⟨gx,s2⟩:=Bool.and_eq_true_iff.1 ap;have gx:=of_decide_eq_true gx;have:=JI iz (bb:=4100) (λg bI=>by
  have D:=h g bI;have F:g.ec.length<=3:=of_decide_eq_true (List.all_eq_true.1 s2 g bI);have aq:bD g.ec<=3*1000:=Lx (λs ap=>Nat.le_of_lt (D.2.2 s ap)) F;have aL:=Ak [32,43,32] g.ec;have bO:=D.1;unfold iz;rw[List.length_append];simp only[List.length_cons,List.length_nil]at aL;split
  .simp;omega
  .simp only[List.length_append,List.length_cons,List.length_nil];omega) gx
 omega
def ars{f:cu}(B:f.ok)(ap:VO f)(aY:Su f):wA f<=30000000000000:=by have⟨cL,dP,fW,gi,iW,gE,oc,rM⟩:=B;have⟨gx,s2,oV,qy,wU⟩:=ap;have⟨d1,d2,d3⟩:=aY;have t1:=Zu gi gx;have j5:=ET oc oV d1;have rW:=Zt rM qy d2;have uQ:(f.args.map xC).sum<=6*3500000000000:=PR xC (λa aC=>by have D:=gE a aC;have F:=wU a aC;have aq:=d3 a aC;have:=ET D.2.1 F.1 aq.1;have:=Zt D.2.2 F.2 aq.2;have:=D.1;unfold xC;omega) s2;unfold wA;omega
theorem YX{l:List al}{n:Nat}(h:∀t∈l,t.b0)(ap:l.all al.jK=true)(aY:sz l=false)(aD:l.length<=n):(cU [44,32] (l.map al.bc)).length<=n*400000002:=by have D:=aco h ap aY aD;have F:=Ak [44,32] (l.map al.bc);simp only[List.length_map,List.length_cons,List.length_nil]at F;omega
def aaG{l:List bj}(h:∀s∈l,s.length<1000)(aD:l.length<=4):(g6 l).length<=5000:=by have D:bD l<=4*1000:=Lx (λs ap=>Nat.le_of_lt (h s ap)) aD;have:=Cs l;omega
theorem ac7{x:cZ}(B:x.ok)(v:AP x):(∀f∈x.funcs,wA f<100000000000000000)/\(m1 x).length<100000000000000000:=by
 obtain⟨e5,cT,cN,g3,iw,cH,bC,cq,aX,c9,b4,eg,dc,fJ,eC⟩:=B
 obtain⟨_,_,_,_,⟨d1,d2,d3,d4,d5⟩,⟨⟨tm,er,f8,jy,lj,ny⟩,gx,s2,oV,qy,wU⟩,_⟩:=v
 have a1:∀f∈x.funcs,wA f<=30000000000000:=λf a1=>ars (eC f a1) (wU f a1) (d5 f a1)
 refine⟨λf h=>by have:=a1 f h;omega,?_⟩
 have acd:∀n,n<9223372036854775808->(mx n).length<=21:=λn h=>LU I
 have mL:(de n6 x.fA).length<=8*1100:=wt n6 (λi aN=>by
  have D:=iw i aN
  have:=acd _ D.2
  have:=D.1
  simp only[n6,List.length_append,List.length_cons,List.length_nil];omega) tm
 have cD:(de jL x.dJ).length<=60*6000000000:=wt jL (λs ap=>by
  have B:=bC s ap
  have z:=gx s ap
  have D:=BS s.since s.dr s.e6 [102,114,111,122,101,110] B.1
  have F:=aaG B.2.2.2.1 z.1
  have aq:(de n7 s.fields).length<=12*400002000:=wt n7 (λf a1=>by
   have:=ET (B.2.2.2.2.2 f a1).2 (z.2.2 f a1) (d1 s ap f a1)
   have:=(B.2.2.2.2.2 f a1).1
   have:=BS 0 f.dr false [] af
   simp only[n7,List.length_append,List.length_cons,List.length_nil]at*;omega) z.2.1
  have:=B.2.1
  simp only[jL,qc,List.length_append,List.length_cons,List.length_nil]at*;omega) er
 have dp:(de kl x.d9).length<=60*60000000000:=wt kl (λs ap=>by
  have B:=aX s ap
  have z:=s2 s ap
  have D:=BS s.since s.dr s.e6 [102,114,111,122,101,110] B.1
  have F:=aaG B.2.2.2.1 z.1
  have aq:(de mH s.cases).length<=12*4900000000:=wt mH (λf a1=>by
   have k:=B.2.2.2.2.2 f a1
   have cJ:=z.2.2 f a1
   have:=YX k.2.2 cJ.2 (d2 s ap f a1) cJ.1
   have:=BS 0 false f.ind [105,110,100,105,114,101,99,116] af
   have:=k.1
   simp only[mH,List.length_append,List.length_cons,List.length_nil]at*
   split<;>simp only[List.length_append,List.length_cons,List.length_nil]<;>omega) z.2.1
  have:=B.2.1
  simp only[kl,qn,List.length_append,List.length_cons,List.length_nil]at*;omega) f8
 have ga:(de kw x.e2).length<=60*60000000000:=wt kw (λs ap=>by
  have B:=b4 s ap
  have z:=oV s ap
  have D:=BS s.since s.dr s.pV [115,101,97,108,101,100] B.1
  have aq:(de lU s.eu).length<=12*3000000000:=wt lU (λf a1=>by
   have k:=B.2.2.2 f a1
   have cJ:=z.2 f a1
   have d:=d3 s ap f a1
   have:=YX k.2.2.1 cJ.2.1 d.1 cJ.1
   have:=ET k.2.2.2.1 cJ.2.2 d.2
   have:=k.2.2.2.2
   have:=k.1
   simp only[lU,List.length_append,List.length_cons,List.length_nil]at*
   split<;>simp only[List.length_append,List.length_cons,List.length_nil]<;>omega) z.1
  have:=B.2.1
  simp only[kw,pn,List.length_append,List.length_cons,List.length_nil]at*;omega) jy
 have fX:(de kc x.dn).length<=60*500000000:=wt kc (λs ap=>by
  have B:=dc s ap
  have z:=qy s ap
  have D:=Zu B.2.2.1 z.1
  have F:=Cs (s.dB.map iz)
  have aq:=ET B.2.2.2.1 z.2.1 (d4 s ap)
  have aL:(de pt s.binds).length<=12*2100:=wt pt (λf a1=>by
   have k:=B.2.2.2.2.2 f a1
   have:=k.1
   have:=k.2
   simp only[pt,List.length_append,List.length_cons,List.length_nil];omega) z.2.2
  have:=B.1
  simp only[kc,re,List.length_append,List.length_cons,List.length_nil,List.length_map]at*;omega) lj
 have hO:(de ke x.funcs).length<=60*30000000000000:=wt ke (λf h=>Nat.le_trans (Xm f (eC f h)) (a1 f h)) ny
 have kd:(oH x).length<=1100:=by
  have:=acd _ cT
  unfold oH
  split
  .simp only[List.length_append,List.length_cons,List.length_nil];omega
  .split<;>simp only[List.length_append,List.length_cons,List.length_nil]<;>omega
 simp only[m1,List.length_append]
 omega
end Go.Tx
