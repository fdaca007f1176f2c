/- A part. -/
import Derived.Laws.BytesString
import Derived.Recover
import Derived.Test.YtkjmpcfikenlbaaGreatDoorE5
set_option linter.all false
namespace Go.Ev
open Go
section
variable{P:Program}{es:aO}{ah:dM}{L:cx}{T:ca}
def arT(b)(len num):ez (len+1) (b.toNat+256*num)=b::ez len num:=by have aB:b.toNat<256:=b.toNat_lt;have D:(b.toNat+256*num) % 256=b.toNat:=I;have F:(b.toNat+256*num) / 256=num:=I;simp_all[ez]
def Z0:∀{l}{k},FY l k->∃num,k l.length num/\∀(ae)(eR),li ae 1 l eR->eR.flatten=(ez l.length num).map λb=>Value.int .u8 b.toNat
 |[],k,h=>⟨0,h,λae eR nD=>by cases nD;rfl⟩
 |r::l,k,h=>by
  cases r with
  |nil=>exact ci h
  |cons v r=>
   have⟨c,n,e,D⟩:=m6 (v:=v) h;have⟨F,aq⟩:=fi D;have F:=dA.1 F;have⟨num,aL,bO⟩:=Z0 aq;rw[k5]at aL;refine⟨n+256*num,aL,λae eR nD=>?_⟩;obtain⟨X,gD,rfl,bC,aX,b4,dc⟩:=nD;have ag:r=[]:=by simp_all
   subst ag;obtain⟨V,X',rfl,eC,oy⟩:=bC.cons_inv;subst oy;rw[e,F]at eC;obtain⟨_,yE,rfl⟩:=eC;have yE:n<256:=yE;have aD:(UInt8.ofNat n).toNat=n:=by simp_all
   have:=arT (UInt8.ofNat n) l.length num;rw[aD]at this;simp only[NQ,lM,this,gg,bO ae gD dc,aD];rw[lH (by exact yE)];rfl
def foldl_push:∀(cQ:lS)(acc),(cQ.map λb=>((b.toNat:Nat):Int)).foldl (λ(r:ByteArray)(n)=>r.push (UInt8.ofNat n.toNat)) ⟨acc.toArray⟩=⟨(acc++cQ).toArray⟩
 |[],acc=>by simp
 |b::cQ,acc=>by
  rw[gg,zt];have:(⟨acc.toArray⟩:ByteArray).push (UInt8.ofNat (((b.toNat:Nat):Int).toNat))=⟨(acc++[b]).toArray⟩:=by simp_all[ByteArray.push]
  rw[this,foldl_push cQ (acc++[b])];simp
def uk(cQ:lS)(n:Nat):Array Value:=List.toArray (cQ.map λb:UInt8=>Value.int .u8 b.toNat)++Array.replicate n (Value.int .u8 0)
def akr(w:World)(c)(e):((w.alloc (.cells c e)).freeze ⟨w.heap.size,c.size,none⟩ 1).heap[w.heap.size]?=some (.cells c e (c.size,c.size+1))/\(∀k,k<w.heap.size->((w.alloc (.cells c e)).freeze ⟨w.heap.size,c.size,none⟩ 1).heap[k]?=w.heap[k]?)/\((w.alloc (.cells c e)).freeze ⟨w.heap.size,c.size,none⟩ 1).heap.size=w.heap.size+1:=by
 unfold World.freeze;rw[cO af];refine⟨?_,λk ar=>?_,?_⟩
 .simp only[Array.getElem?_modify,Kk];rfl
 .simp only[Array.getElem?_modify];rw[cO I];simp_all[CC]
 simp_all
def aiB{s d e}(ap:P.underlying s=some .string)(aY:P.underlying d=some (.slice e))(hu:P.underlying e=some (.int .u8))(cQ)(w):(convert s d (.string ⟨cQ.toArray⟩)).run P w=.ok (.slice (some ⟨w.heap.size,0,none⟩) cQ.length (grownCap w cQ.length 0 e)) ((w.drew.alloc (.cells (uk cQ (grownCap w cQ.length 0 e - cQ.length)) e)).freeze ⟨w.drew.heap.size,(uk cQ (grownCap w cQ.length 0 e - cQ.length)).size,none⟩ 1):=by
 simp only[convert,jm,h6 ap,h6 aY,h6 hu,jt,Conv.stringToBytes,run_choose,Question.forced,Dy,sY,Gf,Cp,
  markStringish,run_shape,kp]
 have tx:∀c:Array Value,(w.drew.alloc (.cells c e)).shape? w.heap.size=some (e,c.size):=by intro c;have:=Kk w.drew (.cells c e);simp_all[World.shape?]
 have auA:({w with drawn:=w.drawn+1}:World)=w.drew:=rfl;simp_all[uk,grownCap]
def an4{ae}{H}{w}(R:Rel ae H w){call}{s d}{cs}{X}{k a8}(h:(Iy P s d cs).f call L T H k a8)(M:bP ae (cs.g L T) X):Ge P ae H w (convert s d X) k:=by
 have⟨cs⟩:=cs;simp at M;unfold Iy at h;simp at h;split at h
 .rename_i e ap aY;split at h
  .rename_i hu iH;change ta 1 (cs L T) H (λ_ l=>FY l λlen num=>k (.str len num) H)=true at h;have⟨m,l,D,hm,F⟩:=PP (P:=P) h;have⟨num,aq,aL⟩:=Z0 D;obtain⟨eR,aj,an,aM,a,n,c,rfl⟩:=F ae w X M R;have pz:=aL ae eR aj;refine⟨ae,H,_,_,w,aq,Qd I,R,Step.refl _ _ _,?_⟩;have ii:=aM.len w;simp[Builtin.lenOf]at ii;subst ii;rw[run_convert_bytes_string w s d e a n c ap hu aY];have aQ:=aM.cells w rfl;cases a with
   |none=>
    simp only[Builtin.firstCells,kp,Result.ok.injEq,and_true]at aQ;have bO:eR.flatten=[]:=by simp_all
    rw[bO]at pz;have cr:l.length=0:=by have:=fr List.length pz;simpa[p5]using this.symm
    rw[cr];rfl
   |some zT=>
    simp[Builtin.firstCells]at aQ;rw[pz]at aQ;have aP:(ez l.length num).map (λb=>Value.int .u8 b.toNat)=((ez l.length num).map λb=>((b.toNat:Nat):Int)).map (Value.int .u8):=by simp
    rw[aP]at aQ;rw[run_bytesToString w zT n c _ aQ];have:=foldl_push (ez l.length num) [];rw[show(ByteArray.empty:ByteArray)=⟨([]:lS).toArray⟩from rfl,this];simp
  .exact ci h
 .rename_i e ap aY;split at h
  .rename_i hu iH;have⟨l,n,aP,D⟩:=sL h;rw[aP]at M;obtain⟨Y,rfl⟩:=M;have⟨QB,D⟩:=fi D;have⟨ax,na,aup,F⟩:=aoF (dT.1 QB) D;rw[tG]at F;have⟨aq,aL⟩:=TB F;have kf:=grownCap_ge w l 0 e;have kX:=aiB ap aY hu (ez l n) w;rw[p5]at kX;generalize grownCap w l 0 e=cap at*;have⟨f1,f2,f3⟩:=akr w.drew (uk (ez l n) (cap - l)) e;have M9:(uk (ez l n) (cap - l)).size=cap:=by simp[uk,p5];omega
   have nJ:(ae.set H.next (w.heap.size,cap)) H.next=some (w.heap.size,cap):=cX.Dl _ _ _;have BU:l<=(ax.jl (yQ l n) 0).cap:=by simp_all[Rows.ur]
   have aV:∀bi:World,bi.heap[w.heap.size]?=some (.cells (uk (ez l n) (cap - l)) e ((uk (ez l n) (cap - l)).size,(uk (ez l n) (cap - l)).size+1))->
    nj (ae.set H.next (w.heap.size,cap)) bi H.next (.cells (ax.jl (yQ l n) 0) l 1 e true true):=by
    intro bi PU
    refine⟨w.heap.size,cap,_,_,nJ,PU,λh=>absurd h af,Nat.one_pos,BU,?_,?_⟩
    .refine lc.jl (n:=0) (c:= #[]) lc.none (Q4 l n) na (by rw[Hc];omega) (λr ag=>.inr (by rw[Hc];omega)) (λk ar=>?_) (λr j ag=>I);rw[Hc]at ar;rw[PK,JT,pW];simp_all[uk,acg,p5]
    simp_all
   have iH:w.heap.size<=((w.drew.alloc (.cells (uk (ez l n) (cap - l)) e)).freeze ⟨w.drew.heap.size,(uk (ez l n) (cap - l)).size,none⟩ 1).heap.size:=by simp_all
   refine⟨ae.set H.next (w.heap.size,cap),_,_,_,_,aL,?_,Vm R aq iH (.inl (fI _)) (λk ar _=>f2 k ar) (aV _ f1),
    adN R aq iH (.inl (fI _)) (λk ar _=>f2 k ar) ?_ ?_ ?_,kX⟩
   .exact⟨w.heap.size,cap,nJ,0,by simp,.inl (by simp),I,by simpa using kf,by simp⟩
   all_goals
    unfold World.freeze
    rw[cO af]
    rfl
  .exact ci h
 .exact ci h
end
structure B4(bT:World)(ae:cX)(H:bg)(w:World):Prop where
 size:bT.heap.size<=w.heap.size
 same:∀b,b<bT.heap.size->w.heap[b]?=bT.heap[b]?
 zH:∀b,lk ae H b->bT.heap.size<=b
 tape:w.tape=bT.tape
 os:w.os=bT.os
 output:w.output=bT.output
variable{H cM:bg}{L:cx}{b8:Exit->Act->World->Prop}{T:ca}{V:Value}{a:Act}{call:cE}{d i aT t:Nat}{ah:dM}{es l jh:aO}{k a8:bp->bg->Bool}{B:Oper}{av:Array Oper}{r:ri}{v:bp}{w bi ef:World}{ae bG oP:cX}
def B4.step{bT az}(h:B4 bT ae H w)(s:Step ae H w bG az bi):B4 bT bG az bi where
 size:=nR h.size s.size
 same b aB:=(s.frame b (pD aB h.size) λaV=>by have:=h.zH b aV;omega).trans (h.same b aB)
 zH b aV:=by
  rcases s.own b aV with D|D
  .exact nR h.size D
  .exact h.zH b D
 tape:=s.tape.trans h.tape
 os:=s.os.trans h.os
 output:=s.output.trans h.output
structure hB(bT:World)(ae:cX)(H:bg)(w:World):Prop where
 rel:Rel ae H w
 kv:B4 bT ae H w
def Hh(bT:World)(ae:cX)(H:bg)(w:World)(k:r6->bg->Bool):Ending->World->Prop:=λe bi=>
 ∃bG az,hB bT bG az bi/\Step ae H w bG az bi/\match e with
  |.returned V=>∃v,bP bG v V/\k (.val v) az=true|.panicked KY=>∃v V,KY=[{v:=V,recovered:=false}]/\bP bG v V/\k (.nu v) az=true|.outgrown=>False
def pZ(P:Program)(bT:World)(call:cE):Prop:=∀(f:Nat)(args:cx)(H:bg)(k:r6->bg->Bool),call f args H k=true->
 ∃fn,P.funcs[f]?=some fn/\fn.body.isSome=true/\∀(ae:cX)(w:World)(jf:lE),dh ae args jf->hB bT ae H w->Calls P f (List.toArray jf) w (Hh bT ae H w k)
def MJ(P:Program)(bT:World)(ae:cX)(H:bg)(w:World)(B:Oper)(a:Act)(k a8:bp->bg->Bool):Prop:=
 ∀(next:Act->World->Prop)(b8:Exit->Act->World->Prop),
  (∀bG az v V bi,hB bT bG az bi->Step ae H w bG az bi->bP bG v V->k v az=true->next (a.put B.dst V) bi)->
  (∀bG az v V bi,hB bT bG az bi->Step ae H w bG az bi->bP bG v V->a8 v az=true->b8 (.panic [{v:=V,recovered:=false}]) a bi)->B.wp P a w next b8
def oL(P:Program):Prop:=∀(f:Nat)(fn:Func),P.funcs[f]?=some fn->fn.body.isSome=true->(fn.name== "runtime.NumGoroutine")=false
section
variable{P:Program}{es:aO}{ah:dM}{L:cx}{T:ca}{bT:World}
def sc.out(R:hB bT ae H w)(h:sc P ae H w (execOp a.eval B) k):MJ P bT ae H w B a k a8:=by
 intro next b8 D F
 have⟨bG,az,v,V,bi,aj,an,aM,bs,cp⟩:=h;have aD:=D bG az v V bi ⟨aM,R.kv.step bs⟩ bs an aj;unfold Oper.wp;rcases cp with cp|⟨cp,rfl⟩
 .rw[cp];exact aD
 .rw[cp];exact aD
def aiV{c}{f}(aQ:c.callee=.value f){ae}{bL}{g:Nat}{X et}{fn}(a1:ae f=.func (.func g) X et)(aD:oL P)(D:P.funcs[g]?=some fn)(F:fn.body.isSome)(w):(do let d <-resolve ae c bL;invoke d.target d.args:Sem Next).run P w=.ok (.enter g (X++c.args.map ae++et)) w:=by
 have aB:fn.body.isNone=false:=by
  simp_all
 have atv:(callFunc g (X++c.args.map ae++et)).run P w=.ok (.enter g (X++c.args.map ae++et)) w:=by unfold callFunc;rw[jm,run_program,jt,D];simp[aD g fn D F,aB]
 unfold resolve;simp_all[Deferred.ofValue,invoke]
def apw{f c}(R:hB bT ae H w)(gM:pZ P bT call)(aD:oL P)(aV:B.op=.call c)(aQ:c.callee=.value f)(h:(qZ es ah f c.args.toList).f call L T H k a8)(a1:j7 ae es ah L T a f)(sJ:∀x∈c.args.toList,j7 ae es ah L T a x):MJ P bT ae H w B a k a8:=by
 intro next b8 D F
 have has:=KA sJ;have dv:∀(g:Nat)(b5 cV:cx)(X et:Array Value),a.eval f=.func (.func g) X et->dh ae b5 X.toList->dh ae cV et.toList->
  call g (b5++((qh es ah c.args.toList).g L T++cV)) H (λr H=>zM r (λv=>k v H) (λv=>a8 v H))=true->B.wp P a w next b8:=by
  intro g b5 cV X et aw cR ll pi
  have⟨fn,aj,an,aM⟩:=gM _ _ _ _ pi
  have kX:(execOp a.eval B).run P w=.ok (.enter g (X++c.args.map a.eval++et)) w:=by unfold execOp;rw[aV];exact aiV aQ aw aD aj an w
  have Y:X++c.args.map a.eval++et=List.toArray (X.toList++(c.args.toList.map a.eval++et.toList)):=by simp_all
  have kV:=aM ae w (X.toList++(c.args.toList.map a.eval++et.toList)) (cR.append (has.append ll)) R
  rw[<-Y]at kV
  unfold Oper.wp
  rw[kX]
  refine Calls.mono kV λe bi nD=>?_
  have⟨bG,az,dC,b3,iQ⟩:=nD
  cases e with
  |returned V=>have⟨v,my,pH⟩:=iQ;exact D bG az v V bi dC b3 my pH
  |panicked KY=>obtain⟨v,V,rfl,my,pH⟩:=iQ;exact F bG az v V bi dC b3 my pH
  |outgrown=>simp_all
 unfold qZ at h;generalize qh es ah c.args.toList=jg at h has dv;have⟨dw⟩:=jg;unfold j7 at a1;generalize WE:eF es ah f=pO at h a1;have⟨pO⟩:=pO;have auZ:(C5 (pO L T) λf b5 cV=>nL (dw L T) cV λr=>nL b5 r λargs=>call f args H λr H=>zM r (λv=>k v H) (λv=>a8 v H))=true->B.wp P a w next b8:=by intro h;have⟨g,b5,cV,e,aq⟩:=ad1 h;simp at a1;rw[e]at a1;have⟨nt,nA,bC,aX,b4⟩:=a1;rw[q8,q8]at aq;exact dv g b5 cV (List.toArray nt) (List.toArray nA) bC aX b4 aq
 cases f with
 |func g=>exact dv g [] [] #[] #[] rfl (by simpa using dh.nil) (by simpa using dh.nil) (by simp_all)
 |tmp t=>simp_all|const v=>simp_all|global g=>simp_all
def al7{x y}{t}(aV:B.op=.store t x y)(f:Operand->Value)(h:(Instr.storeAt t (f x) (f y)).run P w=.ok () bi):(execOp f B).run P w=.ok .skip bi:=by unfold execOp;simp_all
def adk(R:hB bT ae H w)(gM:pZ P bT call)(aD:oL P)(h:(im P es ah B.op).f call L T H k a8)(eI:∀x∈B.op.operands.toList,j7 ae es ah L T a x):MJ P bT ae H w B a k a8:=by
 have aV:B.op=B.op:=rfl;generalize KM:B.op=op at h eI aV;unfold im at h;split at h
 .rename_i t x;split at h;rename_i cs f Ci a1;have M:=eI x (by simp[Op.operands]);unfold j7 at M;rw[Ci]at M;have cz:(js P t).f (cs L T) H (λv=>k v H)=true:=by simp_all
  have⟨v,bk,r,s,z,aj,an,aM,bs⟩:=VA cz;have wj:∃y,ae bk=some y:=by grind[bP]
  have⟨y,aE⟩:=wj;have⟨y2,cp,dj⟩:=bs ae w _ M (R.rel.obj bk (bP.lt R.rel aE));refine sc.out R ⟨ae,H,v,y2,w,aj,cp,R.rel,Step.refl _ _ _,.inl ?_⟩;unfold execOp;simp_all
 .rename_i t x y;split at h;rename_i cs fh f Ci akK a1;have M:=eI x (by simp[Op.operands]);have aE:=eI y (by simp[Op.operands]);unfold j7 at M aE;rw[Ci]at M;rw[akK]at aE;have cz:(px P t).f (cs L T) (fh L T) H (λH=>k .undef H)=true:=by simp_all
  have⟨bk,r,s,z,bN,aj,an,aM,bs,cp,dj⟩:=apx cz;have wj:∃y,ae bk=some y:=by grind[bP]
  have⟨q,a0⟩:=wj;have aC:=bP.lt R.rel a0;have⟨bi,b,cm,bC,aX,b4,dc,eC,oy,yE,UP⟩:=dj ae w _ _ M aE (R.rel.obj bk aC);have⟨cN,el⟩:=SJ R.rel aC aM aX b4 dc eC oy yE UP;exact sc.out R ⟨ae,_,.undef,undef,bi,an,Fh,cN,el,.inr ⟨al7 KM a.eval bC,rfl⟩⟩
 .rename_i s d x;have:=(an4 R.rel h (eI x (by simp[Op.operands]))).op;simp_all[sc.out,execOp]
 .rename_i x;split at h;rename_i cs Ci;have M:=eI x (by simp[Op.operands]);unfold j7 at M;rw[Ci]at M;have⟨t,v,e,D⟩:=aea h;simp at M;rw[e]at M;have nN:=M;have⟨X,cR,_⟩:=nN;intro next b8 aj an
  have kX:(execOp a.eval B).run P w=.halt (.panic (a.eval x)) w:=by simp_all[execOp,Instr.panic]
  unfold Oper.wp;rw[kX];exact an ae H _ _ w R (Step.refl _ _ _) M D
 .split at h
  .rename_i f aQ;refine apw R gM aD KM aQ h (eI f (by simp_all[Op.operands,Call.operands])) λx M=>eI x ?_;simp_all[Op.operands,Call.operands]
  .rename_i aQ;split at h
   .rename_i t a6 x y au M;have au:=LI au;have kW:=LI M;have:=(ah3 (bL:=B.type) R.rel h (eI x (by simp_all[Op.operands,Call.operands])) (eI y (by simp_all[Op.operands,Call.operands]))).op;refine sc.out R (this.congr ?_);unfold execOp;rw[KM];have e:(#[x,y]:Array Operand).map a.eval= #[a.eval x,a.eval y]:=by simp
    rw[Gm aQ,au,kW,e];rfl
   .exact ci h
  .rename_i aQ;split at h
   .rename_i t a6 x y au M;have au:=LI au;have kW:=LI M;have:=(akS (bL:=B.type) R.rel h (eI x (by simp_all[Op.operands,Call.operands])) (eI y (by simp_all[Op.operands,Call.operands]))).op;refine sc.out R (this.congr ?_);unfold execOp;rw[KM];have e:(#[x,y]:Array Operand).map a.eval= #[a.eval x,a.eval y]:=by simp
    rw[Gm aQ,au,kW,e];rfl
   .exact ci h
  .exact ci h
 .exact ci h
end
def ca.B1(T:ca):CO->db bp
 |.d0=>T.mL|.d1=>T.cD|.d2=>T.dp|.d3=>T.ga|.d4=>T.fX|.d5=>T.hO|.d6=>T.kd|.d7=>T.nE
def ca.su(T:ca)(d:CO)(v:db bp):ca:=
 match d with
 |.d0=>{T with mL:=v}|.d1=>{T with cD:=v}|.d2=>{T with dp:=v}|.d3=>{T with ga:=v}|.d4=>{T with fX:=v}|.d5=>{T with hO:=v}|.d6=>{T with kd:=v}|.d7=>{T with nE:=v}
def ca.A8(T:ca)(s:Nat)(v:bp):ca:=T.su (ea (s / 8 % 8)) ((T.B1 (ea (s / 8 % 8))).set (ea (s % 8)) v)
def ca.Hm(T:ca)(s):T.slot s=(T.B1 (ea (s / 8 % 8))).get (ea (s % 8)):=by rfl
def ca.akv(T:ca)(d cC)(v:db bp):(T.su d v).B1 cC=if cC=d then v else T.B1 cC:=by cases d<;>cases cC<;>rfl
def ca.Ki(T:ca)(s)(v):(T.A8 s v).ah=T.ah:=by unfold ca.A8 ca.su;grind
def ca.LZ(T:ca)(s dx)(v)(h:s<64)(cz:dx<64):(T.A8 s v).slot dx=if dx=s then v else T.slot dx:=by
 simp[ca.Hm,ca.A8,ca.akv];by_cases e:dx=s
 .subst e;simp[db.rb]
 .rw[cO e];by_cases aP:ea (dx / 8 % 8)=ea (s / 8 % 8)
  .rw[ev aP,db.rb,cO,aP];have:=Yp (mA _ af) (mA _ af) aP;omega
  simp_all
def arQ(d)(T)(f:db bp->(db bp->Bool)->Bool)(k):(slt d).u T f k=f (T.B1 d) λv=>k (T.su d v):=by cases d<;>rfl
def Jg(s)(T)(v)(k):(Cu s).p T v k=k (T.A8 s v):=by change(slt (ea (s / 8 % 8))).u T (λt k=>(bD (ea (s % 8))).u t (λ_ k=>k v) k) k=_;rw[arQ,AY];rfl
def WX:∀{l:aO}{t i j},yF t l i=some j->i<=j/\l[j - i]?=some t
 |[],t,i,j,h=>by cases h
 |a::l,t,i,j,h=>by
  cases aB:Nat.beq a t with
  |true=>simp_all[air]
  |false=>
   rw[aki l i aB]at h;have⟨D,F⟩:=WX h;grind
def L4(h:jB t l=some i):l[i]?=some t:=by have:=(WX (show yF t l 0=some i from h)).2;simp_all
def Zd{a6}(h:jB t l=some i)(cz:jB a6 l=some i):t=a6:=by have D:=L4 h;rw[L4 cz]at D;simp_all
def UK:∀{l}{t i},j2 t l=some i->l[i]?=some (some t)
 |[],t,i,h=>by simp[j2]at h
 |none::l,t,i,h=>by
  simp only[j2]at h;cases a0:j2 t l with
  |none=>simp_all|some j=>rw[a0]at h;simp at h;subst h;simpa using UK a0
 |some a::l,t,i,h=>by
  simp[j2]at h;split at h
  .rename_i aB;cases h;simp_all
  .cases a0:j2 t l with
   |none=>simp_all|some j=>rw[a0]at h;simp at h;subst h;simpa using UK a0
def aoW(ae:cX)(d:Lg)(a5:Deferred):Prop:=∃(jf Jt:lE),a5={target:=.fn (.func d.f) (List.toArray Jt),args:=List.toArray jf}/\dh ae d.args jf/\dh ae d.cap Jt
def Fg(ae:cX):List Lg->List Deferred->Prop
 |[],a5=>a5=[]|d::l,a5=>∃X nO,a5=X::nO/\aoW ae d X/\Fg ae l nO
def Fg.mono(h:ae.le bG):∀{l}{a5},Fg ae l a5->Fg bG l a5
 |[],_,e=>e|_::_,_,⟨X,nO,e,⟨bB,C,D,F,aq⟩,aL⟩=>⟨X,nO,e,⟨bB,C,D,dh.mono h _ _ F,dh.mono h _ _ aq⟩,aL.mono h⟩
structure TR(ae:cX)(es:aO)(aT:Nat)(T:ca)(a:Act):Prop where
 size:a.tmps.size=aT
 tmp:∀t s,jB t es=some s->s<64->bP ae (T.slot s) (a.tmps.getD t undef)
 defers:Fg ae T.ah a.defers
def TR.mono(h:ae.le bG)(r:TR ae es aT T a):TR bG es aT T a:=
 ⟨r.size,λt s D F=>bP.mono h _ _ (r.tmp t s D F),r.defers.mono h⟩
structure lW(ae:cX)(es:aO)(aT:Nat)(ah:dM)(L:cx)(T:ca)(a:Act):Prop extends TR ae es aT T a where
 len:L.length=ah.length
 loc:∀t i,j2 t ah=some i->bP ae (L.getD i .any) (a.tmps.getD t undef)
def lW.mono(h:ae.le bG)(r:lW ae es aT ah L T a):lW bG es aT ah L T a:=
 ⟨r.toTR.mono h,r.len,λt i aN=>bP.mono h _ _ (r.loc t i aN)⟩
section
variable{P:Program}{es:aO}{aT:Nat}{ah:dM}{L:cx}{T:ca}{bT:World}{ae:cX}{a:Act}
def lW.start(r:TR ae es aT T a):lW ae es aT [] [] T a:=⟨r,rfl,λt i h=>by simp[j2]at h⟩
def lW.O2(r:lW ae es aT ah L T a)(t):xn ae es ah L T a t:=by
 unfold xn ls;cases bq:j2 t ah with
 |some i=>rw[CF];exact r.loc t i bq
 |none=>
  cases aN:jB t es with
  |none=>exact Cr _
  |some s=>
   simp only;cases ap:Nat.blt s 64 with
   |true=>rw[NL];exact r.tmp t s aN (dg.1 ap)|false=>exact Cr _
def lW.wG(r:lW ae es aT ah L T a)(x):j7 ae es ah L T a x:=j7.adE λt _=>r.O2 t
def NW(b5:Array Value)(d t)(v)(h:d<b5.size):(b5.setIfInBounds d v).getD t undef=if t=d then v else b5.getD t undef:=by
 by_cases e:t=d
 .simp_all
 .rw[cO e];simp;grind
def Bm(a:Act)(d:Nat)(v):(a.put (some d) v).tmps=a.tmps.setIfInBounds d v:=rfl
def lW.ac2(r:lW ae es aT ah L T a)(aY:d<aT)(aI:bP ae v V):∀t i,j2 t (some d::ah)=some i->bP ae ((v::L).getD i .any) ((a.put (some d) V).tmps.getD t undef):=by
 intro t i h;rw[Bm,NW _ _ _ _ (by rw[r.size];grind)];simp[j2]at h;split at h
 .rename_i aB;cases h;simp_all
 .rename_i aB;have aB:=tC aB;rw[cO (λe=>aB e.symm)];cases a0:j2 t ah with
  |none=>simp_all|some j=>rw[a0]at h;simp at h;subst h;exact r.loc t j a0
def lW.aa0(r:lW ae es aT ah L T a)(aY:d<aT)(aN:jB d es=none)(aI:bP ae v V):lW ae es aT (some d::ah) (v::L) T (a.put (some d) V):=by
 refine⟨⟨?_,λt s D F=>?_,r.defers⟩,by simp[r.len],r.ac2 aY aI⟩
 .rw[Bm,Array.size_setIfInBounds];exact r.size
 .rw[Bm,NW _ _ _ _ (by rw[r.size];grind),cO]
  .exact r.tmp t s D F
  grind
def lW.agi{jb}(r:lW ae es aT ah L T a)(aY:d<aT)(aN:jB d es=some jb)(ap:jb<64)(aI:bP ae v V):lW ae es aT (some d::ah) (v::L) (T.A8 jb v) (a.put (some d) V):=by
 refine⟨⟨?_,λt s D F=>?_,by rw[ca.Ki];exact r.defers⟩,by simp[r.len],?_⟩
 .rw[Bm,Array.size_setIfInBounds];exact r.size
 .rw[Bm,NW _ _ _ _ (by rw[r.size];grind),ca.LZ _ _ _ _ ap F];by_cases e:t=d
  .simp_all
  .have ed:s≠jb:=λq=>e (Zd D (by simp_all));rw[cO e,cO ed];exact r.tmp t s D F
 .exact r.ac2 aY aI
def J1{av:Array Oper}{B}{j:Nat}{lB}{d:Nat}(bI:B.guard=some (j,lB))(aY:(av[j]?).bind (·.dst)=some d)(ap:xn ae es ah L T a d):(∀b,(ls es ah d).g L T=.bool b->Region.wanted B (yielded av a.tmps)=(b==lB))/\((ls es ah d).g L T=.undef->Region.wanted B (yielded av a.tmps)=false):=by
 unfold xn at ap;unfold Region.wanted yielded;rw[bI];simp only[aY,Option.bind_some];refine⟨λb aB=>?_,λaB=>?_⟩
 .rw[aB]at ap;simp only[bP]at ap;have:a.tmps[d]?=some (.bool b):=by
   rw[UR]at ap;grind[undef]
  simp_all
 .rw[aB]at ap;rw[UR]at ap;cases h:a.tmps[d]? with
  |none=>rfl|some x=>rw[h]at ap;simp at ap;rw[ap];rfl
end
section
variable{P:Program}{es:aO}{aT:Nat}{bT:World}
def arJ(R:hB bT ae H w)(gM:pZ P bT call)(aD:oL P)(h:(og P es ah B.op).f call L T H k a8=true)(eI:∀x∈B.op.operands.toList,j7 ae es ah L T a x):MJ P bT ae H w B a k a8:=by
 unfold og at h;split at h
 .split at h;rename_i f a1;have cz:(v3 P es ah B.op).f L T (λv=>k v H)=true:=by simp_all
  have⟨v,V,D,F,aq⟩:=Xq cz eI;exact sc.out R ⟨ae,H,v,V,w,D,F,R.rel,Step.refl _ _ _,.inl (aq w)⟩
 .split at h;rename_i f a1;have cz:(Bd P es ah B.op).f L T (λbN v=>tq H bN λa H=>k (v a) H)=true:=by simp_all
  have⟨bN,gX,D,F,aq⟩:=Yu cz;have⟨obj,cm,q3,aL,bO⟩:=aq ae a eI;have⟨bG,az,aj,an,aM,bs⟩:=adp R.rel aL D;exact sc.out R ⟨bG,az,_,_,_,aj,an,aM,bs,.inl (bO w)⟩
 .split at h;rename_i f a1;have cz:(im P es ah B.op).f call L T H k a8=true:=by simp_all
  exact adk R gM aD cz eI
def tT(b8:Exit->Act->World->Prop)(bT:World)(es:aO)(aT:Nat)(ae:cX)(H:bg)(w:World)(k:ca->bg->Bool):Prop:=
 ∀bG az c6 bz bi,TR bG es aT c6 bz->hB bT bG az bi->Step ae H w bG az bi->k c6 az=true->b8 .normal bz bi
def wL(b8:Exit->Act->World->Prop)(bT:World)(es:aO)(aT:Nat)(ae:cX)(H:bg)(w:World)(a8:ca->bp->bg->Bool):Prop:=
 ∀bG az c6 bz v V bi,TR bG es aT c6 bz->hB bT bG az bi->Step ae H w bG az bi->bP bG v V->a8 c6 v az=true->b8 (.panic [{v:=V,recovered:=false}]) bz bi
def tT.step{k}(h:tT b8 bT es aT ae H w k)(s:Step ae H w oP cM ef):tT b8 bT es aT oP cM ef k:=
 λbG az c6 bz bi D F aq aL=>h bG az c6 bz bi D F (s.trans aq) aL
def wL.step{a8}(h:wL b8 bT es aT ae H w a8)(s:Step ae H w oP cM ef):wL b8 bT es aT oP cM ef a8:=
 λbG az c6 bz v V bi D F aq aL bO=>h bG az c6 bz v V bi D F (s.trans aq) aL bO
def nV(P:Program)(av:Array Oper)(b8:Exit->Act->World->Prop):aO->Act->World->Prop
 |[],a,w=>b8 .normal a w
 |i::jh,a,w=>
  match av[i]? with
  |none=>nV P av b8 jh a w|some B=>if Region.wanted B (yielded av a.tmps)then B.wp P a w (nV P av b8 jh) b8 else nV P av b8 jh (a.put B.dst undef) w
def Lk:∀(l)(a)(w),nV P av b8 l a w->wpOps P av b8 l a w
 |[],_,_,h=>h
 |i::jh,a,w,h=>by
  unfold nV at h;unfold wpOps;split at h
  .rename_i aV;simp[aV];exact Lk jh a w h
  .rename_i B aV;simp[aV];split at h
   .rename_i cw;rw[ev cw];exact .inl (Oper.wp_mono (λa w=>Lk jh a w) h)
   .rename_i cw;rw[cO cw];exact Lk jh _ _ h
def NY{b8 eU}:∀(l)(a)(w),nV P av (λe a w=>b8 e a eU w) l a w->wpOpsS P av b8 l a eU w
 |[],_,_,h=>h
 |i::jh,a,w,h=>by
  unfold nV at h;unfold wpOpsS;split at h
  .rename_i aV;simp[aV];exact NY jh a w h
  .rename_i B aV;simp[aV];split at h
   .rename_i cw;rw[ev cw];have h:=Oper.wp_mono (λa w=>NY jh a w) h;unfold Oper.wp at h;split
    .rename_i bi ag;rw[ag]at h;exact h.elim
    grind
   .rename_i cw;rw[cO cw];exact NY jh _ _ h
def adH(aV:av[i]?=some B)(cw:Region.wanted B (yielded av a.tmps))(h:B.wp P a w (nV P av b8 jh) b8):nV P av b8 (i::jh) a w:=by simp_all[nV]
def anZ(aV:av[i]?=some B)(cw:Region.wanted B (yielded av a.tmps)=false)(h:nV P av b8 jh (a.put B.dst undef) w):nV P av b8 (i::jh) a w:=by simp_all[nV]
def KO(P:Program)(bT:World)(es:aO)(aT:Nat)(av:Array Oper)(call:cE)(jh:aO)(ah:dM)(r:ri):Prop:=
 ∀(ae:cX)(H:bg)(w:World)(L:cx)(T:ca)(a:Act)(k:ca->bg->Bool)(a8:ca->bp->bg->Bool)(b8:Exit->Act->World->Prop),hB bT ae H w->lW ae es aT ah L T a->
  r.f call L T H k a8=true->tT b8 bT es aT ae H w k->wL b8 bT es aT ae H w a8->nV P av b8 jh a w
def aat{av}{call}{jh}{ah:dM}{s}{r}{B:Oper}(ag:KO P bT es aT av call jh (B.dst::ah) r){ae}{H}{w}{L}{T}{a}{k}{a8}{b8}(bv:lW ae es aT ah L T a)(h:(after es aT B.dst s r).f call L T H k a8)(D:tT b8 bT es aT ae H w k)(F:wL b8 bT es aT ae H w a8):∃df,s.f call L T H df (a8 T)/\∀bG az v V bi,hB bT bG az bi->Step ae H w bG az bi->bP bG v V->df v az->nV P av b8 jh (a.put B.dst V) bi:=by
 unfold after at h;have⟨r⟩:=r;generalize aY:B.dst=pY at h ag;cases pY with
 |none=>
  refine⟨_,h,λbG az v V bi bC aX b4 dc=>?_⟩;refine ag bG az bi _ T _ k a8 b8 bC ?_ dc (D.step aX) (F.step aX);exact⟨⟨bv.size,λt s x y=>bP.mono aX.le _ _ (bv.tmp t s x y),bv.defers.mono aX.le⟩,by simp[bv.len],λt i aN=>by
   simp only[j2]at aN;cases a0:j2 t ah with
   |none=>simp_all
   |some j=>rw[a0]at aN;simp at aN;subst aN;exact bP.mono aX.le _ _ (bv.loc t j a0)⟩
 |some d=>
  simp at h;split at h
  .rename_i aB aN;refine⟨_,h,λbG az v V bi bC aX b4 dc=>?_⟩;exact ag bG az bi _ T _ k a8 b8 bC ((bv.mono aX.le).aa0 (dg.1 aB) aN b4) dc (D.step aX) (F.step aX)
  .rename_i i aB aN;split at h
   .rename_i p ap bq;refine⟨_,h,λbG az v V bi bC aX b4 dc=>?_⟩;have eC:(Cu i).p T v (λT=>r call (v::L) T az k a8)=true:=by simp_all
    rw[Jg]at eC;exact ag bG az bi _ _ _ k a8 b8 bC ((bv.mono aX.le).agi (dg.1 aB) aN (dg.1 ap) b4) eC (D.step aX) (F.step aX)
   .exact ci h
  .exact ci h
def ad9{k a8}(gM:pZ P bT call)(aD:oL P)(aV:av[i]?=some B)(ag:KO P bT es aT av call jh (B.dst::ah) r)(R:hB bT ae H w)(bv:lW ae es aT ah L T a)(h:(after es aT B.dst (og P es ah B.op) r).f call L T H k a8)(D:tT b8 bT es aT ae H w k)(F:wL b8 bT es aT ae H w a8)(cw:Region.wanted B (yielded av a.tmps)):nV P av b8 (i::jh) a w:=by have⟨df,aj,an⟩:=aat ag bv h D F;exact adH aV cw (arJ R gM aD aj (λx _=>bv.wG x) _ _ an λbG az v V bi bC aX b4 dc=>F bG az T a v V bi (bv.toTR.mono aX.le) bC aX b4 dc)
def aqJ{k a8}(aV:av[i]?=some B)(ag:KO P bT es aT av call jh (B.dst::ah) r)(R:hB bT ae H w)(bv:lW ae es aT ah L T a)(h:(after es aT B.dst If r).f call L T H k a8)(D:tT b8 bT es aT ae H w k)(F:wL b8 bT es aT ae H w a8)(cw:Region.wanted B (yielded av a.tmps)=false):nV P av b8 (i::jh) a w:=by have⟨df,aj,an⟩:=aat (s:=If) ag bv h D F;exact anZ aV cw (an ae H .undef undef w R (Step.refl _ _ _) Fh aj)
def ame{B}{c}{f}(aV:B.op=.defer c)(aQ:c.callee=.value f)(ae){g:Nat}{X et}(a1:ae f=.func (.func g) X et)(w):(execOp ae B).run P w=.ok (.defer {target:=.fn (.func g) et,args:=X++c.args.map ae}) w:=by unfold execOp;rw[aV];show(do pure (.defer (<-resolve ae c B.type)):Sem Next).run P w=_;simp_all[resolve,Deferred.ofValue]
def T2(gM:pZ P bT call)(aD:oL P):∀(l)(i)(ah),(∀j B,l[j]?=some B->av[i+j]?=some B)->KO P bT es aT av call (List.range' i l.length) ah (vJ P es aT av ah l)
 |[],i,ah,Y=>by intro ae H w L T a k a8 b8 R bv h D F;exact D ae H T a w bv.toTR R (Step.refl _ _ _) h
 |B::l,i,ah,Y=>by
  intro ae H w L T a k a8 b8 R bv h D F;have aV:av[i]?=some B:=by simpa using Y 0 B rfl
  have iJ:∀j B,l[j]?=some B->av[(i+1)+j]?=some B:=λj B bl=>by have:=Y (j+1) B (by simpa using bl);have e:i+(j+1)=i+1+j:=I;rwa[e]at this
  have bQ:=λah=>T2 gM aD l (i+1) ah iJ;show nV P av b8 (i::List.range' (i+1) l.length) a w;unfold vJ at h;split at h
  .rename_i c eI;split at h
   .rename_i bI aY;have Ck:=bQ (none::ah);have cw:Region.wanted B (yielded av a.tmps)=true:=by unfold Region.wanted;rw[bI]
    unfold WZ at h;split at h
    .rename_i f aQ;generalize vJ P es aT av (none::ah) l=r at h Ck;have⟨r⟩:=r;split at h;rename_i pO dw eH WE has f7;cases f7;have⟨g,b5,cV,e,aq⟩:=ad1 h;rw[q8]at aq;have a1:=bv.wG f;unfold j7 at a1;rw[WE]at a1;simp only at a1;rw[e]at a1;simp only[bP]at a1;have⟨nt,nA,bC,aX,b4⟩:=a1;have sJ:=KA (es:=es) (ah:=ah) (L:=L) (T:=T) (ae:=ae) (a:=a) (l:=c.args.toList) λx _=>bv.wG x;rw[has]at sJ;refine adH aV cw ?_;unfold Oper.wp;rw[ame eI aQ a.eval bC];show nV P av b8 (List.range' (i+1) l.length) (Act.put _ B.dst undef) w;rw[aY];refine Ck ae H w _ _ _ k a8 b8 R ?_ aq D F;refine⟨⟨bv.size,bv.tmp,?_⟩,by simp[bv.len],λt i aN=>?_⟩
     .refine⟨_,_,rfl,⟨nt++c.args.toList.map a.eval,nA,?_,aX.append sJ,b4⟩,bv.defers⟩;congr 1;apply Array.ext';simp
     .simp only[j2]at aN;cases a0:j2 t ah with
      |none=>rw[a0]at aN;cases aN
      |some j=>rw[a0]at aN;simp at aN;subst aN;exact bv.loc t j a0
    .exact ci h
   .exact ci h
  .rename_i op aik;have Ck:=bQ (B.dst::ah);generalize vJ P es aT av (B.dst::ah) l=r at h Ck;cases bI:B.guard with
   |none=>
    rw[bI]at h;have cw:Region.wanted B (yielded av a.tmps)=true:=by unfold Region.wanted;rw[bI]
    exact ad9 gM aD aV Ck R bv h D F cw
   |some H5=>
    have⟨j,lB⟩:=H5;rw[bI]at h;simp only at h;cases aY:(av[j]?).bind (·.dst)with
    |none=>rw[aY]at h;exact ci h
    |some d=>
     rw[aY]at h;simp only at h;have⟨ef,fO⟩:=J1 (B:=B) bI aY (bv.O2 d);generalize auR:ls es ah d=g at h ef fO;generalize aE:after es aT B.dst (og P es ah B.op) r=y at h;generalize ju:after es aT B.dst If r=no at h;have⟨g⟩:=g;have⟨y⟩:=y;have⟨no⟩:=no;have yes:y call L T H k a8=true->Region.wanted B (yielded av a.tmps)=true->nV P av b8 (i::List.range' (i+1) l.length) a w:=λbC aX=>ad9 gM aD aV Ck R bv (by rw[aE];exact bC) D F aX;have Mm:no call L T H k a8=true->Region.wanted B (yielded av a.tmps)=false->nV P av b8 (i::List.range' (i+1) l.length) a w:=λbC aX=>aqJ aV Ck R bv (by rw[ju];exact bC) D F aX;cases lB with
     |true=>
      rcases FN h with⟨b,e,aq⟩|⟨e,aq⟩
      .rcases iE aq with⟨aB,aL⟩|⟨aB,aL⟩
       .exact yes aL (by rw[ef b e,aB];rfl)
       .exact Mm aL (by rw[ef b e,aB];rfl)
      .exact Mm aq (fO e)
     |false=>
      rcases FN h with⟨b,e,aq⟩|⟨e,aq⟩
      .rcases iE aq with⟨aB,aL⟩|⟨aB,aL⟩
       .exact Mm aL (by rw[ef b e,aB];rfl)
       .exact yes aL (by rw[ef b e,aB];rfl)
      .exact Mm aq (fO e)
end
end Go.Ev
