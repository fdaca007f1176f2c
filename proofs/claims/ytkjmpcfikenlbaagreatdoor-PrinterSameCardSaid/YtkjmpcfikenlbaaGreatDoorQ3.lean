/- A part. -/
import Derived.Test.YtkjmpcfikenlbaaGreatDoorQ2
import Derived.Test.YtkjmpcfikenlbaaGreatDoorH1
set_option linter.all false
namespace Go.Tx
open Go Go.Ev
set_option maxRecDepth 100000
set_option maxHeartbeats 8000000
def g6(l:List bj):bj:=match l with
 |[]=>[]|l=>91::(cU [44,32] l++[93])
mutual
def al.bc:al->bj
 |.mk n _ l=>n++g6 (al.zw l)
def al.zw:List al->List bj
 |[]=>[]|a::l=>a.bc::al.zw l
end
def al.Kw:∀l,al.zw l=l.map al.bc
 |[]=>rfl
 |a::l=>by rw[al.zw,al.Kw l];rfl
def al.sa(t:al):t.bc=t.ay++g6 (t.l.map al.bc):=by cases t;rw[al.bc,al.Kw];rfl
attribute [local irreducible] eo eA bU eE eJ eN cU eX
theorem ahj{x:al}{l:List al}(h:x∈l):x.bc.length<=(g6 (l.map al.bc)).length:=by
 obtain⟨d,r,rfl⟩:=List.append_of_mem h;have bq:=(KV [44,32] x.bc (r.map al.bc) (d.map al.bc)).1;have e:(d++x::r).map al.bc=d.map al.bc++x.bc::r.map al.bc:=by simp
 rw[e];cases a0:d.map al.bc++x.bc::r.map al.bc with
 |nil=>simp at a0|cons a s=>rw[a0]at bq;show _<=(91::(cU [44,32] (a::s)++[93])).length;simp only[List.length_cons,List.length_append];omega
section
variable{C:Nat->cE}{ext:Nat->Option eS}{Q:e9}(aa:Env C ext Q)
include aa
def RK(g:Nat)(l:List al)(Y:l.length<1000000)(aQ:∀x∈l,dz C 83 [.J (.agg x.cells)] λv=>v=.str x.bc)(aB:(cU [44,32] (l.map al.bc)).length<100000000000000000):dz C 84 [.J (.aH g (l.map al.row))] λv=>v=.str (cU [44,32] (l.map al.bc)):=by
 refine aa.z 84 (gK [(0,[3,4,8,9],[],[])]) rfl rfl ?_;have hm:(l.map al.row).length=l.length:=bW;have oq:cU [44,32] []=[]:=by unfold cU;rfl
 refine N ?_;refine kA al.row l 7 (λd (_:Unit)=>[(2,.J (.str (cU [44,32] (d.map al.bc))))]) (λd _=>[]) (λd _=>True) ⟨(),trivial,by rw[hq,oq];rfl⟩ (λd _ x r ba aw be ag a7 bt=>?_) (λ_ ba a7=>?_)
 .have bq:=KV [44,32] x.bc (r.map al.bc) (d.map al.bc);rw[show d.map al.bc++x.bc::r.map al.bc=l.map al.bc by rw[aw];simp]at bq;have M:=aQ x (by simp[aw]);rw[al.dN]at ag;refine dk ?_;refine eh (λh=>?_) (λh=>?_)
  .have aY:d.map al.bc≠[]:=by intro e;simp at e;subst e;simp at h
   have a0:=bq.2 aY;refine bw ?_;refine dW M ?_;exact bt () _ _ trivial (by rw[jj,gg,hq,T7 _ _ _ aY,k9];rfl)
  .have aY:d=[]:=List.eq_nil_of_length_eq_zero I;have a0:=bq.1;refine bw ?_;refine dW M ?_;exact bt () _ _ trivial (by subst aY;rw[hq,oq];unfold cU;rfl)
 .refine dd ?_;exact⟨rfl,rfl⟩
theorem WJ(g:Nat)(l:List al)(Y:l.length<1000000)(aQ:∀x∈l,dz C 83 [.J (.agg x.cells)] λv=>v=.str x.bc)(aB:(g6 (l.map al.bc)).length<100000000000000000):dz C 165 [.J (.aH g (l.map al.row))] λv=>v=.str (g6 (l.map al.bc)):=by
 have hm:(l.map al.row).length=l.length:=List.length_map ..;cases l with
 |nil=>refine aa.z 165 ff rfl rfl ?_;refine N ?_;exact⟨rfl,rfl⟩
 |cons a l=>
  have e:g6 ((a::l).map al.bc)=91::(cU [44,32] ((a::l).map al.bc)++[93]):=rfl;rw[e]at aB ⊢;simp only[List.length_cons,List.length_append]at aB;have bl:=RK aa g (a::l) Y aQ (by simp only[List.map_cons]at aB ⊢;omega);refine aa.z 165 ff rfl rfl ?_;refine N ?_;refine ch (λh=>?_) (λh=>?_)
  .simp at h
  refine N ?_;refine bn bl ?_;refine bw ?_;exact⟨rfl,rfl⟩
def wV:∀t:al,t.b0->t.bc.length<100000000000000000->dz C 83 [.J (.agg t.cells)] λv=>v=.str t.bc:=
 al.ind λt bQ au aB=>by have Y:=au.len;rw[ex]at Y;have kR:=aB;rw[al.sa,fP]at kR;have dv:=WJ aa t.g t.l I (λx M=>bQ x M (au.l0 M) (by have:=ahj M;omega)) I;rw[al.sa];refine aa.z 83 ff rfl rfl ?_;refine N ?_;refine dW dv ?_;exact⟨rfl,rfl⟩
theorem Q7(g:Nat)(l:List bj)(Y:l.length<1000000)(aB:(g6 l).length<100000000000000000):dz C 82 [.J (.aH g (l.map b6))] λv=>v=.str (g6 l):=by
 have hm:(l.map b6).length=l.length:=List.length_map ..;cases l with
 |nil=>refine aa.z 82 ff rfl rfl ?_;refine N ?_;exact⟨rfl,rfl⟩
 |cons a l=>
  have e:g6 (a::l)=91::(cU [44,32] (a::l)++[93]):=rfl;rw[e]at aB ⊢;simp only[List.length_cons,List.length_append]at aB;have bl:=EC aa g (a::l) [44,32] Y (by omega);refine aa.z 82 ff rfl rfl ?_;refine N ?_;refine ch (λh=>?_) (λh=>?_)
  .simp at h
  refine N ?_;refine bn bl ?_;refine bw ?_;exact⟨rfl,rfl⟩
end
def j8(n:Nat):bj:=if h:n=0 then []else j8 (n / 10)++[UInt8.ofNat (48+n % 10)]
termination_by n
def Gl{n:Nat}(h:0<n):j8 n=j8 (n / 10)++[UInt8.ofNat (48+n % 10)]:=by rw[j8];simp[Nat.ne_of_gt h]
theorem Mv : ∀ k n : Nat, n < 10 ^ k → (j8 n).length ≤ k
  | 0, n, h => by have : n = 0 := by simpa using h
                  rw [this, j8]; simp
  | k + 1, n, h => by
    rw [j8]
    split
    · simp
    · have := Mv k (n / 10) (by rw [Nat.pow_succ]at h; omega)
      simp; exact this
def akU{n:Nat}(h:9223372036854775808<=n)(aD:n<18446744073709551616):eA 9223372036854775808 18446744073709551616 n 0=true:=by unfold eA;show Nat.blt ((9223372036854775808+n) % 18446744073709551616) ((9223372036854775808+0) % 18446744073709551616)=true;rw[Gq];omega
def al8{n:Nat}(h:n<9223372036854775808):eA 9223372036854775808 18446744073709551616 n 0=false:=by unfold eA;show Nat.blt ((9223372036854775808+n) % 18446744073709551616) ((9223372036854775808+0) % 18446744073709551616)=false;rw[<-Bool.not_eq_true,Gq];omega
def sl(n:Nat):bj:=if n=0 then [48]else j8 n
def mx(n:Nat):bj:=if n<9223372036854775808 then sl n else [45]++j8 (18446744073709551616 - n)
section
variable{C:Nat->cE}{ext:Nat->Option eS}{Q:e9}(aa:Env C ext Q)
include aa
def N5(n:Nat)(aD:n<18446744073709551616):dz C 80 [.J (.int 3 n)] λv=>v=.str (mx n):=by
 refine aa.z 80 (gK [(0,[6],[],[])]) rfl rfl ?_;have Y:=λu (h:u<18446744073709551616)=>Mv 20 u (Nat.lt_trans h af);refine N ?_;refine ch (λh=>?_) (λh=>?_)
 .refine N ?_;exact⟨rfl,by subst h;rfl⟩
 refine N ?_;obtain⟨x,M,neg,RG,Kc⟩:∃x:Nat,x<18446744073709551616/\∃b:Bool,(mx n=(if b then [45]else [])++j8 x)/\eA 9223372036854775808 18446744073709551616 n 0=b/\(b=false->x=n)/\(b=true->(18446744073709551616 - n) % 18446744073709551616=x):=by
  rcases m4 n 9223372036854775808 with D|D
  .exact⟨n,aD,false,by unfold mx sl;rw[ev D,cO h];rfl,al8 D,λ_=>rfl,λh=>by cases h⟩
  .exact⟨18446744073709551616 - n,I,true,by unfold mx;rw[cO I];rfl,akU D aD,(λh=>by cases h),λ_=>I⟩
 have⟨Kc,fg,aP⟩:=Kc;refine q2.rJ ?_;rw[Kc];cases neg
 .have fg:=fg rfl;rw[fg]at RG;refine N ?_;refine qU (α:=Nat×bj) (λb=>[(2,.J (.str b.2)),(3,.J (.int 7 b.1))]) (λb=>[]) (λb=>b.1) (λb=>b.1<18446744073709551616/\j8 b.1++b.2=j8 n) ⟨(n,[]),⟨aD,by simp⟩,by kernel_rfl⟩ (λb ba a7 bt=>?_);have⟨u,s⟩:=b;have⟨dR,du⟩:=a7;refine N ?_;refine eh (λF=>?_) (λF=>?_)
  .have dR:u<18446744073709551616:=dR;have du:j8 u++s=j8 n:=du;have F:0<u:=F;have Y:=Y n aD;have a0:=fr List.length du;rw[fP]at a0;have aB:48+u % 10<256:=I;refine bw ?_;rw[show r8 [[b9.int 4 (48+u % 10)]]=some [UInt8.ofNat (48+u % 10)]from TT aB];refine bw ?_;exact bt (u / 10,UInt8.ofNat (48+u % 10)::s) _ _ (Nat.div_lt_self F af) ⟨by show u / 10<_;omega,by show j8 (u / 10)++_=_;rw[<-du,Gl F];simp⟩ rfl
  .have du:j8 u++s=j8 n:=du;have hu:u=0:=Nat.le_zero.1 F;refine N ?_;refine q2.rJ ?_;rw[Kc];refine N ?_;refine⟨rfl,?_⟩;subst hu;rw[show j8 0=[] by rw[j8];simp]at du;show b9.str s=_;have du:s=j8 n:=du;rw[du,RG];rfl
 .have aP:=aP rfl;refine N ?_;rw[show(cF 7 - n) % cF 7=x from aP];refine qU (α:=Nat×bj) (λb=>[(2,.J (.str b.2)),(3,.J (.int 7 b.1))]) (λb=>[]) (λb=>b.1) (λb=>b.1<18446744073709551616/\j8 b.1++b.2=j8 x) ⟨(x,[]),⟨M,by simp⟩,by kernel_rfl⟩ (λb ba a7 bt=>?_);have⟨u,s⟩:=b;have⟨dR,du⟩:=a7;refine N ?_;refine eh (λF=>?_) (λF=>?_)
  .have dR:u<18446744073709551616:=dR;have du:j8 u++s=j8 x:=du;have F:0<u:=F;have Y:=Y x M;have a0:=fr List.length du;rw[fP]at a0;have aB:48+u % 10<256:=I;refine bw ?_;rw[show r8 [[b9.int 4 (48+u % 10)]]=some [UInt8.ofNat (48+u % 10)]from TT aB];refine bw ?_;exact bt (u / 10,UInt8.ofNat (48+u % 10)::s) _ _ (Nat.div_lt_self F af) ⟨by show u / 10<_;omega,by show j8 (u / 10)++_=_;rw[<-du,Gl F];simp⟩ rfl
  .have du:j8 u++s=j8 x:=du;have hu:u=0:=Nat.le_zero.1 F;subst hu;rw[show j8 0=[] by rw[j8];simp]at du;have du:s=j8 x:=du;have ap:=Y x M;rw[<-du]at ap;have ap:[45].length+List.length (0,s).snd<=1152921504606846976:=by show 1+s.length<=_;omega
   refine N ?_;refine q2.rJ ?_;rw[Kc];refine N ?_;refine bV.mk ap ?_;refine N ?_;refine⟨rfl,?_⟩;show b9.str ([45]++s)=_;rw[du,RG];rfl
end
def UH{n:Nat}(h:n<18446744073709551616):(sl n).length<=20:=by
 unfold sl;split
 .simp
 .exact Mv 20 n I
def LU{n:Nat}(h:n<18446744073709551616):(mx n).length<=21:=by
 unfold mx;split
 .have:=UH h;omega
 .have:=Mv 20 (18446744073709551616 - n) I;simp;omega
def nc(n:Nat)(p m:Bool)(w:bj):bj:=(if 0<n then [115,105,110,99,101,32]++sl n++[32]else [])++(if p then [112,117,98,108,105,99,32]else [])++(if m then w++[32]else [])
section
variable{C:Nat->cE}{ext:Nat->Option eS}{Q:e9}(aa:Env C ext Q)
include aa
def Gt(n:Nat)(p m:Bool)(w:bj)(aD:n<9223372036854775808)(cw:w.length<1000):dz C 81 [.J (.int 3 n),.J (.bool p),.J (.bool m),.J (.str w)] λv=>v=.str (nc n p m w):=by
 have k:=N5 aa n I;rw[show mx n=sl n by unfold mx;rw[ev aD]]at k;have Y:=UH (n:=n) I;cases p<;>cases m
 all_goals
  refine aa.z 81 ff rfl rfl ?_
  refine bw ?_
  refine eh (λh=>?_) (λh=>?_)
  .refine bw ?_;refine dW k ?_;refine⟨rfl,?_⟩;rw[nc,ev h];simp
  .refine bw ?_;refine⟨rfl,?_⟩;rw[nc,cO I];simp
end
def iz(g:c3):bj:=g.ay++(if g.ec.length=0 then []else [58,32]++cU [32,43,32] g.ec)
section
variable{C:Nat->cE}{ext:Nat->Option eS}{Q:e9}(aa:Env C ext Q)
include aa
def ad4(g:Nat)(l:List c3)(Y:l.length<100)(ok:∀x∈l,x.ok)(aB:(g6 (l.map iz)).length<100000000000000000)(bl:∀x∈l,(iz x).length<100000000000000000):dz C 85 [.J (.aH g (l.map c3.row))] λv=>v=.str (g6 (l.map iz)):=by
 refine aa.z 85 (gK [(0,[3,4,8,9],[⟨false,2,0,900,9,1⟩],[900])]) rfl rfl ?_;have hm:(l.map c3.row).length=l.length:=bW;refine N ?_;refine hs c3.row l 7 (λ_ (_:Unit)=>[(2,.bD 900)]) (λd _=>[(900,.bF 9 1 ((d.map iz).map b6) true)]) (λ_ _=>True) ⟨(),trivial,by kernel_rfl⟩ (λd b x r ba aw be ag a7 bt=>?_) (λb ba a7=>?_)
 .have tg:=ok x (by simp[aw]);have M:=bl x (by simp[aw]);have vu:d.length<100:=I;unfold c3.ok at tg;have c4:(x.ec.map b6).length=x.ec.length:=bW;have cl:((d.map iz).map b6).length=d.length:=by simp
  unfold c3.row at ag;refine dk ?_;refine eh (λh=>?_) (λh=>?_)
  .have au:x.ec.length≠0:=I;unfold iz at M;rw[cO au]at M;simp only[fP,lM,md]at M;refine bw ?_;refine dW (EC aa x.g x.ec [32,43,32] I I) ?_;exact bt () _ _ trivial (by rw[show((d++[x]).map iz).map b6=(d.map iz).map b6++[[.str (x.ay++([58,32]++cU [32,43,32] x.ec))]] by simp[iz,au,b6]];rfl)
  .have au:x.ec.length=0:=I;refine bw ?_;exact bt () _ _ trivial (by rw[show((d++[x]).map iz).map b6=(d.map iz).map b6++[[.str x.ay]] by simp[iz,au,b6]];rfl)
 .refine dd ?_;refine bn (Q7 aa _ (l.map iz) (by simp;omega) aB) ?_;exact⟨rfl,rfl⟩
end
def jk(e:ai):Nat:=if e.kind=4\/e.kind=5\/e.kind=6 then 0 else if e.kind=12\/e.kind=13 then 4 else if e.kind=8 then(if e.ay=[61,61]\/e.ay=[60]then 1 else if e.ay=[43]\/e.ay=[45]then 2 else 3)else 5
section
variable{C:Nat->cE}{ext:Nat->Option eS}{Q:e9}(aa:Env C ext Q)
include aa
def XI(e:ai):dz C 227 [.J (.agg e.cells)] λv=>v=.int 3 (jk e):=by
 refine aa.z 227 ff rfl rfl ?_
 (conv=>whnf)
 repeat' (first|refine bZ ?_|(refine ch (λh=>?_) (λh=>?_))|(refine cQ (λh=>?_) (λh=>?_))|fail)<;>(conv=>whnf)
 all_goals refine⟨rfl,?_⟩
 all_goals show b9.int 3 _=_
 all_goals unfold jk
 all_goals simp_all
end
def ai.bn(t:ai)(i:Nat):ai:=t.kids.getD i t
def Ba{t:ai}{i}(h:i<t.kids.length):t.bn i=t.kids[i]:=by unfold ai.bn;rw[s5,lX h];rfl
def p2{t:ai}{i}(h:i<t.kids.length):t.bn i∈t.kids:=by rw[Ba h];exact fQ h
def pr{t:ai}{i}(h:i<t.kids.length):fT (t.kids.map ai.row) i=(t.bn i).cells:=by have:=k6 ai.row (t.kids.take i) t.kids[i] (t.kids.drop (i+1));rw[<-Be h,Bj,rR,DE I]at this;rw[this,ai.dN,Ba h]
def n2(e:ai):Bool:=decide (e.kind=14)&&(match e.types with|a::_=>decide (a.l=[])&&decide (46∉a.ay)&&decide (a.ay≠[73,110,116])&&decide (a.ay≠[66,121,116,101])&&decide (a.ay≠[66,111,111,108])&&decide (a.ay≠[65,114,114,97,121])&&decide (a.ay≠[83,101,108,102])|[]=>false)
def ot(s:bj):bj:=[40]++s++[41]
def m5(e:ai)(n:Nat)(s:bj):bj:=if jk e<n then ot s else s
def ox(n s:bj):bj:=n++[32,61,32]++s
def Dg(fs bX:List bj):bj:=cU [44,32] (List.zipWith ox fs bX)
def mw(fs bX:List bj):bj:=[123]++Dg fs bX++[125]
def mg(a:dI)(s:bj):bj:=(if a.ma then [32,101,108,115,101]else if a.names.length=0 then [32]++a.case else [32]++a.case++[40]++cU [44,32] a.names++[41])++([32,45,62,32]++s++[59])
def pB(l:List dI)(bX:List bj):bj:=[123]++(List.zipWith mg l bX).flatten++[32,125]
def lI(bX:List bj):bj:=cU [44,32] bX
def zc(e:ai)(T:List bj):bj:=
 let t:=λi=>T.getD i []
 let sd:=g6 (e.types.map al.bc)
 let bL:=(e.types.map al.bc).headD []
 if e.kind=1 then mx e.num
 else if e.kind=2 then(if e.num=0 then [102,97,108,115,101]else [116,114,117,101])
 else if e.kind=3 then e.ay
 else if e.kind=4 then [108,101,116,32]++e.ay++[32,61,32]++t 0++[32,105,110,32]++t 1
 else if e.kind=5 then [105,102,32]++t 0++[32,116,104,101,110,32]++t 1++[32,101,108,115,101,32]++t 2
 else if e.kind=6 then [112,114,105,110,116,32]++t 0++[32,105,110,32]++t 1
 else if e.kind=7 then [102,97,105,108]++sd++[40]++t 0++[41]
 else if e.kind=8 then m5 (e.bn 0) (max 2 (jk e)) (t 0)++[32]++e.ay++[32]++m5 (e.bn 1) (jk e+1) (t 1)
 else if e.kind=9 then e.ay++sd++[40]++lI T++[41]
 else if e.kind=10 then [99,97,108,108,32]++e.mem++[32,111,102,32]++e.ay++[32,102,111,114,32]++bL++[40]++lI T++[41]
 else if e.kind=11 then e.ay++sd++mw e.cg T
 else if e.kind=12 then(if n2 (e.bn 0)then ot (t 0)else m5 (e.bn 0) 4 (t 0))++[46]++e.mem
 else if e.kind=13 then m5 (e.bn 0) 4 (t 0)++[32,119,105,116,104,32]++mw e.cg (T.drop 1)
 else if e.kind=14 then [99,97,115,101,32]++e.mem++(if 0<e.kids.length then [40]++lI T++[41]else [])++[32,111,102,32]++bL
 else if e.kind=15 then [109,97,116,99,104,32,40]++t 0++[41,32]++pB e.bM (T.drop 1)
 else if e.kind=16 then [97,114,114,97,121]++sd++[40]++lI T++[41]
 else if e.kind=17 then [99,111,117,110,116,40]++t 0++[41]
 else if e.kind=18 then [97,116,40]++lI T++[41]
 else if e.kind=19 then [97,112,112,101,110,100,40]++lI T++[41]
 else if e.kind=20 then [97,118,97,105,108,97,98,108,101,40]++e.ay++[44,32]++mx e.num++[41]
 else if e.kind=23 then [98,121,116,101,40]++t 0++[41]
 else [111,114,100,40]++t 0++[41]
mutual
def ai.bc:ai->bj
 |.mk bk bu b1 cP dO eb eY mN gZ pM oE l ti wD=>zc (.mk bk bu b1 cP dO eb eY mN gZ pM oE l ti wD) (ai.zw l)
def ai.zw:List ai->List bj
 |[]=>[]|a::l=>a.bc::ai.zw l
end
def ai.Kw:∀l,ai.zw l=l.map ai.bc
 |[]=>rfl
 |a::l=>by rw[ai.zw,ai.Kw l];rfl
def ai.sa(e:ai):e.bc=zc e (e.kids.map ai.bc):=by cases e;rw[ai.bc,ai.Kw];rfl
def VH{α fH nh:Type}(f:α->fH->nh):∀(d:List α)(x:α)(L:List fH)(y:fH),L[d.length]?=some y->List.zipWith f (d++[x]) L=List.zipWith f d L++[f x y]
 |[],x,L,y,h=>by cases L with|nil=>simp at h|cons a L=>simp at h;subst h;rfl
 |a::d,x,L,y,h=>by cases L with|nil=>simp at h|cons b L=>simp at h;simp[VH f d x L y h]
def WO{α fH nh:Type}(f:α->fH->nh):∀(d r:List α)(L:List fH),∃q,List.zipWith f (d++r) L=List.zipWith f d L++q
 |[],r,L=>⟨_,rfl⟩
 |a::d,r,[]=>⟨[],by simp⟩
 |a::d,r,b::L=>by have⟨q,h⟩:=WO f d r L;exact⟨q,by simp[h]⟩
section
variable{C:Nat->cE}{ext:Nat->Option eS}{Q:e9}(aa:Env C ext Q)
include aa
def ane(e:ai)(n:Nat)(aD:n<100)(aQ:dz C 166 [.J (.agg e.cells)] λv=>v=.str e.bc)(aB:e.bc.length<100000000000000000):dz C 228 [.J (.agg e.cells),.J (.int 3 n)] λv=>v=.str (m5 e n e.bc):=by
 have Y:jk e<100:=by unfold jk;(repeat' split)<;>omega
 refine aa.z 228 ff rfl rfl ?_;refine N ?_;refine bn (XI aa e) ?_;refine eh (λh=>?_) (λh=>?_)
 .refine N ?_;refine dW aQ ?_;exact⟨rfl,by rw[m5,ev h];rfl⟩
 .refine N ?_;refine bn aQ ?_;exact⟨rfl,by rw[m5,cO I]⟩
def aj5(g:Nat)(l:List ai)(Y:l.length<100)(aQ:∀x∈l,dz C 166 [.J (.agg x.cells)] λv=>v=.str x.bc)(aB:(lI (l.map ai.bc)).length<100000000000000000):dz C 229 [.J (.aH g (l.map ai.row))] λv=>v=.str (lI (l.map ai.bc)):=by
 refine aa.z 229 (gK [(0,[3,7,8,9],[⟨false,2,0,900,9,1⟩],[900])]) rfl rfl ?_;have hm:(l.map ai.row).length=l.length:=bW;refine N ?_;refine hs ai.row l 6 (λ_ (_:Unit)=>[(2,.bD 900)]) (λd _=>[(900,.bF 9 1 ((d.map ai.bc).map b6) true)]) (λ_ _=>True) ⟨(),trivial,by kernel_rfl⟩ (λd b x r ba aw be ag a7 bt=>?_) (λb ba a7=>?_)
 .have M:=aQ x (by simp[aw]);have vu:d.length<100:=I;have cl:((d.map ai.bc).map b6).length=d.length:=by simp
  rw[ai.dN]at ag;refine dk ?_;refine dW M ?_;exact bt () _ _ trivial (by rw[show((d++[x]).map ai.bc).map b6=(d.map ai.bc).map b6++[[.str x.bc]] by simp[b6]];rfl)
 .refine dd ?_;refine bn (EC aa _ (l.map ai.bc) [44,32] (by simp;omega) aB) ?_;exact⟨rfl,rfl⟩
end
def agp{α fH nh:Type}(f:α->fH->nh)(d:List α)(L:List fH)(h:d.length<=L.length):(List.zipWith f d L).length=d.length:=by rw[List.length_zipWith];omega
section
variable{C:Nat->cE}{ext:Nat->Option eS}{Q:e9}(aa:Env C ext Q)
include aa
def ac4(g lx:Nat)(fs:List bj)(l:List ai)(aD:fs.length<100)(Y:fs.length<=l.length)(jw:l.length<100)(hm:∀s∈fs,s.length<1000)(aQ:∀x∈l,dz C 166 [.J (.agg x.cells)] λv=>v=.str x.bc)(aB:(mw fs (l.map ai.bc)).length<100000000000000000)(M0:∀x∈l,x.bc.length<100000000000000000):dz C 230 [.J (.aH g (fs.map b6)),.J (.aH lx (l.map ai.row))] λv=>v=.str (mw fs (l.map ai.bc)):=by
 refine aa.z 230 (gK [(0,[4,5,9,10,11],[⟨false,3,0,900,9,1⟩],[900])]) rfl rfl ?_;have D:(fs.map b6).length=fs.length:=bW;have F:(l.map ai.row).length=l.length:=bW;have aq:(l.map ai.bc).length=l.length:=bW;refine N ?_;refine hs b6 fs 8 (λ_ (_:Unit)=>[(3,.bD 900)]) (λd _=>[(900,.bF 9 1 ((List.zipWith ox d (l.map ai.bc)).map b6) true)]) (λ_ _=>True) ⟨(),trivial,by kernel_rfl⟩ (λd b x r ba aw be ag a7 bt=>?_) (λb ba a7=>?_)
 .have vu:d.length<fs.length:=I;have zC:d.length<l.length:=I;have jR:fT (l.map ai.row) d.length=(l[d.length]).cells:=by have:=k6 ai.row (l.take d.length) l[d.length] (l.drop (d.length+1));rw[<-Be zC,Bj,rR,DE I]at this;rw[this,ai.dN]
  have M:=aQ _ (fQ zC);have M0:=M0 _ (fQ zC);have ati:=hm x (by simp[aw]);have cl:((List.zipWith ox d (l.map ai.bc)).map b6).length=d.length:=by simp;omega
  have cA:=VH ox d x (l.map ai.bc) (l[d.length]).bc (by rw[yR,lX zC];rfl);generalize l[d.length]=y at*;unfold b6 at ag;refine dk ?_;refine bw ?_;refine dU.mk _ jR ?_;refine bw ?_;refine dW M ?_;exact bt () _ _ trivial (by rw[cA,jj];rfl)
 .unfold mw at aB ⊢;simp only[fP,lM,md]at aB;refine dd ?_;have dv:∀g,dz C 164 [.J (.aH g ((List.zipWith ox fs (l.map ai.bc)).map b6)),.J (.str [44,32])] λv=>v=.str (Dg fs (l.map ai.bc)):=λg=>EC aa g (List.zipWith ox fs (l.map ai.bc)) [44,32] (by rw[agp _ _ _ I];omega) (by show(Dg fs (l.map ai.bc)).length<_;omega);refine dW (dv _) ?_;exact⟨rfl,rfl⟩
def af1(e:ai)(aw:e.kind=14->∃a,e.types=[a]/\a.b0):dz C 231 [.J (.agg e.cells)] λv=>v=.bool (n2 e):=by
 refine aa.z 231 (ja [(0,[6,7],[1])]) rfl rfl ?_;refine N ?_;refine eQ ?_;refine ch (λh=>?_) (λh=>?_)
 .have⟨a,D,F⟩:=aw h;have ag:fT (e.types.map al.row) 0=a.cells:=by rw[D];exact al.dN a
  have ii:(e.types.map al.row).length=1:=by rw[D];rfl
  have Y:(a.l.map al.row).length=a.l.length:=bW;have lR:=F.len;refine bw ?_;refine dU.mk _ ag ?_;refine bw ?_;refine eh (λaq=>?_) (λaq=>?_)
  .refine N ?_;refine⟨rfl,?_⟩;unfold n2;rw[D];simp only[r7 h,Hg];rw[pU (λaL=>by rw[aL]at aq;simp at aq)];rfl
  have aL:a.l=[]:=List.eq_nil_of_length_eq_zero I;have aV:n2 e=(decide (46∉a.ay)&&decide (a.ay≠[73,110,116])&&decide (a.ay≠[66,121,116,101])&&decide (a.ay≠[66,111,111,108])&&decide (a.ay≠[65,114,114,97,121])&&decide (a.ay≠[83,101,108,102])):=by unfold n2;rw[D];simp only[r7 h,Hg];rw[r7 aL];rfl
  rw[aV];have aD:=((al.mS a).1 F.1).1;refine bw ?_;refine dU.mk _ ag ?_;refine bw ?_;refine Hu a.ay.length 4 (λ_=>[]) (λi=>46∉a.ay.take i) ⟨by simp,rfl,rfl⟩ (λi ba aN a7 bt=>?_) (λba a7=>?_)
  ·(conv=>whnf)
   repeat(first|refine .yes (dg.2 aN) ?_|refine⟨aN,⟨_,lX aN,?_⟩⟩|refine bZ ?_);(conv=>whnf)
   refine Te (λaw=>?_) (λaw=>?_)
   .have aB:a.ay[i]=46:=PI.1 aw;have hm:46∈a.ay:=aB▸fQ aN;refine N ?_;exact⟨rfl,by rw[pU (λh=>h hm)];rfl⟩
   .refine N ?_;refine bt _ _ ?_ rfl rfl;rw[Rr aN];exact Ue a7 λe=>aw (by rw[e];rfl)
  ·(conv=>whnf)
   repeat(first|refine .no (pe _) ?_|refine bZ ?_);(conv=>whnf)
   rw[LF]at a7;rw[r7 a7];repeat' (first|refine bZ ?_|refine eQ ?_|(refine cQ (λh=>?_) (λh=>?_))|fail)<;>(conv=>whnf)
   all_goals refine⟨rfl,?_⟩
   all_goals show b9.bool _=_
   all_goals simp_all[S6]
 .refine N ?_;refine⟨rfl,?_⟩;unfold n2;rw[pU h];rfl
end
def ahn{a:dI}{s:bj}(h:a.ma=true):mg a s=[32,101,108,115,101]++([32,45,62,32]++s++[59]):=by unfold mg;rw[h];rfl
def K8{a:dI}{s:bj}(h:a.ma=false)(F:a.names.length=0):mg a s=([32]++a.case)++([32,45,62,32]++s++[59]):=by unfold mg;rw[h,ev F];rfl
def HD{a:dI}{s:bj}(h:a.ma=false)(F:a.names.length≠0):mg a s=([32]++a.case++[40]++cU [44,32] a.names++[41])++([32,45,62,32]++s++[59]):=by unfold mg;rw[h,cO F];rfl
section
variable{C:Nat->cE}{ext:Nat->Option eS}{Q:e9}(aa:Env C ext Q)
include aa
def ahR(e:ai)(aV:e.b0)(Y:e.bM.length+1=e.kids.length)(aQ:∀x∈e.kids,dz C 166 [.J (.agg x.cells)] λv=>v=.str x.bc)(aB:(pB e.bM ((e.kids.map ai.bc).drop 1)).length<100000000000000000):dz C 232 [.J (.agg e.cells)] λv=>v=.str (pB e.bM ((e.kids.map ai.bc).drop 1)):=by
 refine aa.z 232 (ja [(0,[4,5,9,10,11],[1])]) rfl rfl ?_;have D:(e.bM.map dI.row).length=e.bM.length:=bW;have F:(e.kids.map ai.row).length=e.kids.length:=bW;have⟨_,_,_,_,_,_,oc,rM,adP,_⟩:=aV.one;refine N ?_;have br:e.kids.length<100:=adP;refine fu dI.row e.bM 8 (λd=>[(3,.J (.str ([123]++(List.zipWith mg d ((e.kids.map ai.bc).drop 1)).flatten)))]) (λd=>True) ⟨trivial,rfl,rfl⟩ (λd x r ba aw be ag a7 bt=>?_) (λba a7=>?_)
 .have vu:d.length<e.bM.length:=I;have zC:d.length+1<e.kids.length:=I;have M:=aQ _ (p2 zC);have jR:=pr zC;have akm:=rM x (by simp[aw]);have⟨fc,gv,n5⟩:=akm;have cA:=VH mg d x ((e.kids.map ai.bc).drop 1) (e.bn (d.length+1)).bc (by rw[Nc,yR,El 1,lX zC,Ba zC];rfl);have⟨q,a0⟩:=WO mg (d++[x]) r ((e.kids.map ai.bc).drop 1);have kR:=aB;unfold pB at kR;rw[show e.bM=(d++[x])++r by rw[aw];simp,a0,cA]at kR;simp only[List.flatten_append,NQ,List.flatten_nil,fP,lM,md,kE]at kR;have c4:(x.names.map b6).length=x.names.length:=bW;generalize eZ:(List.zipWith mg d ((e.kids.map ai.bc).drop 1)).flatten=bB at*;unfold dI.row at ag;refine dk ?_;have BB:∀s,s++([32,45,62,32]++(e.bn (d.length+1)).bc++[59])=mg x (e.bn (d.length+1)).bc->[123]++(List.zipWith mg (d++[x]) ((e.kids.map ai.bc).drop 1)).flatten=([123]++bB++s)++([32,45,62,32]++(e.bn (d.length+1)).bc++[59]):=λs ap=>by rw[cA,List.flatten_append,eZ,<-ap];simp
  clear cA a0 eZ;refine eO (λaL=>?_) (λaL=>?_)
  .have aP:=ahn (s:=(e.bn (d.length+1)).bc) aL;rw[aP]at kR;simp only[fP,lM,md]at kR;refine bw ?_;refine dU.mk _ jR ?_;refine bw ?_;refine dW M ?_;exact bt _ _ trivial (by rw[BB _ aP.symm];rfl) rfl
  refine N ?_;refine ch (λbO=>?_) (λbO=>?_)
  .have aP:=K8 (s:=(e.bn (d.length+1)).bc) aL I;rw[aP]at kR;simp only[fP,lM,md]at kR;refine bw ?_;refine dU.mk _ jR ?_;refine bw ?_;refine dW M ?_;exact bt _ _ trivial (by rw[BB _ aP.symm];rfl) rfl
  .have aP:=HD (s:=(e.bn (d.length+1)).bc) aL I;rw[aP]at kR;simp only[fP,lM,md]at kR;refine bw ?_;refine dW (EC aa x.g x.names [44,32] I I) ?_;refine dU.mk _ jR ?_;refine bw ?_;refine dW M ?_;exact bt _ _ trivial (by rw[BB _ aP.symm];simp only[k9];rfl) rfl
 .unfold pB at aB ⊢;simp only[fP,lM,md]at aB;generalize eZ:(List.zipWith mg e.bM ((e.kids.map ai.bc).drop 1)).flatten=bB at*;refine dd ?_;refine bw ?_;exact⟨rfl,rfl⟩
end
def bD(T:List bj):Nat:=(T.map List.length).sum
def Az(a:bj)(T:List bj):bD (a::T)=a.length+bD T:=by simp[bD]
theorem Ak(gS:bj):∀T:List bj,(cU gS T).length<=bD T+gS.length*T.length
 |[]=>by simp[cU,bD]
 |[a]=>by simp[cU,bD]
 |a::b::T=>by have:=Ak gS (b::T);rw[PJ,Az];simp only[List.length_append,List.length_cons,Nat.mul_add]at this ⊢;omega
theorem Cs(T:List bj):(g6 T).length<=2+bD T+2*T.length:=by
 cases T with
 |nil=>simp[g6]|cons a T=>have:=Ak [44,32] (a::T);show(91::(cU [44,32] (a::T)++[93])).length<=_;simp only[List.length_append,List.length_cons,List.length_nil]at this ⊢;omega
def ase(T:List bj):(lI T).length<=bD T+2*T.length:=Ak [44,32] T
theorem afA(fs:List bj):∀T:List bj,bD (List.zipWith ox fs T)+2*(List.zipWith ox fs T).length<=bD fs+5*fs.length+bD T:=by
 induction fs with
 |nil=>intro T;simp[bD]
 |cons n fs bQ=>
  intro T;cases T with
  |nil=>simp[bD]|cons a T=>have:=bQ T;rw[List.zipWith_cons_cons,Az,Az,Az];simp only[ox,List.length_append,List.length_cons,List.length_nil]at this ⊢;omega
theorem Xr(fs T:List bj):(mw fs T).length<=2+bD fs+5*fs.length+bD T:=by have D:=Ak [44,32] (List.zipWith ox fs T);have F:=afA fs T;unfold mw Dg;simp only[List.length_append,List.length_cons,List.length_nil]at D ⊢;omega
def x8(a:dI):Nat:=20+a.case.length+bD a.names+2*a.names.length
theorem amj(a:dI)(s:bj):(mg a s).length<=x8 a+s.length:=by
 have D:=Ak [44,32] a.names;unfold mg x8;simp only[List.length_append,List.length_cons,List.length_nil]at D ⊢;split
 .simp only[List.length_append,List.length_cons,List.length_nil];omega
 .split<;>simp only[List.length_append,List.length_cons,List.length_nil]<;>omega
def ao5(l:List dI):∀T:List bj,(List.zipWith mg l T).flatten.length<=(l.map x8).sum+bD T:=by
 induction l with
 |nil=>intro T;simp
 |cons a l bQ=>
  intro T;cases T with
  |nil=>simp|cons b T=>have:=bQ T;have:=amj a b;rw[List.zipWith_cons_cons,Az,NQ,fP,gg,List.sum_cons];omega
theorem aj0(l:List dI)(T:List bj):(pB l T).length<=3+(l.map x8).sum+bD T:=by have:=ao5 l T;unfold pB;simp only[List.length_append,List.length_cons,List.length_nil];omega
def akB(T:List bj):(T.getD 0 []).length<=bD T:=by cases T<;>simp[bD]
def agQ(T:List bj):(T.getD 0 []).length+bD (T.drop 1)<=bD T:=by cases T<;>simp[bD]
def akc(T:List bj):(T.getD 0 []).length+(T.getD 1 []).length<=bD T:=by rcases T with _|⟨a,_|⟨b,T⟩⟩<;>simp[bD]
def aiv(T:List bj):(T.getD 0 []).length+(T.getD 1 []).length+(T.getD 2 []).length<=bD T:=by rcases T with _|⟨a,_|⟨b,_|⟨c,T⟩⟩⟩<;>simp[bD]<;>omega
def apf(T:List bj):(T.headD []).length<=bD T:=by cases T<;>simp[bD]
def MT(s:bj):(ot s).length=s.length+2:=by simp[ot]
def QJ(e:ai)(n:Nat)(s:bj):(m5 e n s).length<=s.length+2:=by
 unfold m5;split
 .rw[MT];omega
 .omega
def ai.own(e:ai):Nat:=100+e.ay.length+e.mem.length+(bD (e.types.map al.bc)+2*e.types.length)+(bD e.cg+5*e.cg.length)+(e.bM.map x8).sum
def ake{c:Prop}[Decidable c]{a b:bj}{n:Nat}(D:a.length<=n)(F:b.length<=n):(if c then a else b).length<=n:=by split<;>assumption
theorem af6(e:ai)(T:List bj)(aD:e.num<18446744073709551616):(zc e T).length<=e.own+bD T+2*T.length:=by
 have D:=akB T;have F:=akc T;have aq:=aiv T;have aL:=agQ T;have bO:=ase T;have cr:=Xr e.cg T;have fK:=Xr e.cg (T.drop 1);have hI:=aj0 e.bM (T.drop 1);have lK:=Cs (e.types.map al.bc);have s4:=apf (e.types.map al.bc);have pp:=LU aD;have dS:=QJ (e.bn 0) (max 2 (jk e)) (T.getD 0 []);have bk:=QJ (e.bn 1) (jk e+1) (T.getD 1 []);have bu:=QJ (e.bn 0) 4 (T.getD 0 []);have b1:=MT (T.getD 0 []);rw[List.length_map]at lK;unfold zc ai.own;dsimp only;generalize T.getD 0 []=t0 at*;generalize T.getD 1 []=t1 at*;generalize T.getD 2 []=j5 at*;generalize lI T=kx at*;generalize mw e.cg T=n1 at*;generalize mw e.cg (T.drop 1)=Sq at*;generalize pB e.bM (T.drop 1)=Wa at*;generalize g6 (e.types.map al.bc)=NM at*;generalize(e.types.map al.bc).headD []=aie at*;generalize bD (e.types.map al.bc)=gV at*;generalize bD e.cg=gA at*;generalize(e.bM.map x8).sum=yj at*;generalize bD (T.drop 1)=Rf at*;generalize bD T=alN at*;generalize mx e.num=amx at*;repeat' refine ake ?_ ?_
 all_goals try simp only[List.length_append,List.length_cons,List.length_nil]
 all_goals try(split<;>(try simp only[List.length_append,List.length_cons,List.length_nil]))
 all_goals omega
mutual
def ai.pq:ai->Nat
 |.mk bk bu b1 cP dO eb eY mN gZ pM oE l ti wD=>(ai.mk bk bu b1 cP dO eb eY mN gZ pM oE l ti wD).own+ai.uL l
def ai.uL:List ai->Nat
 |[]=>0|a::l=>a.pq+2+ai.uL l
end
def ai.VE(e:ai):e.pq=e.own+ai.uL e.kids:=by cases e;rw[ai.pq];rfl
def ai.VX:∀{l:List ai}{x},x∈l->x.pq<=ai.uL l
 |a::l,x,h=>by
  rcases hS.1 h with rfl|h
  .simp [ai.uL];omega
  .have:=ai.VX h;simp[ai.uL];omega
theorem ai.FB:∀e:ai,e.b0->e.bc.length<=e.pq:=ai.ind λe bQ aV=>by
 rw[ai.sa,ai.VE];have D:=af6 e (e.kids.map ai.bc) aV.one.2.2.2.2.2.2.2.2.2.2;have F:∀l:List ai,(∀x∈l,x.bc.length<=x.pq)->bD (l.map ai.bc)+2*l.length<=ai.uL l:=by
  intro l;induction l with
  |nil=>intro _;simp[bD,ai.uL]
  |cons a l Cq=>intro h;have D:=h a (by simp);have F:=Cq λx M=>h x (by simp[M]);rw[List.map_cons,Az,ai.uL,List.length_cons];omega
 have aq:=F e.kids λx M=>bQ x M (aV.l0 M);rw[List.length_map]at D;omega
def EE{t:ai}{i}(h:i<t.kids.length):(t.kids.map ai.bc).getD i []=(t.bn i).bc:=by rw[Ba h,s5,yR,lX h];rfl
def Wo{s:bj}{T:List bj}(h:s∈T):s.length<=bD T:=by
 induction T with
 |nil=>cases h
 |cons a T bQ=>
  rw[Az];rcases hS.1 h with rfl|h
  .omega
  .have:=bQ h;omega
def TJ{t:ai}{k:Nat}(h:t.kind=k):t.cells=[.int 3 k,.str t.ay,.str t.mem,.int 3 t.num,.aH t.aj (t.types.map al.row),.aH t.an (t.cg.map b6),.aH t.aM (t.bM.map dI.row),.aH t.bs (t.kids.map ai.row),.str t.bL.ay,.aH t.bL.g (t.bL.l.map al.row),.int 3 t.pos]:=by subst h;rfl
structure ag5(C:Nat->cE)(t:ai):Prop where
 ok:t.b0
 FG:oe t
 pq:t.pq<100000000000000000
 atd:∀x∈t.kids,x.b0/\oe x
 l0:∀x∈t.kids,x.pq<100000000000000000->dz C 166 [.J (.agg x.cells)] λv=>v=.str x.bc
variable{C:Nat->cE}{E:bK}{P:dK}{es:aO}{h:kH}{i aT:Nat}{ce:bK->bf->Prop}{bJ:yy->bK->bf->Prop}{jc:Nat->Option qq}{A:bf}
def ad0{c q a b}(M:∀k:a2->Prop,hH es [] [] E c k=k (.J (.bool q)))(H:lY q (lG C h jc P es aT a 0 E A ce bJ) (lG C h jc P es aT b 0 E A ce bJ)):lG C h jc P es aT (.cond c a b) i E A ce bJ:=by unfold lG;rw[M];exact H
def anw(H:ce E A):lG C h jc P es aT .skip i E A ce bJ:=H
theorem nC{t:ai}{bB:bj}(w:t.bc=bB:=by rw[ai.sa];unfold zc;dsimp only;rw[ar];simp only[Nat.reduceEqDiff,sY,Dh];try rw[EE (i:=0) I];try rw[EE (i:=1) I];try rw[EE (i:=2) I]):t.bc=bB:=w
section
variable{t:ai}
theorem Ip(ar:t.kind=1):t.bc=mx t.num:=nC
theorem Rw(ar:t.kind=2):t.bc=(if t.num=0 then [102,97,108,115,101]else [116,114,117,101]):=nC
theorem Lt(ar:t.kind=3):t.bc=t.ay:=nC
theorem GA(ar:t.kind=4)(Y:1<t.kids.length):t.bc=[108,101,116,32]++t.ay++[32,61,32]++(t.bn 0).bc++[32,105,110,32]++(t.bn 1).bc:=nC
theorem Ic(ar:t.kind=5)(Y:2<t.kids.length):t.bc=[105,102,32]++(t.bn 0).bc++[32,116,104,101,110,32]++(t.bn 1).bc++[32,101,108,115,101,32]++(t.bn 2).bc:=nC
theorem OE(ar:t.kind=6)(Y:1<t.kids.length):t.bc=[112,114,105,110,116,32]++(t.bn 0).bc++[32,105,110,32]++(t.bn 1).bc:=nC
theorem Hv(ar:t.kind=7)(Y:0<t.kids.length):t.bc=[102,97,105,108]++g6 (t.types.map al.bc)++[40]++(t.bn 0).bc++[41]:=nC
theorem GQ(ar:t.kind=8)(Y:1<t.kids.length):t.bc=m5 (t.bn 0) (max 2 (jk t)) (t.bn 0).bc++[32]++t.ay++[32]++m5 (t.bn 1) (jk t+1) (t.bn 1).bc:=nC
theorem vF(ar:t.kind=9):t.bc=t.ay++g6 (t.types.map al.bc)++[40]++lI (t.kids.map ai.bc)++[41]:=nC
theorem uY(ar:t.kind=10):t.bc=[99,97,108,108,32]++t.mem++[32,111,102,32]++t.ay++[32,102,111,114,32]++(t.types.map al.bc).headD []++[40]++lI (t.kids.map ai.bc)++[41]:=nC
theorem sW(ar:t.kind=11):t.bc=t.ay++g6 (t.types.map al.bc)++mw t.cg (t.kids.map ai.bc):=nC
theorem JN(ar:t.kind=12)(Y:0<t.kids.length):t.bc=(if n2 (t.bn 0)then ot (t.bn 0).bc else m5 (t.bn 0) 4 (t.bn 0).bc)++[46]++t.mem:=nC
theorem D6(ar:t.kind=13)(Y:0<t.kids.length):t.bc=m5 (t.bn 0) 4 (t.bn 0).bc++[32,119,105,116,104,32]++mw t.cg ((t.kids.map ai.bc).drop 1):=nC
theorem ys(ar:t.kind=14):t.bc=[99,97,115,101,32]++t.mem++(if 0<t.kids.length then [40]++lI (t.kids.map ai.bc)++[41]else [])++[32,111,102,32]++(t.types.map al.bc).headD []:=nC
theorem Ao(ar:t.kind=15)(Y:0<t.kids.length):t.bc=[109,97,116,99,104,32,40]++(t.bn 0).bc++[41,32]++pB t.bM ((t.kids.map ai.bc).drop 1):=nC
theorem DI(ar:t.kind=16):t.bc=[97,114,114,97,121]++g6 (t.types.map al.bc)++[40]++lI (t.kids.map ai.bc)++[41]:=nC
theorem V6(ar:t.kind=17)(Y:0<t.kids.length):t.bc=[99,111,117,110,116,40]++(t.bn 0).bc++[41]:=nC
theorem TK(ar:t.kind=18):t.bc=[97,116,40]++lI (t.kids.map ai.bc)++[41]:=nC
theorem Tt(ar:t.kind=19):t.bc=[97,112,112,101,110,100,40]++lI (t.kids.map ai.bc)++[41]:=nC
theorem Mr(ar:t.kind=20):t.bc=[97,118,97,105,108,97,98,108,101,40]++t.ay++[44,32]++mx t.num++[41]:=nC
theorem Lp(ar:t.kind=23)(Y:0<t.kids.length):t.bc=[98,121,116,101,40]++(t.bn 0).bc++[41]:=nC
theorem TD(ar:t.kind=24)(Y:0<t.kids.length):t.bc=[111,114,100,40]++(t.bn 0).bc++[41]:=nC
end
section
variable{C:Nat->cE}{ext:Nat->Option eS}{Q:e9}{t:ai}(aa:Env C ext Q)
include aa
def ap3(H:ag5 C t):dz C 166 [.J (.agg t.cells)] λv=>v=.str t.bc:=by
 have⟨aV,FG,cw,M,aQ⟩:=H;have aB:=ai.FB t aV;have⟨p,bq,c4,cl,FG⟩:=FG;have⟨_,_,fW,gi,iW,gE,oc,rM,adP,_,aoX⟩:=aV.one;have tm:(t.kids.map ai.row).length=t.kids.length:=bW;have er:(t.types.map al.row).length=t.types.length:=bW;have bY:=ai.VE t;have kV:∀x∈t.kids,dz C 166 [.J (.agg x.cells)] λv=>v=.str x.bc:=λx M=>aQ x M (by have:=ai.VX M;omega);have hK:∀x∈t.kids,x.bc.length<=x.pq/\x.pq<=t.pq:=λx h=>⟨ai.FB x (M x h).1,by have:=ai.VX h;omega⟩;have bL:∀a∈t.types,dz C 83 [.J (.agg a.cells)] λv=>v=.str a.bc:=λa h=>wV aa a (gi a h) (by have:=Wo (List.mem_map_of_mem (f:=al.bc) h);unfold ai.own at bY;omega);have sd:=λh=>WJ aa t.aj t.types I bL h;have aH:=λh=>aj5 aa t.bs t.kids I kV h;have dv:=N5 aa t.num aoX;have G2:=λi (h:i<t.kids.length) n aD=>ane aa (t.bn i) n aD (kV _ (p2 h)) (by have:=hK _ (p2 h);omega);rw[ai.sa]at aB ⊢;unfold zc at aB ⊢;dsimp only at aB ⊢;rcases kinds t.kind with ar|ar|ar|ar|ar|ar|ar|ar|ar|ar|ar|ar|ar|ar|ar|ar|ar|ar|ar|ar|ar|ar|ar
 rw[ar]at bq;cases bq;all_goals
  rw[ar]at bq aB ⊢
  (conv at bq=>lhs;whnf)
  cases bq
  simp only[Nat.reduceEqDiff,sY,Dh]at aB ⊢
  dsimp only at c4 cl
  try replace c4:=c4.resolve_left af
  try replace cl:=cl.resolve_left af
 all_goals
  try rw[EE (i:=0) I]at aB ⊢
  try rw[EE (i:=1) I]at aB ⊢
  try rw[EE (i:=2) I]at aB ⊢
  try simp only[fP,lM,md]at aB
  rw[TJ ar]
  refine aa.z 166 ff rfl rfl ?_
 .refine N ?_;refine bn dv ?_;exact⟨rfl,rfl⟩
 .refine N ?_;refine ch (λh=>?_) (λh=>?_)
  .refine N ?_;exact⟨rfl,by rw[ev h]⟩
  .refine N ?_;exact⟨rfl,by rw[cO h]⟩
 .refine N ?_;exact⟨rfl,rfl⟩
 .refine bw ?_;refine dU.mk _ (pr I) ?_;refine bw ?_;refine dU.mk _ (pr I) ?_;refine bw ?_;refine dW (kV _ (p2 I)) ?_;refine dW (kV _ (p2 I)) ?_;exact⟨rfl,rfl⟩
 .refine bw ?_;refine dU.mk _ (pr I) ?_;refine bw ?_;refine dU.mk _ (pr I) ?_;refine bw ?_;refine dU.mk _ (pr I) ?_;refine bw ?_;refine dW (kV _ (p2 I)) ?_;refine dW (kV _ (p2 I)) ?_;refine dW (kV _ (p2 I)) ?_;exact⟨rfl,rfl⟩
 .refine bw ?_;refine dU.mk _ (pr I) ?_;refine bw ?_;refine dU.mk _ (pr I) ?_;refine bw ?_;refine dW (kV _ (p2 I)) ?_;refine dW (kV _ (p2 I)) ?_;exact⟨rfl,rfl⟩
 .refine bw ?_;refine dU.mk _ (pr I) ?_;refine bw ?_;refine dW (sd I) ?_;refine dW (kV _ (p2 I)) ?_;exact⟨rfl,rfl⟩
 .have GN:jk t=1\/jk t=2\/jk t=3:=by
   unfold jk;rw[ar];simp only[Nat.reduceEqDiff,or_self,sY,Dh]
   (repeat' split)<;>simp
  have dS:=G2 0 I (max 2 (jk t)) I;have bk:=G2 1 I (jk t+1) I;have Gr:=XI aa t;rw[TJ ar]at Gr;generalize jk t=n at*;refine bw ?_;refine bn Gr ?_;refine ch (λh=>?_) (λh=>?_)
  .subst h;refine bw ?_;refine dU.mk _ (pr I) ?_;refine bw ?_;refine dU.mk _ (pr I) ?_;refine bw ?_;refine dW dS ?_;refine dW bk ?_;exact⟨rfl,rfl⟩
  .have e:max 2 n=n:=I;rw[e]at dS aB ⊢;refine bw ?_;refine dU.mk _ (pr I) ?_;refine bw ?_;refine dU.mk _ (pr I) ?_;refine bw ?_;refine dW dS ?_;refine dW bk ?_;exact⟨rfl,rfl⟩
 .refine bw ?_;refine dW (sd I) ?_;refine dW (aH I) ?_;exact⟨rfl,rfl⟩
 .have⟨a,aC⟩:=List.length_eq_one_iff.1 cl;have ag:fT (t.types.map al.row) 0=a.cells:=by rw[aC];exact al.dN a
  have bo:(t.types.map al.bc).headD []=a.bc:=by rw[aC];rfl
  rw[bo]at aB ⊢;have bL:=bL a (by rw[aC];simp);refine bw ?_;refine dU.mk _ ag ?_;refine bw ?_;refine dW bL ?_;refine dW (aH I) ?_;exact⟨rfl,rfl⟩
 .have⟨_,_,_,_,_,_,_,_,_,_,_,_,Pd,Pc,K0,afj⟩:=FG;have Pd:=Pd ar;have rN:=λh=>ac4 aa t.an t.bs t.cg t.kids I I I gE kV h (λx h=>by have:=hK x h;omega);refine bw ?_;refine dW (sd I) ?_;refine dW (rN I) ?_;exact⟨rfl,rfl⟩
 .have op:=af1 aa (t.bn 0) (λqD=>by
   have⟨fc,p,bq,_,cl,_⟩:=M _ (p2 (t:=t) (i:=0) I);rw[qD]at bq
   (conv at bq=>lhs;whnf)
   cases bq;have⟨a,aC⟩:=List.length_eq_one_iff.1 (cl.resolve_left af);exact⟨a,aC,fc.one.2.2.2.1 a (by rw[aC];simp)⟩)
  have dS:=G2 0 I 4 I;have e5:=kV _ (p2 (t:=t) (i:=0) I);have fC:=pr (t:=t) (i:=0) I;have pl:=MT (t.bn 0).bc;clear G2 hK M;generalize t.bn 0=b at*;refine bw ?_;refine dU.mk _ fC ?_;refine bw ?_;refine bn op ?_;refine eO (λh=>?_) (λh=>?_)
  .rw[h]at aB ⊢;simp only[Dh]at aB ⊢;refine bw ?_;refine dU.mk _ fC ?_;refine bw ?_;refine dW e5 ?_;refine⟨rfl,?_⟩;simp[ot]
  .rw[h]at aB ⊢;simp only[Dy,sY]at aB ⊢;refine bw ?_;refine dU.mk _ fC ?_;refine bw ?_;refine dW dS ?_;exact⟨rfl,rfl⟩
 .have⟨_,_,_,_,_,_,_,_,_,_,_,_,Pd,Pc,K0,afj⟩:=FG;have Pc:=Pc ar;have dS:=G2 0 I 4 I;have fC:=pr (t:=t) (i:=0) I;have aY:(t.kids.drop 1).length=t.kids.length - 1:=qK ..;have rN:=λg=>ac4 aa t.an g t.cg (t.kids.drop 1) I I I gE (λx M=>kV x (Ay M)) (by rw[List.map_drop];omega) (λx h=>by have:=hK x (Ay h);omega);rw[List.map_drop,List.map_drop]at rN;clear G2 hK M;generalize t.bn 0=b at*;refine bw ?_;refine dU.mk _ fC ?_;refine bw ?_;refine dU.mk _ fC ?_;refine bw ?_;refine mK.some I I ?_;refine bw ?_;refine dW dS ?_;rw[show List.take ((t.kids.map ai.row).length - 1) (List.drop 1 (t.kids.map ai.row))=List.drop 1 (t.kids.map ai.row)from Dx (by rw[qK];omega)];refine dW (rN _) ?_;exact⟨rfl,rfl⟩
 .have⟨a,aC⟩:=List.length_eq_one_iff.1 cl;have ag:fT (t.types.map al.row) 0=a.cells:=by rw[aC];exact al.dN a
  have bo:(t.types.map al.bc).headD []=a.bc:=by rw[aC];rfl
  rw[bo]at aB ⊢;have bL:=bL a (by rw[aC];simp);by_cases br:0<t.kids.length
  .simp only[br,Dh,fP,lM,md]at aB ⊢
   (conv=>whnf)
   repeat((first|refine .yes af ?_|refine .no af ?_|refine .mk y5 ?_|refine GS.plain ?_);(conv=>whnf))
   refine .nice I ?_;show k4 _ _ _ _ _ _ _ _ _ _ _ _;refine Vj ?_;show lG _ _ _ _ _ _ _ _ _ _ _ _;refine ad0 (λk=>rfl) ?_;refine eh (λh=>?_) (λh=>absurd h I);refine bw ?_;refine dW (aH I) ?_;refine dU.mk _ ag ?_;refine bw ?_;refine dW bL ?_;refine⟨rfl,?_⟩;simp
  .simp only[br,sY,fP,lM,md]at aB ⊢
   (conv=>whnf)
   repeat((first|refine .yes af ?_|refine .no af ?_|refine .mk y5 ?_|refine GS.plain ?_);(conv=>whnf))
   refine .nice I ?_;show k4 _ _ _ _ _ _ _ _ _ _ _ _;refine Vj ?_;show lG _ _ _ _ _ _ _ _ _ _ _ _;refine ad0 (λk=>rfl) ?_;refine eh (λh=>absurd h I) (λh=>?_);refine anw ?_;refine bw ?_;refine dU.mk _ ag ?_;refine bw ?_;refine dW bL ?_;refine⟨rfl,?_⟩;simp
 .have⟨_,_,_,_,_,_,_,_,_,_,_,_,Pd,Pc,K0,afj⟩:=FG;have K0:=(K0 ar).1;have jO:=ahR aa t aV K0 kV I;rw[TJ ar]at jO;refine bw ?_;refine dU.mk _ (pr I) ?_;refine bw ?_;refine dW (kV _ (p2 I)) ?_;refine dW jO ?_;exact⟨rfl,rfl⟩
 .refine bw ?_;refine dW (sd I) ?_;refine dW (aH I) ?_;exact⟨rfl,rfl⟩
 .refine bw ?_;refine dU.mk _ (pr I) ?_;refine bw ?_;refine dW (kV _ (p2 I)) ?_;exact⟨rfl,rfl⟩
 .refine bw ?_;refine dW (aH I) ?_;exact⟨rfl,rfl⟩
 .refine bw ?_;refine dW (aH I) ?_;exact⟨rfl,rfl⟩
 .refine bw ?_;refine dW dv ?_;exact⟨rfl,rfl⟩
 .refine bw ?_;refine dU.mk _ (pr I) ?_;refine bw ?_;refine dW (kV _ (p2 I)) ?_;exact⟨rfl,rfl⟩
 .refine bw ?_;refine dU.mk _ (pr I) ?_;refine bw ?_;refine dW (kV _ (p2 I)) ?_;exact⟨rfl,rfl⟩
def Y7:∀e:ai,e.b0->e.oC->e.pq<100000000000000000->dz C 166 [.J (.agg e.cells)] λv=>v=.str e.bc:=ai.ind λe bQ aV cw au=>by have cw:=(ai.xh e).1 cw;exact ap3 aa ⟨aV,cw.1,au,λx M=>⟨aV.l0 M,((ai.xh x).1 (cw.2 x M)).1⟩,λx M h=>bQ x M (aV.l0 M) (cw.2 x M) h⟩
end
end Go.Tx
