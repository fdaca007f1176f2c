/- A part. -/
import Derived.Test.YtkjmpcfikenlbaaGreatDoorX3
set_option linter.all false
namespace Go.Tx
open Go Go.Ev
set_option maxRecDepth 100000
set_option maxHeartbeats 8000000
attribute [local irreducible] eo eA bU eE eJ eN cU eX
section
variable{C:Nat->cE}{ext:Nat->Option eS}{Q:e9}(aa:Env C ext Q)
include aa
def xl(b:Nat):Bool:=decide (97<=b/\b<=122\/65<=b/\b<=90)
def A1(b:Nat):Bool:=decide (48<=b/\b<=57)
def Ox(b:UInt8):bU C [] 155 [.J (.int 4 b.toNat)] [] λv A=>A=[]/\v=.bool (xl b.toNat):=by
 refine aa.z 155 ff rfl rfl ?_
 (conv=>whnf)
 repeat' (first|refine bZ ?_|refine a3 ?_|refine s2 ?_ ?_<;>intros|fail)<;>(conv=>whnf)
 all_goals(refine⟨rfl,?_⟩;congr 1;rw[Bool.eq_iff_iff];simp_all[xl,Jq];try omega)
def NH(b:UInt8):bU C [] 157 [.J (.int 4 b.toNat)] [] λv A=>A=[]/\v=.bool (A1 b.toNat):=by
 refine aa.z 157 ff rfl rfl ?_
 (conv=>whnf)
 repeat' (first|refine bZ ?_|refine a3 ?_|refine s2 ?_ ?_<;>intros|fail)<;>(conv=>whnf)
 all_goals(refine⟨rfl,?_⟩;congr 1;rw[Bool.eq_iff_iff];simp_all[A1,Jq];try omega)
def J0:List bj:=["library","client","interface","release","import","since","public","frozen","sealed","inline","indirect","struct","union","trait","conform","for","func","default","let","in","if","then","else","print","true","false","case","of","call","match","array","count","at","append","available","fail","byte","ord","with","Int","Byte","Bool","Array","Self"].map λs=>s.toUTF8.data.toList
def ap7:bU C [] 218 [] [] λv A=>A=[]/\∃g,v=.aH g (J0.map b6):=by refine aa.z 218 ff rfl rfl ?_;refine N ?_;exact⟨rfl,_,rfl⟩
def aiQ(s:bj):bU C [] 156 [.J (.str s)] [] λv A=>A=[]/\v=.bool (decide (s∈J0)):=by
 refine aa.z 156 (ja [(0,[2,6,7],[])]) rfl rfl ?_;refine N ?_;refine aW (ap7 aa) ?_;rintro v A ⟨rfl,g,rfl⟩;refine N ?_;have ii:(J0.map b6).length<1000:=af;refine fu b6 J0 5 (λ_=>[]) (λd=>s∉d) ⟨by simp,rfl,rfl⟩ (λd x r ba Y be ag a7 bt=>?_) (λba a7=>?_)
 .refine dk ?_;refine NN (λaw=>?_) (λaw=>?_)
  .refine N ?_;exact⟨rfl,by rw[Y,aw];simp⟩
  .refine N ?_;exact bt _ _ (Ue a7 aw) rfl rfl
 .refine dd ?_;exact⟨rfl,by rw[pU a7]⟩
def hD(s:bj):Bool:=decide (s≠[]/\s.length<=16/\xl (s.headD 0).toNat=true/\s∉J0/\∀b∈s,xl b.toNat=true\/A1 b.toNat=true)
def ph(s:bj)(ap:s.length<1000):bU C [] 70 [.J (.str s)] [] λv A=>A=[]/\v=.bool (hD s):=by
 refine aa.z 70 (ja [(0,[4,5],[])]) rfl rfl ?_;rcases s with _|⟨b,t⟩
 ·(conv=>whnf)
  repeat' (first|refine bZ ?_|refine a3 ?_|refine s2 ?_ ?_<;>intros|fail)<;>(conv=>whnf)
  all_goals exact⟨rfl,by simp[hD]⟩
 refine N ?_;refine NN (λaw=>by cases aw) (λaw=>?_);refine N ?_;refine rH (λLJ=>?_) (λLJ=>?_)
 ·(conv=>whnf)
  repeat' (first|refine bZ ?_|refine a3 ?_|refine s2 ?_ ?_<;>intros|fail)<;>(conv=>whnf)
  all_goals exact⟨rfl,by simp[hD];intros;simp at LJ;omega⟩
 refine N ?_;refine⟨by simp,⟨b,rfl,?_⟩⟩;refine N ?_;refine bn (Ox aa b) ?_;refine lT (j0 (λY=>?_) (λY=>?_))
 .refine N ?_;refine bn (aiQ aa (b::t)) ?_;refine j0 (λag=>?_) (λag=>?_)
  .refine N ?_;exact⟨rfl,by simp at ag;simp[hD,ag]⟩
  refine N ?_;refine Hu (b::t).length 2 (λ_=>[]) (λi=>∀x∈(b::t).take i,xl x.toNat=true\/A1 x.toNat=true) ⟨by simp,rfl,rfl⟩ (λi ba aN a7 bt=>?_) (λba a7=>?_)
  ·(conv=>whnf)
   repeat(first|refine .yes (dg.2 aN) ?_|refine⟨aN,⟨_,lX aN,?_⟩⟩|refine bZ ?_);(conv=>whnf)
   refine bn (Ox aa _) ?_;have dv:∀(M:xl (b::t)[i].toNat=true\/A1 (b::t)[i].toNat=true),∀x∈(b::t).take (i+1),xl x.toNat=true\/A1 x.toNat=true:=by
    intro M x hm;rw[Rr aN]at hm;rcases l8.1 hm with h|h
    .exact a7 x h
    .rw[ji.1 h];exact M
   refine lT (j0 (λD=>?_) (λD=>?_))
   .refine N ?_;exact bt _ _ (dv (.inl D)) rfl rfl
   ·(conv=>whnf)
    repeat(first|refine⟨aN,⟨_,lX aN,?_⟩⟩|refine bZ ?_);(conv=>whnf)
    refine bn (NH aa _) ?_;refine lT (j0 (λF=>?_) (λF=>?_))
    .refine N ?_;exact bt _ _ (dv (.inr F)) rfl rfl
    .refine N ?_;refine⟨rfl,?_⟩;have:hD (b::t)=false:=by
      unfold hD;refine pU λh=>?_;rcases h.2.2.2.2 _ (fQ aN)with h|h
      .rw[D]at h;cases h
      .rw[F]at h;cases h
     rw[this]
  ·(conv=>whnf)
   repeat(first|refine .no (pe _) ?_|refine bZ ?_);(conv=>whnf)
   refine⟨rfl,?_⟩;have:hD (b::t)=true:=by unfold hD;rw[LF]at a7;exact r7 ⟨by simp,LJ,Y,by simpa using ag,a7⟩
   rw[this]
 ·(conv=>whnf)
  repeat' (first|refine bZ ?_|refine a3 ?_|refine s2 ?_ ?_<;>intros|fail)<;>(conv=>whnf)
  all_goals exact⟨rfl,by simp[hD,Y]⟩
def Nx(g)(l:List bj)(Y:(l.map b6).length<1000)(ap:∀s∈l,s.length<1000):bU C [] 74 [.J (.aH g (l.map b6))] [] λv A=>A=[]/\v=.bool (l.all hD):=by
 refine aa.z 74 (ja [(0,[2,6,7],[])]) rfl rfl ?_;refine N ?_;refine fu b6 l 5 (λ_=>[]) (λd=>d.all hD=true) ⟨rfl,rfl,rfl⟩ (λd x r ba aw be ag a7 bt=>?_) (λba a7=>?_)
 .refine dk ?_;refine bn (ph aa x (ap x (by simp[aw]))) ?_;refine lT (j0 (λD=>?_) (λD=>?_))
  .refine N ?_;exact bt _ _ (De a7 D) rfl rfl
  .refine N ?_;exact⟨rfl,by rw[Sx aw D]⟩
 .refine dd ?_;exact⟨rfl,by rw[a7]⟩
def qp(s:bj):Bool:=if 46∈s then hD (s.take (s.idxOf 46))&&hD (s.drop (s.idxOf 46+1))else hD s
omit aa in
def XM{α:Type}[DecidableEq α]{a}:∀{s:List α}{i}(aN:i<s.length),a∉s.take i->s[i]=a->s.idxOf a=i
 |[],i,aN,_,_=>by simp at aN
 |b::s,0,_,_,h=>by simp at h;simp[h]
 |b::s,i+1,aN,h,cz=>by simp at h;have D:a∉s.take i:=λhm=>h.2 hm;have:=XM (by simpa using aN) D (by simpa using cz);rw[List.idxOf_cons,this,show(b==a)=false from by simpa using λe=>h.1 e.symm];rfl
def GL(s:bj)(ap:s.length<1000):bU C [] 160 [.J (.str s)] [] λv A=>A=[]/\v=.bool (qp s):=by
 refine aa.z 160 (ja [(0,[3,4],[])]) rfl rfl ?_;refine N ?_;refine Hu s.length 2 (λ_=>[]) (λi=>46∉s.take i) ⟨by simp,rfl,rfl⟩ (λi ba aN a7 bt=>?_) (λba a7=>?_)
 ·(conv=>whnf)
  repeat(first|refine .yes (dg.2 aN) ?_|refine⟨aN,⟨_,lX aN,?_⟩⟩|refine bZ ?_);(conv=>whnf)
  refine Te (λaw=>?_) (λaw=>?_)
  .have aB:s[i]=46:=PI.1 aw;have a0:qp s=(hD (s.take i)&&hD (s.drop (i+1))):=by unfold qp;rw[ev (aB▸fQ aN),XM aN a7 aB]
   (conv=>whnf)
   repeat(first|refine⟨by omega,?_⟩|refine bZ ?_);(conv=>whnf)
   refine hZ (ph aa (s.take i) (by rw[rR];omega)) ?_
   (conv=>whnf)
   repeat' (first|refine⟨by omega,?_⟩|refine hZ (ph aa ((s.drop (i+1)).take (s.length - (i+1))) (by rw[rR,qK];omega)) ?_|refine bZ ?_|refine a3 ?_|refine s2 ?_ ?_<;>intros|fail)<;>(conv=>whnf)
   all_goals(refine⟨rfl,?_⟩;rw[a0];simp_all[Dx])
  .refine N ?_;refine bt _ _ ?_ rfl rfl;rw[Rr aN];exact Ue a7 λe=>aw (by rw[e];rfl)
 ·(conv=>whnf)
  repeat(first|refine .no (pe _) ?_|refine bZ ?_);(conv=>whnf)
  refine bn (ph aa s ap) ?_;refine⟨rfl,?_⟩;rw[LF]at a7;unfold qp;rw[cO a7]
def No(s:bj):Bool:=decide (s∈[[73,110,116],[66,121,116,101],[66,111,111,108],[65,114,114,97,121],[83,101,108,102]])
mutual
def al.kC:al->Bool
 |.mk ay _ l=>(No ay||qp ay)&&al.NG l
def al.NG:List al->Bool
 |[]=>true|a::l=>a.kC&&al.NG l
end
omit aa in
def al.abM:∀l,al.NG l=l.all al.kC
 |[]=>rfl
 |a::l=>by rw[al.NG,al.abM l];rfl
omit aa in
def al.Uz(t:al):t.kC=((No t.ay||qp t.ay)&&t.l.all al.kC):=by cases t;rw[al.kC,al.abM];rfl
def abI(g)(l:List al)(Y:(l.map al.row).length<1000)(aQ:∀t∈l,bU C [] 75 [.J (.agg t.cells)] [] λv A=>A=[]/\v=.bool t.kC):bU C [] 76 [.J (.aH g (l.map al.row))] [] λv A=>A=[]/\v=.bool (l.all al.kC):=by
 refine aa.z 76 (ja [(0,[2,6,7],[])]) rfl rfl ?_;refine N ?_;refine fu al.row l 5 (λ_=>[]) (λd=>d.all al.kC=true) ⟨rfl,rfl,rfl⟩ (λd x r ba aw be ag a7 bt=>?_) (λba a7=>?_)
 .rw[al.dN]at ag;refine dk ?_;refine bn (aQ x (by simp[aw])) ?_;refine lT (j0 (λD=>?_) (λD=>?_))
  .refine N ?_;exact bt _ _ (De a7 D) rfl rfl
  .refine N ?_;exact⟨rfl,by rw[Sx aw D]⟩
 .refine dd ?_;exact⟨rfl,by rw[a7]⟩
def ami(t:al)(au:t.ay.length<1000)(aQ:bU C [] 76 [.J (.aH t.g (t.l.map al.row))] [] λv A=>A=[]/\v=.bool (t.l.all al.kC)):bU C [] 75 [.J (.agg t.cells)] [] λv A=>A=[]/\v=.bool t.kC:=by
 refine aa.z 75 ff rfl rfl ?_
 (conv=>whnf)
 repeat' (first|refine hZ (GL aa t.ay au) ?_|refine hZ aQ ?_|refine bZ ?_|refine a3 ?_|refine s2 ?_ ?_<;>intros|fail)<;>(conv=>whnf)
 all_goals(refine⟨rfl,?_⟩;rw[al.Uz];simp_all[No])
def DY:∀(t:al),t.ok->bU C [] 75 [.J (.agg t.cells)] [] λv A=>A=[]/\v=.bool t.kC:=
 al.ind λt bQ h=>by rw[al.mS]at h;exact ami aa _ h.1 (abI aa t.g t.l (by rw[ex];omega) λx M=>bQ x M (h.2.2 x M))
def TM(g)(l:List al)(h:l.length<100)(Y:∀x∈l,x.ok):bU C [] 76 [.J (.aH g (l.map al.row))] [] λv A=>A=[]/\v=.bool (l.all al.kC):=abI aa g l (by rw[ex];omega) λt au=>DY aa t (Y t au)
mutual
def al.jK:al->Bool
 |.mk _ _ l=>decide (l.length<=4)&&al.zk l
def al.zk:List al->Bool
 |[]=>true|a::l=>a.jK&&al.zk l
end
omit aa in
def al.HC:∀l,al.zk l=l.all al.jK
 |[]=>rfl
 |a::l=>by rw[al.zk,al.HC l];rfl
omit aa in
def al.J3(t:al):t.jK=(decide (t.l.length<=4)&&t.l.all al.jK):=by cases t;rw[al.jK,al.HC];rfl
def W5(g)(l:List al)(Y:(l.map al.row).length<1000)(aQ:∀t∈l,bU C [] 222 [.J (.agg t.cells)] [] λv A=>A=[]/\v=.bool t.jK):bU C [] 223 [.J (.aH g (l.map al.row))] [] λv A=>A=[]/\v=.bool (l.all al.jK):=by
 refine aa.z 223 (ja [(0,[2,6,7],[])]) rfl rfl ?_;refine N ?_;refine fu al.row l 5 (λ_=>[]) (λd=>d.all al.jK=true) ⟨rfl,rfl,rfl⟩ (λd x r ba aw be ag a7 bt=>?_) (λba a7=>?_)
 .rw[al.dN]at ag;refine dk ?_;refine bn (aQ x (by simp[aw])) ?_;refine lT (j0 (λD=>?_) (λD=>?_))
  .refine N ?_;exact bt _ _ (De a7 D) rfl rfl
  .refine N ?_;exact⟨rfl,by rw[Sx aw D]⟩
 .refine dd ?_;exact⟨rfl,by rw[a7]⟩
def ahN(t:al)(au:(t.l.map al.row).length<1000)(aQ:bU C [] 223 [.J (.aH t.g (t.l.map al.row))] [] λv A=>A=[]/\v=.bool (t.l.all al.jK)):bU C [] 222 [.J (.agg t.cells)] [] λv A=>A=[]/\v=.bool t.jK:=by
 refine aa.z 222 ff rfl rfl ?_
 (conv=>whnf)
 repeat' (first|refine hZ aQ ?_|refine bZ ?_|refine a3 ?_|refine s2 ?_ ?_<;>intros|fail)<;>(conv=>whnf)
 all_goals(refine⟨rfl,?_⟩;rw[al.J3];simp_all)
 all_goals(intros;omega)
def Fi:∀(t:al),t.ok->bU C [] 222 [.J (.agg t.cells)] [] λv A=>A=[]/\v=.bool t.jK:=
 al.ind λt bQ h=>by
  rw[al.mS]at h;have Y:(t.l.map al.row).length<1000:=by rw[ex];omega
  exact ahN aa _ Y (W5 aa t.g t.l Y λx M=>bQ x M (h.2.2 x M))
def QE(g)(l:List al)(h:l.length<100)(Y:∀x∈l,x.ok):bU C [] 223 [.J (.aH g (l.map al.row))] [] λv A=>A=[]/\v=.bool (l.all al.jK):=W5 aa g l (by rw[ex];omega) λt au=>Fi aa t (Y t au)
def agS(t:al)(au:t.b0)(aQ:∀x∈t.l,bU C [] 219 [.J (.agg x.cells)] [] λv A=>A=[]/\v=.int 3 x.ir):bU C [] 219 [.J (.agg t.cells)] [] λv A=>A=[]/\v=.int 3 t.ir:=by
 refine aa.z 219 (ja [(0,[4,8],[1])]) rfl rfl ?_;have ii:=au.len;have aY:=au.2;rw[al.vG]at aY;refine N ?_;refine fu al.row t.l 7 (λd=>[(3,.J (.int 3 (al.f6 d)))]) (λ_=>True) ⟨trivial,rfl,rfl⟩ (λd x r ba aw be ag a7 bt=>?_) (λba a7=>?_)
 .rw[al.dN]at ag;have M:x∈t.l:=by simp[aw]
  have D:=al.Bv M;have F:al.f6 d<=al.f6 t.l:=by rw[aw];exact al.MI _ _
  refine dk ?_;refine bn (aQ x M) ?_;exact bt _ _ trivial (by rw[al.EG];rfl) rfl
 .refine dd ?_;exact⟨rfl,by rw[al.vG]⟩
def F8:∀(t:al),t.b0->bU C [] 219 [.J (.agg t.cells)] [] λv A=>A=[]/\v=.int 3 t.ir:=
 al.ind λt bQ h=>agS aa t h λx M=>bQ x M (h.l0 M)
def sz(l:List al):Bool:=l.any λt=>decide (8<t.ir)
def Vo(g)(l)(h:l.length<100)(Y:∀x∈l,x.b0):bU C [] 220 [.J (.aH g (l.map al.row))] [] λv A=>A=[]/\v=.bool (sz l):=by
 refine aa.z 220 (ja [(0,[2,6,7],[])]) rfl rfl ?_;have ii:(l.map al.row).length<100:=by rw[ex];exact h
 refine N ?_;refine fu al.row l 5 (λ_=>[]) (λd=>sz d=false) ⟨rfl,rfl,rfl⟩ (λd x r ba aw be ag a7 bt=>?_) (λba a7=>?_)
 .rw[al.dN]at ag;have M:x.b0:=Y x (by simp[aw]);have nN:=M.2;refine dk ?_;refine bn (F8 aa x M) ?_;refine rH (λD=>?_) (λD=>?_)
  .refine N ?_;exact⟨rfl,by rw[aw];simp[sz,D]⟩
  .refine N ?_;exact bt _ _ (by simp_all[sz]) rfl rfl
 .refine dd ?_;exact⟨rfl,by rw[a7]⟩
def amf(t:ai)(au:t.b0)(aQ:∀x∈t.kids,bU C [] 269 [.J (.agg x.cells)] [] λv A=>A=[]/\v=.int 3 x.ir):bU C [] 269 [.J (.agg t.cells)] [] λv A=>A=[]/\v=.int 3 t.ir:=by
 refine aa.z 269 (ja [(0,[4,8],[1])]) rfl rfl ?_;have ii:=au.len;have aY:=au.2;have g1:=ai.aaK t;rw[ai.vG]at g1;refine N ?_;refine fu ai.row t.kids 7 (λd=>[(3,.J (.int 3 (ai.f6 d)))]) (λ_=>True) ⟨trivial,rfl,rfl⟩ (λd x r ba aw be ag a7 bt=>?_) (λba a7=>?_)
 .rw[ai.dN]at ag;have M:x∈t.kids:=by simp[aw]
  have D:=ai.Bv M;have F:ai.f6 d<=ai.f6 t.kids:=by rw[aw];exact ai.MI _ _
  refine dk ?_;refine bn (aQ x M) ?_;exact bt _ _ trivial (by rw[ai.EG];rfl) rfl
 .refine dd ?_;exact⟨rfl,by rw[ai.vG]⟩
def arp:∀(t:ai),t.b0->bU C [] 269 [.J (.agg t.cells)] [] λv A=>A=[]/\v=.int 3 t.ir:=
 ai.ind λt bQ h=>amf aa t h λx M=>bQ x M (h.l0 M)
def ah2(t:ai)(au:t.b0)(aQ:∀x∈t.kids,bU C [] 271 [.J (.agg x.cells)] [] λv A=>A=[]/\v=.int 3 x.size):bU C [] 271 [.J (.agg t.cells)] [] λv A=>A=[]/\v=.int 3 t.size:=by
 refine aa.z 271 (ja [(0,[4,8],[1])]) rfl rfl ?_;have ii:=au.len;have aY:=au.2;rw[ai.size_eq]at aY;refine N ?_;refine fu ai.row t.kids 7 (λd=>[(3,.J (.int 3 (1+ai.fw d)))]) (λ_=>True) ⟨trivial,rfl,rfl⟩ (λd x r ba aw be ag a7 bt=>?_) (λba a7=>?_)
 .rw[ai.dN]at ag;have M:x∈t.kids:=by simp[aw]
  have F:ai.fw d+(x.size+ai.fw r)=ai.fw t.kids:=by rw[aw,ai.EZ];rfl
  refine dk ?_;refine bn (aQ x M) ?_;exact bt _ _ trivial (by rw[ai.EZ,show ai.fw [x]=x.size by simp[ai.fw],<-GM];rfl) rfl
 .refine dd ?_;exact⟨rfl,by rw[ai.size_eq,El]⟩
def ajo:∀(t:ai),t.b0->bU C [] 271 [.J (.agg t.cells)] [] λv A=>A=[]/\v=.int 3 t.size:=
 ai.ind λt bQ h=>ah2 aa t h λx M=>bQ x M (h.l0 M)
mutual
def ai.uA:ai->Bool
 |.mk _ _ _ _ _ types _ _ _ _ _ l _ _=>sz types||ai.N7 l
def ai.N7:List ai->Bool
 |[]=>false|a::l=>a.uA||ai.N7 l
end
omit aa in
def ai.X0:∀l,ai.N7 l=l.any ai.uA
 |[]=>rfl
 |a::l=>by rw[ai.N7,ai.X0 l];rfl
omit aa in
def ai.Nq(t:ai):t.uA=(sz t.types||t.kids.any ai.uA):=by cases t;rw[ai.uA,ai.X0];rfl
omit aa in
def arn{α:Type}{p}{d:List α}{x}(h:d.any p=false)(M:p x=false):(d++[x]).any p=false:=by simp_all
omit aa in
def ajV{α:Type}{p}{l d r:List α}{x}(Y:l=d++x::r)(M:p x):l.any p:=by subst Y;simp[M]
def amA(t:ai)(au:t.b0)(aQ:∀x∈t.kids,bU C [] 270 [.J (.agg x.cells)] [] λv A=>A=[]/\v=.bool x.uA):bU C [] 270 [.J (.agg t.cells)] [] λv A=>A=[]/\v=.bool t.uA:=by
 refine aa.z 270 (ja [(0,[3,8,9],[1])]) rfl rfl ?_;have ii:=au.len;have D:=au.one;refine N ?_;refine bn (Vo aa t.aj t.types D.2.2.1 D.2.2.2.1) ?_;refine j0 (λaY=>?_) (λaY=>?_)
 .refine N ?_;exact⟨rfl,by rw[ai.Nq,aY];rfl⟩
 refine N ?_;refine fu ai.row t.kids 7 (λd=>[]) (λd=>d.any ai.uA=false) ⟨rfl,rfl,rfl⟩ (λd x r ba aw be ag a7 bt=>?_) (λba a7=>?_)
 .rw[ai.dN]at ag;refine dk ?_;refine bn (aQ x (by simp[aw])) ?_;refine j0 (λF=>?_) (λF=>?_)
  .refine N ?_;exact⟨rfl,by rw[ai.Nq,ajV aw F];simp⟩
  .refine N ?_;exact bt _ _ (arn a7 F) rfl rfl
 .refine dd ?_;exact⟨rfl,by rw[ai.Nq,aY,a7];rfl⟩
def ana:∀(t:ai),t.b0->bU C [] 270 [.J (.agg t.cells)] [] λv A=>A=[]/\v=.bool t.uA:=
 ai.ind λt bQ h=>amA aa t h λx M=>bQ x M (h.l0 M)
def Ys(t:ai)(au:t.b0):bU C [] 221 [.J (.agg t.cells)] [] λv A=>A=[]/\v=.bool (decide (40<t.ir)||t.uA):=by
 refine aa.z 221 ff rfl rfl ?_;have aY:=au.2;have g1:=ai.aaK t;refine N ?_;refine hZ (arp aa t au) ?_
 (conv=>whnf)
 repeat' (first|refine hZ (ana aa t au) ?_|refine bZ ?_|refine a3 ?_|refine s2 ?_ ?_<;>intros|fail)<;>(conv=>whnf)
 all_goals(refine⟨rfl,?_⟩;simp_all)
 all_goals(intros;omega)
def B6(l:List c3):Bool:=decide (l.length<=4)&&l.all λx=>decide (x.ec.length<=3)
def acf(g)(l)(h:l.length<100)(Y:∀x∈l,x.ec.length<100):bU C [] 224 [.J (.aH g (l.map c3.row))] [] λv A=>A=[]/\v=.bool (B6 l):=by
 refine aa.z 224 (ja [(0,[2,6,7],[])]) rfl rfl ?_;have ii:(l.map c3.row).length<100:=by rw[ex];exact h
 refine N ?_;refine fu c3.row l 5 (λ_=>[]) (λd=>d.all (λx=>decide (x.ec.length<=3))=true) ⟨rfl,rfl,rfl⟩ (λd x r ba aw be ag a7 bt=>?_) (λba a7=>?_)
 .have M:(x.ec.map b6).length<100:=by rw[ex];exact Y x (by simp[aw])
  unfold c3.row at ag;refine dk ?_;refine rH (λD=>?_) (λD=>?_)
  .refine N ?_;rw[ex]at D;exact⟨rfl,by rw[aw];simp[B6];intros;omega⟩
  .refine N ?_;rw[ex]at D;exact bt _ _ (De a7 (r7 D)) rfl rfl
 .refine dd ?_;exact⟨rfl,by rw[B6,a7,Jq,ex];simp⟩
def Sz(l:List dI):Bool:=l.all λx=>decide (x.names.length<=12)
def Zv(k n:Nat):Bool:=decide ((k=9\/k=10->n<=6)/\(k=14->n<=12)/\(k=16->n<=200))
def ai.MD(e:ai):Bool:=decide (e.types.length<=4)&&e.types.all al.jK&&decide (e.cg.length<=12)&&decide (e.bM.length<=13)&&Zv e.kind e.kids.length&&Sz e.bM
mutual
def ai.jK:ai->Bool
 |.mk bk bu b1 cP dO eb eY mN gZ pM oE l ti wD=>ai.MD (.mk bk bu b1 cP dO eb eY mN gZ pM oE l ti wD)&&ai.zk l
def ai.zk:List ai->Bool
 |[]=>true|a::l=>a.jK&&ai.zk l
end
omit aa in
def ai.HC:∀l,ai.zk l=l.all ai.jK
 |[]=>rfl
 |a::l=>by rw[ai.zk,ai.HC l];rfl
omit aa in
def ai.J3(t:ai):t.jK=(t.MD&&t.kids.all ai.jK):=by cases t;rw[ai.jK,ai.HC];rfl
def ai0(t:ai)(au:t.b0)(aQ:∀x∈t.kids,bU C [] 272 [.J (.agg x.cells)] [] λv A=>A=[]/\∃b,v=.bool b/\(b->x.jK)):bU C [] 272 [.J (.agg t.cells)] [] λv A=>A=[]/\∃b,v=.bool b/\(b->t.jK):=by
 refine aa.z 272 (ja [(1,[4,17,18],[1]),(3,[5,22,23],[1])]) rfl rfl ?_;have ii:=au.len;have D:=au.one;have cH:(t.types.map al.row).length<100:=by rw[ex];exact D.2.2.1
 have cq:(t.cg.map b6).length<100:=by rw[ex];exact D.2.2.2.2.1
 have c9:(t.bM.map dI.row).length<100:=by rw[ex];exact D.2.2.2.2.2.2.1
 refine N ?_;refine rH (λh=>?_) (λuQ=>?_)
 .exact i9
 refine N ?_;refine bn (QE aa t.aj t.types D.2.2.1 λx M=>(D.2.2.2.1 x M).1) ?_;refine lT (j0 (λaiD=>?_) (λ_=>?_));rotate_left
 .exact i9
 refine N ?_;refine rH (λh=>?_) (λaeC=>?_)
 .exact i9
 refine N ?_;refine rH (λh=>?_) (λti=>?_)
 .exact i9
 (conv=>whnf)
 repeat' (first|refine bZ ?_|refine a3 ?_|refine s2 ?_ ?_<;>intros|fail)<;>(conv=>whnf)
 all_goals try exact⟨rfl,_,rfl,kn⟩
 all_goals
  have Y:(t.kids.map ai.row).length=t.kids.length:=bW
  have ar:Zv t.kind t.kids.length=true:=r7 I
  refine fu dI.row t.bM 16 (λd=>[]) (λd=>Sz d=true) ⟨rfl,rfl,rfl⟩ (λd x r ba aw be ag a7 bt=>?_) (λba a7=>?_)
  .have M:(x.names.map b6).length<100:=by rw[ex];exact(D.2.2.2.2.2.2.2.1 x (by simp[aw])).2.1
   unfold dI.row at ag;refine dk ?_;refine rH (λF=>?_) (λF=>?_)
   .exact i9
   refine N ?_;rw[ex]at F;exact bt _ _ (De a7 (r7 F)) rfl rfl
  .refine dd ?_;refine fu ai.row t.kids 21 (λd=>[]) (λd=>d.all ai.jK=true) ⟨rfl,rfl,rfl⟩ (λd x r ba aw be ag dq bt=>?_) (λba dq=>?_)
   .rw[ai.dN]at ag;refine dk ?_;refine aW (aQ x (by simp[aw])) ?_;rintro v A ⟨rfl,b,rfl,aB⟩;refine N ?_;refine lT (j0 (λF=>?_) (λF=>?_))
    .refine N ?_;exact bt _ _ (De dq (aB F)) rfl rfl
    .exact i9
   .refine dd ?_;refine⟨rfl,_,rfl,λ_=>?_⟩;simp only[ex]at uQ aeC ti;rw[ai.J3,dq,ai.MD,ar,a7,aiD];simp[uQ,aeC,ti]
def ank:∀(t:ai),t.b0->bU C [] 272 [.J (.agg t.cells)] [] λv A=>A=[]/\∃b,v=.bool b/\(b=true->t.jK=true):=
 ai.ind λt bQ h=>ai0 aa t h λx M=>bQ x M (h.l0 M)
def JE(t:ai):Prop:=t.size<=2000/\t.jK=true
def abD(t:ai)(au:t.b0):bU C [] 225 [.J (.agg t.cells)] [] λv A=>A=[]/\∃b,v=.bool b/\(b=true->JE t):=by
 refine aa.z 225 ff rfl rfl ?_;have aY:=au.2;refine N ?_;refine bn (ajo aa t au) ?_;refine Ww (λD=>?_) (λD=>?_)
 .refine N ?_;refine aW (ank aa t au) ?_;rintro v A ⟨rfl,b,rfl,aB⟩;refine N ?_;exact⟨rfl,_,rfl,λh=>⟨D,aB h⟩⟩
 .exact i9
omit aa in
def k1{α:Type}{p:α->Prop}{d:List α}{x}(h:∀y∈d,p y)(M:p x):∀y∈d++[x],p y:=by
 intro y aE;rcases l8.1 aE with aE|aE
 .exact h y aE
 .rw[ji.1 aE];exact M
def aaq(n)(aD:n<9223372036854775808):bU C [] 71 [.J (.int 3 n)] [] λv A=>A=[]/\v=.bool (decide (1<=n/\n<=1000)):=by
 refine aa.z 71 ff rfl rfl ?_
 (conv=>whnf)
 repeat' (first|refine bZ ?_|refine a3 ?_|refine s2 ?_ ?_<;>intros|fail)<;>(conv=>whnf)
 all_goals(refine⟨rfl,?_⟩;simp_all[Jq])
def L8(n)(aD:n<9223372036854775808):bU C [] 73 [.J (.int 3 n)] [] λv A=>A=[]/\v=.bool (decide (n<=1000)):=by
 refine aa.z 73 ff rfl rfl ?_
 (conv=>whnf)
 repeat' (first|refine bZ ?_|refine a3 ?_|refine s2 ?_ ?_<;>intros|fail)<;>(conv=>whnf)
 all_goals(refine⟨rfl,?_⟩;simp_all[Jq])
def adj(g)(l:List c3)(h:l.length<100)(Y:∀x∈l,x.ay.length<1000/\x.ec.length<100/\∀s∈x.ec,s.length<1000):bU C [] 161 [.J (.aH g (l.map c3.row))] [] λv A=>A=[]/\∃b,v=.bool b/\(b->∀x∈l,hD x.ay/\x.ec.all qp):=by
 refine aa.z 161 (ja [(0,[2,3,7,8,9,10,11,12,13],[]),(2,[3,12,13],[4])]) rfl rfl ?_;have ii:(l.map c3.row).length<100:=by rw[ex];exact h
 refine N ?_;refine fu c3.row l 6 (λd=>[]) (λd=>∀x∈d,hD x.ay=true/\x.ec.all qp=true) ⟨by simp,rfl,rfl⟩ (λd x r ba aw be ag a7 bt=>?_) (λba a7=>?_)
 .obtain⟨Gb,nN,Vv⟩:=Y x (by simp[aw]);have aty:(x.ec.map b6).length<100:=by rw[ex];exact nN
  unfold c3.row at ag;refine dk ?_;refine bn (ph aa x.ay Gb) ?_;refine lT (j0 (λD=>?_) (λD=>?_));rotate_left
  .exact i9
  refine N ?_;refine fu b6 x.ec 11 (λd=>[]) (λd=>d.all qp=true) ⟨rfl,rfl,rfl⟩ (λd2 y b3 gl fb be ag dq fj=>?_) (λgl dq=>?_)
  .refine dk ?_;refine bn (GL aa y (Vv y (by simp[fb]))) ?_;refine lT (j0 (λF=>?_) (λF=>?_));rotate_left
   .exact i9
   refine N ?_;exact fj _ _ (De dq F) rfl rfl
  .refine dd ?_;exact bt _ _ (k1 a7 ⟨D,dq⟩) rfl rfl
 .refine dd ?_;exact⟨rfl,_,rfl,λ_=>a7⟩
def fS.ok(x:fS):Prop:=x.ay.length<1000/\x.args.length<100/\(∀t∈x.args,t.b0)/\x.eW.b0/\x.gk.length<1000
def eG.ok(x:eG):Prop:=x.since<9223372036854775808/\x.ay.length<1000/\x.eu.length<100/\∀m∈x.eu,m.ok
def c3.ok(x:c3):Prop:=x.ay.length<1000/\x.ec.length<100/\∀s∈x.ec,s.length<1000
def ko.ok(x:ko):Prop:=x.Cj.length<1000/\x.func.length<1000
def em.ok(x:em):Prop:=x.rx.length<1000/\x.dB.length<100/\(∀g∈x.dB,g.ok)/\x.bL.b0/\x.binds.length<100/\∀b∈x.binds,b.ok
def eT.ok(x:eT):Prop:=x.ay.length<1000/\x.bL.b0
def dX.ok(x:dX):Prop:=x.since<9223372036854775808/\x.ay.length<1000/\x.params.length<100/\(∀s∈x.params,s.length<1000)/\x.fields.length<100/\∀f∈x.fields,f.ok
def fl.ok(x:fl):Prop:=x.ay.length<1000/\x.gL.length<100/\∀t∈x.gL,t.b0
def dV.ok(x:dV):Prop:=x.since<9223372036854775808/\x.ay.length<1000/\x.params.length<100/\(∀s∈x.params,s.length<1000)/\x.cases.length<100/\∀f∈x.cases,f.ok
def cG.ok(x:cG):Prop:=x.ay.length<1000/\x.bL.b0/\x.gk.b0
def cu.ok(x:cu):Prop:=x.since<9223372036854775808/\x.ay.length<1000/\x.dB.length<100/\(∀g∈x.dB,g.ok)/\x.args.length<100/\(∀a∈x.args,a.ok)/\x.eW.b0/\x.body.b0
def hM.ok(x:hM):Prop:=x.ay.length<1000/\x.rel<9223372036854775808
def cZ.ok(x:cZ):Prop:=x.kind<9223372036854775808/\x.rel<9223372036854775808/\x.ay.length<1000/\x.fA.length<100/\(∀y∈x.fA,y.ok)/\x.dJ.length<100/\(∀y∈x.dJ,y.ok)/\x.d9.length<100/\(∀y∈x.d9,y.ok)/\
 x.e2.length<100/\(∀y∈x.e2,y.ok)/\x.dn.length<100/\(∀y∈x.dn,y.ok)/\x.funcs.length<100/\(∀y∈x.funcs,y.ok)
def afe(x:fS):Prop:=hD x.ay=true/\x.args.all al.kC=true/\x.eW.kC=true/\(x.gk=[]\/qp x.gk=true)
def HV(x:eG):Prop:=x.since<=1000/\hD x.ay=true/\∀m∈x.eu,afe m
def alM(x:cZ)(M:x.ok):bU C [] 77 [.J (.agg x.cells)] [] λv A=>A=[]/\∃b,v=.bool b/\(b=true->∀t∈x.e2,HV t):=by
 refine aa.z 77 (ja [(0,[3,4,8,9,10,11,12,13,14],[1]),(2,[4,13,14],[1])]) rfl rfl ?_;obtain⟨_,_,_,_,_,_,_,_,_,Y,au,_⟩:=M;have ii:(x.e2.map eG.row).length<100:=by rw[ex];exact Y
 refine N ?_;refine fu eG.row x.e2 7 (λd=>[]) (λd=>∀t∈d,HV t) ⟨by simp,rfl,rfl⟩ (λd y r ba aw be ag a7 bt=>?_) (λba a7=>?_)
 .obtain⟨D,F,aq,aL⟩:=au y (by simp[aw]);have zy:(y.eu.map fS.row).length<100:=by rw[ex];exact aq
  unfold eG.row at ag;refine dk ?_;refine bn (L8 aa y.since D) ?_;refine lT (j0 (λgx=>?_) (λ_=>?_));rotate_left
  .exact i9
  refine N ?_;refine bn (ph aa y.ay F) ?_;refine lT (j0 (λs2=>?_) (λ_=>?_));rotate_left
  .exact i9
  (conv=>whnf)
  repeat refine bZ ?_;(conv=>whnf)
  refine fu fS.row y.eu 12 (λd=>[]) (λd=>∀t∈d,afe t) ⟨by simp,rfl,rfl⟩ (λd2 z b3 gl fb be ag dq fj=>?_) (λgl dq=>?_)
  .obtain⟨aj,an,aM,bs,cp⟩:=aL z (by simp[fb]);unfold fS.row at ag
   (conv=>whnf)
   repeat(first|refine .yes (dg.2 be) ?_|refine⟨be,⟨_,ag,?_⟩⟩|refine bZ ?_);(conv=>whnf)
   refine hZ (ph aa z.ay aj) ?_
   (conv=>whnf)
   repeat' ((first|(refine aW (TM aa z.g z.args an λt au=>(aM t au).1) ?_;rintro v A ⟨rfl,rfl⟩)|(refine aW (DY aa z.eW bs.1) ?_;rintro v A ⟨rfl,rfl⟩)|(refine aW (GL aa z.gk cp) ?_;rintro v A ⟨rfl,rfl⟩)|refine bZ ?_|((with_reducible first|apply eh|apply jQ|apply ch|apply cQ|apply eQ|apply mr|apply mD|apply eO)<;>intros))<;>(conv=>whnf))
   all_goals try exact⟨rfl,_,rfl,kn⟩
   all_goals exact fj _ _ (k1 dq ⟨by assumption,by assumption,by assumption,by first|(left;assumption)|(right;assumption)⟩) rfl rfl
  .refine dd ?_;exact bt _ _ (k1 a7 ⟨sw gx,s2,dq⟩) rfl rfl
 .refine dd ?_;exact⟨rfl,_,rfl,λ_=>a7⟩
def WW(l:List c3):Prop:=∀x∈l,hD x.ay=true/\x.ec.all qp=true
def Hp(x:em):Prop:=qp x.rx=true/\WW x.dB/\x.bL.kC=true/\∀b∈x.binds,hD b.Cj=true/\qp b.func=true
def ak5(x:cZ)(M:x.ok):bU C [] 78 [.J (.agg x.cells)] [] λv A=>A=[]/\∃b,v=.bool b/\(b=true->∀t∈x.dn,Hp t):=by
 refine aa.z 78 (ja [(0,[3,4,8,9,10,11,12,13,14],[1]),(2,[4,13,14],[1])]) rfl rfl ?_;obtain⟨_,_,_,_,_,_,_,_,_,_,_,Y,au,_⟩:=M;have ii:(x.dn.map em.row).length<100:=by rw[ex];exact Y
 refine N ?_;refine fu em.row x.dn 7 (λd=>[]) (λd=>∀t∈d,Hp t) ⟨by simp,rfl,rfl⟩ (λd y r ba aw be ag a7 bt=>?_) (λba a7=>?_)
 .obtain⟨D,F,aq,aL,bO,cr⟩:=au y (by simp[aw]);have zy:(y.binds.map ko.row).length<100:=by rw[ex];exact bO
  unfold em.row at ag;refine dk ?_;refine bn (GL aa y.rx D) ?_;refine lT (j0 (λgx=>?_) (λ_=>?_));rotate_left
  .exact i9
  refine N ?_;refine aW (adj aa y.aj y.dB F aq) ?_;rintro v A ⟨rfl,b,rfl,aB⟩;refine N ?_;refine lT (j0 (λs2=>?_) (λ_=>?_));rotate_left
  .exact i9
  refine N ?_;refine bn (DY aa y.bL aL.1) ?_;refine lT (j0 (λoV=>?_) (λ_=>?_));rotate_left
  .exact i9
  refine N ?_;refine fu ko.row y.binds 12 (λd=>[]) (λd=>∀b∈d,hD b.Cj=true/\qp b.func=true) ⟨by simp,rfl,rfl⟩ (λd2 z b3 gl fb be ag dq fj=>?_) (λgl dq=>?_)
  .obtain⟨aj,an⟩:=cr z (by simp[fb]);unfold ko.row at ag;refine dk ?_;refine hZ (ph aa z.Cj aj) ?_
   (conv=>whnf)
   repeat' ((first|(refine aW (GL aa z.func an) ?_;rintro v A ⟨rfl,rfl⟩)|refine bZ ?_|((with_reducible first|apply eh|apply jQ|apply ch|apply cQ|apply eQ|apply mr|apply mD|apply eO)<;>intros))<;>(conv=>whnf))
   all_goals try exact⟨rfl,_,rfl,kn⟩
   all_goals exact fj _ _ (k1 dq ⟨by assumption,by assumption⟩) rfl rfl
  .refine dd ?_;exact bt _ _ (k1 a7 ⟨gx,aB s2,oV,dq⟩) rfl rfl
 .refine dd ?_;exact⟨rfl,_,rfl,λ_=>a7⟩
def Ot(e:ai):Bool:=decide (40<e.ir)||e.uA
def Dz(x:dX):Prop:=∀f∈x.fields,f.bL.ir<=8
def adD(x:dV):Prop:=∀c∈x.cases,sz c.gL=false
def acs(x:eG):Prop:=∀m∈x.eu,sz m.args=false/\m.eW.ir<=8
def Zb(a:cG):Prop:=a.bL.ir<=8/\Ot a.gk=false
def Su(x:cu):Prop:=x.eW.ir<=8/\Ot x.body=false/\∀a∈x.args,Zb a
def SR(x:cZ):Prop:=(∀s∈x.dJ,Dz s)/\(∀s∈x.d9,adD s)/\(∀s∈x.e2,acs s)/\(∀s∈x.dn,s.bL.ir<=8)/\∀s∈x.funcs,Su s
def arh(x)(M:x.ok):bU C [] 158 [.J (.agg x.cells)] [] λv A=>A=[]/\∃b,v=.bool b/\(b=false->SR x):=by
 refine aa.z 158 (ja [(0,[3,4,15,16,17,18,19,20],[1]),(2,[4,19,20],[1]),(4,[5,6,24,25,26,27,28,29],[1]),(6,[6,28,29],[1]),(8,[7,8,33,34,35,36,37,38],[1]),(10,[8,37,38],[1]),(12,[9,42,43],[1]),(14,[10,11,47,48,49,50,51,52,53],[1]),(16,[11,52,53],[1])]) rfl rfl ?_;obtain⟨_,_,_,_,_,cH,cT,cq,cN,c9,el,eg,e0,fJ,gB⟩:=M;have aP:(x.dJ.map dX.row).length<100:=by rw[ex];exact cH
 have a3:(x.d9.map dV.row).length<100:=by rw[ex];exact cq
 have cW:(x.e2.map eG.row).length<100:=by rw[ex];exact c9
 have g5:(x.dn.map em.row).length<100:=by rw[ex];exact eg
 have mm:(x.funcs.map cu.row).length<100:=by rw[ex];exact fJ
 refine N ?_;refine fu dX.row x.dJ 14 (λd=>[]) (λd=>∀s∈d,Dz s) ⟨by simp,rfl,rfl⟩ (λd y r ba aw be ag a7 bt=>?_) (λba a7=>?_)
 .obtain⟨D,F,aq,aL,bO,cr⟩:=cT y (by simp[aw]);have zy:(y.fields.map eT.row).length<100:=by rw[ex];exact bO
  unfold dX.row at ag;refine dk ?_;refine fu eT.row y.fields 18 (λd=>[]) (λd=>∀f∈d,f.bL.ir<=8) ⟨by simp,rfl,rfl⟩ (λd2 z b3 gl fb be ag dq fj=>?_) (λgl dq=>?_)
  .have g:=(cr z (by simp[fb])).2;have an:=g.2;unfold eT.row at ag;refine dk ?_;refine bn (F8 aa z.bL g) ?_;refine rH (λh=>?_) (λgx=>?_)
   .exact i9
   refine N ?_;exact fj _ _ (k1 dq gx) rfl rfl
  .refine dd ?_;exact bt _ _ (k1 a7 dq) rfl rfl
 refine dd ?_;refine fu dV.row x.d9 23 (λd=>[]) (λd=>∀s∈d,adD s) ⟨by simp,rfl,rfl⟩ (λd y r ba aw be ag gP bt=>?_) (λba gP=>?_)
 .obtain⟨D,F,aq,aL,bO,cr⟩:=cN y (by simp[aw]);have zy:(y.cases.map fl.row).length<100:=by rw[ex];exact bO
  unfold dV.row at ag;refine dk ?_;refine fu fl.row y.cases 27 (λd=>[]) (λd=>∀c∈d,sz c.gL=false) ⟨by simp,rfl,rfl⟩ (λd2 z b3 gl fb be ag dq fj=>?_) (λgl dq=>?_)
  .obtain⟨_,aj,an⟩:=cr z (by simp[fb]);unfold fl.row at ag;refine dk ?_;refine bn (Vo aa z.g z.gL aj an) ?_;refine j0 (λh=>?_) (λgx=>?_)
   .exact i9
   refine N ?_;exact fj _ _ (k1 dq gx) rfl rfl
  .refine dd ?_;exact bt _ _ (k1 gP dq) rfl rfl
 refine dd ?_;refine fu eG.row x.e2 32 (λd=>[]) (λd=>∀s∈d,acs s) ⟨by simp,rfl,rfl⟩ (λd y r ba aw be ag cB bt=>?_) (λba cB=>?_)
 .obtain⟨D,F,bO,cr⟩:=el y (by simp[aw]);have zy:(y.eu.map fS.row).length<100:=by rw[ex];exact bO
  unfold eG.row at ag;refine dk ?_;refine fu fS.row y.eu 36 (λd=>[]) (λd=>∀m∈d,sz m.args=false/\m.eW.ir<=8) ⟨by simp,rfl,rfl⟩ (λd2 z b3 gl fb be ag dq fj=>?_) (λgl dq=>?_)
  .obtain⟨_,aj,an,aM,_⟩:=cr z (by simp[fb]);have bs:=aM.2;unfold fS.row at ag;refine dk ?_;refine bn (Vo aa z.g z.args aj an) ?_;refine j0 (λh=>?_) (λgx=>?_)
   ·(conv=>whnf)
    repeat' (first|refine bZ ?_|refine a3 ?_|refine s2 ?_ ?_<;>intros|fail)<;>(conv=>whnf)
    all_goals exact⟨rfl,_,rfl,pN⟩
   refine N ?_;refine bn (F8 aa z.eW aM) ?_;refine rH (λh=>?_) (λs2=>?_)
   .exact i9
   refine N ?_;exact fj _ _ (k1 dq ⟨gx,s2⟩) rfl rfl
  .refine dd ?_;exact bt _ _ (k1 cB dq) rfl rfl
 refine dd ?_;refine fu em.row x.dn 41 (λd=>[]) (λd=>∀s∈d,s.bL.ir<=8) ⟨by simp,rfl,rfl⟩ (λd y r ba aw be ag gU bt=>?_) (λba gU=>?_)
 .obtain⟨_,_,_,g,_⟩:=e0 y (by simp[aw]);have bs:=g.2;unfold em.row at ag;refine dk ?_;refine bn (F8 aa y.bL g) ?_;refine rH (λh=>?_) (λs2=>?_)
  .exact i9
  refine N ?_;exact bt _ _ (k1 gU s2) rfl rfl
 refine dd ?_;refine fu cu.row x.funcs 46 (λd=>[]) (λd=>∀s∈d,Su s) ⟨by simp,rfl,rfl⟩ (λd y r ba aw be ag mX bt=>?_) (λba mX=>?_)
 .obtain⟨_,_,_,_,bO,cr,fK,hI⟩:=gB y (by simp[aw]);have zy:(y.args.map cG.row).length<100:=by rw[ex];exact bO
  have auB:=fK.2;unfold cu.row at ag;simp only[lJ,ps]at ag;refine dk ?_;refine bn (F8 aa y.eW fK) ?_;refine rH (λh=>?_) (λgx=>?_)
  ·(conv=>whnf)
   repeat' (first|refine bZ ?_|refine a3 ?_|refine s2 ?_ ?_<;>intros|fail)<;>(conv=>whnf)
   all_goals exact⟨rfl,_,rfl,pN⟩
  refine N ?_;refine bn (Ys aa y.body hI) ?_;refine j0 (λh=>?_) (λs2=>?_)
  .exact i9
  refine N ?_;refine fu cG.row y.args 51 (λd=>[]) (λd=>∀a∈d,Zb a) ⟨by simp,rfl,rfl⟩ (λd2 z b3 gl fb be ag dq fj=>?_) (λgl dq=>?_)
  .obtain⟨_,aj,an⟩:=cr z (by simp[fb]);have aM:=aj.2;unfold cG.row at ag;simp only[lJ,ps]at ag;refine dk ?_;refine bn (F8 aa z.bL aj) ?_;refine rH (λh=>?_) (λoV=>?_)
   ·(conv=>whnf)
    repeat' (first|refine bZ ?_|refine a3 ?_|refine s2 ?_ ?_<;>intros|fail)<;>(conv=>whnf)
    all_goals exact⟨rfl,_,rfl,pN⟩
   refine N ?_;refine bn (Ys aa z.gk an) ?_;refine j0 (λh=>?_) (λqy=>?_)
   .exact i9
   refine N ?_;exact fj _ _ (k1 dq ⟨oV,qy⟩) rfl rfl
  .refine dd ?_;exact bt _ _ (k1 mX ⟨gx,s2,dq⟩) rfl rfl
 refine dd ?_;exact⟨rfl,_,rfl,λ_=>⟨a7,gP,cB,gU,mX⟩⟩
end
end Go.Tx
