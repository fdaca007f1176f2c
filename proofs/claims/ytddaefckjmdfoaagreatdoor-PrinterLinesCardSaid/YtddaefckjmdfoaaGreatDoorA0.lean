/- Part of the proof of PrinterLines. -/
import Derived.Test.YtddaefckjmdfoaaGreatDoorX3
set_option linter.all false
namespace Go.Tx
open Go Go.Ev
set_option maxRecDepth 100000
set_option maxHeartbeats 8000000
attribute [local irreducible] jJ mb bj lQ kS nj ie fe
section
variable{C:Nat->cG}{ext:Nat->Option e0}{ab:fD}(Q:Env C ext ab)
include Q
def vk(b:Nat):Bool:=decide (97<=b/\b<=122\/65<=b/\b<=90)
def vu(b:Nat):Bool:=decide (48<=b/\b<=57)
def YQ(b:UInt8):bj C [] 72 [.J (.int 4 b.toNat)] [] λv A=>A=[]/\v=.bool (vk b.toNat):=by
 refine Q.z 72 cY rfl rfl ?_
 (conv=>whnf)
 repeat' (first|refine bn ?_|refine aN ?_|refine s2 ?_ ?_<;>intros|fail)<;>(conv=>whnf)
 all_goals(refine⟨rfl,?_⟩;congr 1;rw[Bool.eq_iff_iff];simp_all [vk,qL];try omega)
def aqm(b:UInt8):bj C [] 74 [.J (.int 4 b.toNat)] [] λv A=>A=[]/\v=.bool (vu b.toNat):=by
 refine Q.z 74 cY rfl rfl ?_
 (conv=>whnf)
 repeat' (first|refine bn ?_|refine aN ?_|refine s2 ?_ ?_<;>intros|fail)<;>(conv=>whnf)
 all_goals(refine⟨rfl,?_⟩;congr 1;rw[Bool.eq_iff_iff];simp_all [vu,qL];try omega)
def z3:List bM:=["library","client","interface","release","import","since","public","frozen","sealed","inline","indirect","struct","union","trait","conform","for","func","default","let","in","if","then","else","print","true","false","case","of","call","match","array","count","at","append","available","fail","byte","ord","with","Int","Byte","Bool","Array","Self"].map λs=>s.toUTF8.data.toList
def ahb:bj C [] 192 [] [] λv A=>A=[]/\∃g,v=.aQ g (z3.map cu):=by refine Q.z 192 cY rfl rfl ?_;refine aG ?_;exact⟨rfl,_,rfl⟩
def am7(s:bM):bj C [] 73 [.J (.str s)] [] λv A=>A=[]/\v=.bool (decide (s∈z3)):=by
 refine Q.z 73 (h9 [(0,[2,6,7],[])]) rfl rfl ?_;refine aG ?_;refine aK (ahb Q) ?_;rintro v A ⟨rfl,g,rfl⟩;refine aG ?_;have fy:(z3.map cu).length<1000:=ag;refine gE cu z3 5 (λ_=>[]) (λd=>s∉d) ⟨by simp,rfl,rfl⟩ (λd x r ba K aV ad bo bC=>?_) (λba bo=>?_)
 .refine dx ?_;refine LQ (λar=>?_) (λar=>?_)
  .refine aG ?_;exact⟨rfl,by rw[K,ar];simp⟩
  .refine aG ?_;exact bC _ _ (Uv bo ar) rfl rfl
 .refine de ?_;exact⟨rfl,by rw[qO bo]⟩
def gR(s:bM):Bool:=decide (s≠[]/\s.length<=16/\vk (s.headD 0).toNat=true/\s∉z3/\∀b∈s,vk b.toNat=true\/vu b.toNat=true)
def pg(s:bM)(ak:s.length<1000):bj C [] 24 [.J (.str s)] [] λv A=>A=[]/\v=.bool (gR s):=by
 refine Q.z 24 (h9 [(0,[4,5],[])]) rfl rfl ?_;rcases s with _|⟨b,t⟩
 ·(conv=>whnf)
  repeat' (first|refine bn ?_|refine aN ?_|refine s2 ?_ ?_<;>intros|fail)<;>(conv=>whnf)
  all_goals exact⟨rfl,by simp [gR]⟩
 refine aG ?_;refine LQ (λar=>by cases ar) (λar=>?_);refine aG ?_;refine ry (λCQ=>?_) (λCQ=>?_)
 ·(conv=>whnf)
  repeat' (first|refine bn ?_|refine aN ?_|refine s2 ?_ ?_<;>intros|fail)<;>(conv=>whnf)
  all_goals exact⟨rfl,by simp [gR];intros;simp at CQ;omega⟩
 refine aG ?_;refine⟨by simp,⟨b,rfl,?_⟩⟩;refine aG ?_;refine cj (YQ Q b) ?_;refine lz (jB (λK=>?_) (λK=>?_))
 .refine aG ?_;refine cj (am7 Q (b::t)) ?_;refine jB (λad=>?_) (λad=>?_)
  .refine aG ?_;exact⟨rfl,by simp at ad;simp [gR,ad]⟩
  refine aG ?_;refine aaF (b::t).length 2 (λ_=>[]) (λi=>∀x∈(b::t).take i,vk x.toNat=true\/vu x.toNat=true) ⟨by simp,rfl,rfl⟩ (λi ba aH bo bC=>?_) (λba bo=>?_)
  ·(conv=>whnf)
   repeat(first|refine .yes (cZ.2 aH) ?_|refine⟨aH,⟨_,na aH,?_⟩⟩|refine bn ?_);(conv=>whnf)
   refine cj (YQ Q _) ?_;have dC:∀(I:vk (b::t)[i].toNat=true\/vu (b::t)[i].toNat=true),∀x∈(b::t).take (i+1),vk x.toNat=true\/vu x.toNat=true:=by
    intro I x hm;rw[S4 aH] at hm;rcases jD.1 hm with h|h
    .exact bo x h
    .rw[iF.1 h];exact I
   refine lz (jB (λB=>?_) (λB=>?_))
   .refine aG ?_;exact bC _ _ (dC (.inl B)) rfl rfl
   ·(conv=>whnf)
    repeat(first|refine⟨aH,⟨_,na aH,?_⟩⟩|refine bn ?_);(conv=>whnf)
    refine cj (aqm Q _) ?_;refine lz (jB (λF=>?_) (λF=>?_))
    .refine aG ?_;exact bC _ _ (dC (.inr F)) rfl rfl
    .refine aG ?_;refine⟨rfl,?_⟩;have:gR (b::t)=false:=by
      unfold gR;refine qO λh=>?_;rcases h.2.2.2.2 _ (Jn aH) with h|h
      .rw[B] at h;cases h
      .rw[F] at h;cases h
     rw[this]
  ·(conv=>whnf)
   repeat(first|refine .no (lZ _) ?_|refine bn ?_);(conv=>whnf)
   refine⟨rfl,?_⟩;have:gR (b::t)=true:=by unfold gR;rw[H5] at bo;exact iX ⟨by simp,CQ,K,by simpa using ad,bo⟩
   rw[this]
 ·(conv=>whnf)
  repeat' (first|refine bn ?_|refine aN ?_|refine s2 ?_ ?_<;>intros|fail)<;>(conv=>whnf)
  all_goals exact⟨rfl,by simp [gR,K]⟩
def MX(g)(l:List bM)(K:(l.map cu).length<1000)(ak:∀s∈l,s.length<1000):bj C [] 28 [.J (.aQ g (l.map cu))] [] λv A=>A=[]/\v=.bool (l.all gR):=by
 refine Q.z 28 (h9 [(0,[2,6,7],[])]) rfl rfl ?_;refine aG ?_;refine gE cu l 5 (λ_=>[]) (λd=>d.all gR=true) ⟨rfl,rfl,rfl⟩ (λd x r ba ar aV ad bo bC=>?_) (λba bo=>?_)
 .refine dx ?_;refine cj (pg Q x (ak x (by simp [ar]))) ?_;refine lz (jB (λB=>?_) (λB=>?_))
  .refine aG ?_;exact bC _ _ (Bn bo B) rfl rfl
  .refine aG ?_;exact⟨rfl,by rw[QB ar B]⟩
 .refine de ?_;exact⟨rfl,by rw[bo]⟩
def qu(s:bM):Bool:=if 46∈s then gR (s.take (s.idxOf 46))&&gR (s.drop (s.idxOf 46+1)) else gR s
omit Q in
def SZ{α:Type}[DecidableEq α]{a}:∀{s:List α}{i}(aH:i<s.length),a∉s.take i->s[i]=a->s.idxOf a=i
 |[],i,aH,_,_=>by simp at aH
 |b::s,0,_,_,h=>by simp at h;simp [h]
 |b::s,i+1,aH,h,b5=>by simp at h;have B:a∉s.take i:=λhm=>h.2 hm;have:=SZ (by simpa using aH) B (by simpa using b5);rw[List.idxOf_cons,this,show(b==a)=false from by simpa using λe=>h.1 e.symm];rfl
def Gj(s:bM)(ak:s.length<1000):bj C [] 77 [.J (.str s)] [] λv A=>A=[]/\v=.bool (qu s):=by
 refine Q.z 77 (h9 [(0,[3,4],[])]) rfl rfl ?_;refine aG ?_;refine aaF s.length 2 (λ_=>[]) (λi=>46∉s.take i) ⟨by simp,rfl,rfl⟩ (λi ba aH bo bC=>?_) (λba bo=>?_)
 ·(conv=>whnf)
  repeat(first|refine .yes (cZ.2 aH) ?_|refine⟨aH,⟨_,na aH,?_⟩⟩|refine bn ?_);(conv=>whnf)
  refine aep (λar=>?_) (λar=>?_)
  .have av:s[i]=46:=HN.1 ar;have ax:qu s=(gR (s.take i)&&gR (s.drop (i+1))):=by unfold qu;rw[b3 (av▸Jn aH),SZ aH bo av]
   (conv=>whnf)
   repeat(first|refine⟨by omega,?_⟩|refine bn ?_);(conv=>whnf)
   refine cT (pg Q (s.take i) (by rw[jC];omega)) ?_
   (conv=>whnf)
   repeat' (first|refine⟨by omega,?_⟩|refine cT (pg Q ((s.drop (i+1)).take (s.length - (i+1))) (by rw[jC,lu];omega)) ?_|refine bn ?_|refine aN ?_|refine s2 ?_ ?_<;>intros|fail)<;>(conv=>whnf)
   all_goals(refine⟨rfl,?_⟩;rw[ax];simp_all [Uh])
  .refine aG ?_;refine bC _ _ ?_ rfl rfl;rw[S4 aH];exact Uv bo λe=>ar (by rw[e];rfl)
 ·(conv=>whnf)
  repeat(first|refine .no (lZ _) ?_|refine bn ?_);(conv=>whnf)
  refine cj (pg Q s ak) ?_;refine⟨rfl,?_⟩;rw[H5] at bo;unfold qu;rw[bA bo]
def AM(s:bM):Bool:=decide (s∈[[73,110,116],[66,121,116,101],[66,111,111,108],[65,114,114,97,121],[83,101,108,102]])
mutual
def ai.mw:ai->Bool
 |.mk aR _ l=>(AM aR||qu aR)&&ai.OX l
def ai.OX:List ai->Bool
 |[]=>true
 |a::l=>a.mw&&ai.OX l
end
omit Q in
def ai.Q0:∀l,ai.OX l=l.all ai.mw
 |[]=>rfl
 |a::l=>by rw[ai.OX,ai.Q0 l];rfl
omit Q in
def ai.aqc(t:ai):t.mw=((AM t.aR||qu t.aR)&&t.l.all ai.mw):=by cases t;rw[ai.mw,ai.Q0];rfl
def Xl(g)(l:List ai)(K:(l.map ai.row).length<1000)(aw:∀t∈l,bj C [] 29 [.J (.agg t.cells)] [] λv A=>A=[]/\v=.bool t.mw):bj C [] 30 [.J (.aQ g (l.map ai.row))] [] λv A=>A=[]/\v=.bool (l.all ai.mw):=by
 refine Q.z 30 (h9 [(0,[2,6,7],[])]) rfl rfl ?_;refine aG ?_;refine gE ai.row l 5 (λ_=>[]) (λd=>d.all ai.mw=true) ⟨rfl,rfl,rfl⟩ (λd x r ba ar aV ad bo bC=>?_) (λba bo=>?_)
 .rw[ai.dF] at ad;refine dx ?_;refine cj (aw x (by simp [ar])) ?_;refine lz (jB (λB=>?_) (λB=>?_))
  .refine aG ?_;exact bC _ _ (Bn bo B) rfl rfl
  .refine aG ?_;exact⟨rfl,by rw[QB ar B]⟩
 .refine de ?_;exact⟨rfl,by rw[bo]⟩
def aoB(t:ai)(al:t.aR.length<1000)(aw:bj C [] 30 [.J (.aQ t.g (t.l.map ai.row))] [] λv A=>A=[]/\v=.bool (t.l.all ai.mw)):bj C [] 29 [.J (.agg t.cells)] [] λv A=>A=[]/\v=.bool t.mw:=by
 refine Q.z 29 cY rfl rfl ?_
 (conv=>whnf)
 repeat' (first|refine cT (Gj Q t.aR al) ?_|refine cT aw ?_|refine bn ?_|refine aN ?_|refine s2 ?_ ?_<;>intros|fail)<;>(conv=>whnf)
 all_goals(refine⟨rfl,?_⟩;rw[ai.aqc];simp_all [AM])
def Fg:∀(t:ai),t.ok->bj C [] 29 [.J (.agg t.cells)] [] λv A=>A=[]/\v=.bool t.mw:=
 ai.ind λt bB h=>by rw[ai.u2] at h;exact aoB Q _ h.1 (Xl Q t.g t.l (by rw[dt];omega) λx I=>bB x I (h.2.2 x I))
def UC(g)(l:List ai)(h:l.length<100)(K:∀x∈l,x.ok):bj C [] 30 [.J (.aQ g (l.map ai.row))] [] λv A=>A=[]/\v=.bool (l.all ai.mw):=Xl Q g l (by rw[dt];omega) λt al=>Fg Q t (K t al)
end
section
variable{C:Nat->cG}{ext:Nat->Option e0}{ab:fD}(Q:Env C ext ab)
include Q
mutual
def ai.ir:ai->Bool
 |.mk _ _ l=>decide (l.length<=4)&&ai.y5 l
def ai.y5:List ai->Bool
 |[]=>true
 |a::l=>a.ir&&ai.y5 l
end
omit Q in
def ai.F8:∀l,ai.y5 l=l.all ai.ir
 |[]=>rfl
 |a::l=>by rw[ai.y5,ai.F8 l];rfl
omit Q in
def ai.Ls(t:ai):t.ir=(decide (t.l.length<=4)&&t.l.all ai.ir):=by cases t;rw[ai.ir,ai.F8];rfl
def adS(g)(l:List ai)(K:(l.map ai.row).length<1000)(aw:∀t∈l,bj C [] 196 [.J (.agg t.cells)] [] λv A=>A=[]/\v=.bool t.ir):bj C [] 197 [.J (.aQ g (l.map ai.row))] [] λv A=>A=[]/\v=.bool (l.all ai.ir):=by
 refine Q.z 197 (h9 [(0,[2,6,7],[])]) rfl rfl ?_;refine aG ?_;refine gE ai.row l 5 (λ_=>[]) (λd=>d.all ai.ir=true) ⟨rfl,rfl,rfl⟩ (λd x r ba ar aV ad bo bC=>?_) (λba bo=>?_)
 .rw[ai.dF] at ad;refine dx ?_;refine cj (aw x (by simp [ar])) ?_;refine lz (jB (λB=>?_) (λB=>?_))
  .refine aG ?_;exact bC _ _ (Bn bo B) rfl rfl
  .refine aG ?_;exact⟨rfl,by rw[QB ar B]⟩
 .refine de ?_;exact⟨rfl,by rw[bo]⟩
def alC(t:ai)(al:(t.l.map ai.row).length<1000)(aw:bj C [] 197 [.J (.aQ t.g (t.l.map ai.row))] [] λv A=>A=[]/\v=.bool (t.l.all ai.ir)):bj C [] 196 [.J (.agg t.cells)] [] λv A=>A=[]/\v=.bool t.ir:=by
 refine Q.z 196 cY rfl rfl ?_
 (conv=>whnf)
 repeat' (first|refine cT aw ?_|refine bn ?_|refine aN ?_|refine s2 ?_ ?_<;>intros|fail)<;>(conv=>whnf)
 all_goals(refine⟨rfl,?_⟩;rw[ai.Ls];simp_all)
 all_goals(intros;omega)
def F9:∀(t:ai),t.ok->bj C [] 196 [.J (.agg t.cells)] [] λv A=>A=[]/\v=.bool t.ir:=
 ai.ind λt bB h=>by
  rw[ai.u2] at h;have K:(t.l.map ai.row).length<1000:=by rw[dt];omega
  exact alC Q _ K (adS Q t.g t.l K λx I=>bB x I (h.2.2 x I))
def U0(g)(l:List ai)(h:l.length<100)(K:∀x∈l,x.ok):bj C [] 197 [.J (.aQ g (l.map ai.row))] [] λv A=>A=[]/\v=.bool (l.all ai.ir):=adS Q g l (by rw[dt];omega) λt al=>F9 Q t (K t al)
def alI(t:ai)(al:t.bL)(aw:∀x∈t.l,bj C [] 193 [.J (.agg x.cells)] [] λv A=>A=[]/\v=.int 3 x.gi):bj C [] 193 [.J (.agg t.cells)] [] λv A=>A=[]/\v=.int 3 t.gi:=by
 refine Q.z 193 (h9 [(0,[4,8],[1])]) rfl rfl ?_;have fy:=al.len;have aJ:=al.2;rw[ai.o1] at aJ;refine aG ?_;refine gE ai.row t.l 7 (λd=>[(3,.J (.int 3 (ai.e6 d)))]) (λ_=>True) ⟨trivial,rfl,rfl⟩ (λd x r ba ar aV ad bo bC=>?_) (λba bo=>?_)
 .rw[ai.dF] at ad;have I:x∈t.l:=by simp [ar]
  have B:=ai.ue I;have F:ai.e6 d<=ai.e6 t.l:=by rw[ar];exact ai.Fo _ _
  refine dx ?_;refine cj (aw x I) ?_;exact bC _ _ trivial (by rw[ai.zp];rfl) rfl
 .refine de ?_;exact⟨rfl,by rw[ai.o1]⟩
def F0:∀(t:ai),t.bL->bj C [] 193 [.J (.agg t.cells)] [] λv A=>A=[]/\v=.int 3 t.gi:=
 ai.ind λt bB h=>alI Q t h λx I=>bB x I (h.p6 I)
def tj(l:List ai):Bool:=l.any λt=>decide (8<t.gi)
def Pv(g)(l)(h:l.length<100)(K:∀x∈l,x.bL):bj C [] 194 [.J (.aQ g (l.map ai.row))] [] λv A=>A=[]/\v=.bool (tj l):=by
 refine Q.z 194 (h9 [(0,[2,6,7],[])]) rfl rfl ?_;have fy:(l.map ai.row).length<100:=by rw[dt];exact h
 refine aG ?_;refine gE ai.row l 5 (λ_=>[]) (λd=>tj d=false) ⟨rfl,rfl,rfl⟩ (λd x r ba ar aV ad bo bC=>?_) (λba bo=>?_)
 .rw[ai.dF] at ad;have I:x.bL:=K x (by simp [ar]);have lq:=I.2;refine dx ?_;refine cj (F0 Q x I) ?_;refine ry (λB=>?_) (λB=>?_)
  .refine aG ?_;exact⟨rfl,by rw[ar];simp [tj,B]⟩
  .refine aG ?_;exact bC _ _ (by simp_all [tj]) rfl rfl
 .refine de ?_;exact⟨rfl,by rw[bo]⟩
def ao7(t:aj)(al:t.bL)(aw:∀x∈t.kids,bj C [] 266 [.J (.agg x.cells)] [] λv A=>A=[]/\v=.int 3 x.gi):bj C [] 266 [.J (.agg t.cells)] [] λv A=>A=[]/\v=.int 3 t.gi:=by
 refine Q.z 266 (h9 [(0,[4,8],[1])]) rfl rfl ?_;have fy:=al.len;have aJ:=al.2;have fZ:=aj.KT t;rw[aj.o1] at fZ;refine aG ?_;refine gE aj.row t.kids 7 (λd=>[(3,.J (.int 3 (aj.e6 d)))]) (λ_=>True) ⟨trivial,rfl,rfl⟩ (λd x r ba ar aV ad bo bC=>?_) (λba bo=>?_)
 .rw[aj.dF] at ad;have I:x∈t.kids:=by simp [ar]
  have B:=aj.ue I;have F:aj.e6 d<=aj.e6 t.kids:=by rw[ar];exact aj.Fo _ _
  refine dx ?_;refine cj (aw x I) ?_;exact bC _ _ trivial (by rw[aj.zp];rfl) rfl
 .refine de ?_;exact⟨rfl,by rw[aj.o1]⟩
def af8:∀(t:aj),t.bL->bj C [] 266 [.J (.agg t.cells)] [] λv A=>A=[]/\v=.int 3 t.gi:=
 aj.ind λt bB h=>ao7 Q t h λx I=>bB x I (h.p6 I)
def ap8(t:aj)(al:t.bL)(aw:∀x∈t.kids,bj C [] 268 [.J (.agg x.cells)] [] λv A=>A=[]/\v=.int 3 x.size):bj C [] 268 [.J (.agg t.cells)] [] λv A=>A=[]/\v=.int 3 t.size:=by
 refine Q.z 268 (h9 [(0,[4,8],[1])]) rfl rfl ?_;have fy:=al.len;have aJ:=al.2;rw[aj.size_eq] at aJ;refine aG ?_;refine gE aj.row t.kids 7 (λd=>[(3,.J (.int 3 (1+aj.e1 d)))]) (λ_=>True) ⟨trivial,rfl,rfl⟩ (λd x r ba ar aV ad bo bC=>?_) (λba bo=>?_)
 .rw[aj.dF] at ad;have I:x∈t.kids:=by simp [ar]
  have F:aj.e1 d+(x.size+aj.e1 r)=aj.e1 t.kids:=by rw[ar,aj.JK];rfl
  refine dx ?_;refine cj (aw x I) ?_;exact bC _ _ trivial (by rw[aj.JK,show aj.e1 [x]=x.size by simp [aj.e1],<-tI];rfl) rfl
 .refine de ?_;exact⟨rfl,by rw[aj.size_eq,t8]⟩
def afa:∀(t:aj),t.bL->bj C [] 268 [.J (.agg t.cells)] [] λv A=>A=[]/\v=.int 3 t.size:=
 aj.ind λt bB h=>ap8 Q t h λx I=>bB x I (h.p6 I)
end
section
variable{C:Nat->cG}{ext:Nat->Option e0}{ab:fD}(Q:Env C ext ab)
include Q
mutual
def aj.tz:aj->Bool
 |.mk _ _ _ _ _ types _ _ _ _ _ l _ _=>tj types||aj.MW l
def aj.MW:List aj->Bool
 |[]=>false
 |a::l=>a.tz||aj.MW l
end
omit Q in
def aj.QV:∀l,aj.MW l=l.any aj.tz
 |[]=>rfl
 |a::l=>by rw[aj.MW,aj.QV l];rfl
omit Q in
def aj.Ql(t:aj):t.tz=(tj t.types||t.kids.any aj.tz):=by cases t;rw[aj.tz,aj.QV];rfl
omit Q in
def QU{α:Type}{N}{d:List α}{x}(h:d.any N=false)(I:N x=false):(d++[x]).any N=false:=by simp_all
omit Q in
def Ts{α:Type}{N}{l d r:List α}{x}(K:l=d++x::r)(I:N x):l.any N:=by subst K;simp [I]
def aqj(t:aj)(al:t.bL)(aw:∀x∈t.kids,bj C [] 267 [.J (.agg x.cells)] [] λv A=>A=[]/\v=.bool x.tz):bj C [] 267 [.J (.agg t.cells)] [] λv A=>A=[]/\v=.bool t.tz:=by
 refine Q.z 267 (h9 [(0,[3,8,9],[1])]) rfl rfl ?_;have fy:=al.len;have B:=al.one;refine aG ?_;refine cj (Pv Q t.g1 t.types B.2.2.1 B.2.2.2.1) ?_;refine jB (λaJ=>?_) (λaJ=>?_)
 .refine aG ?_;exact⟨rfl,by rw[aj.Ql,aJ];rfl⟩
 refine aG ?_;refine gE aj.row t.kids 7 (λd=>[]) (λd=>d.any aj.tz=false) ⟨rfl,rfl,rfl⟩ (λd x r ba ar aV ad bo bC=>?_) (λba bo=>?_)
 .rw[aj.dF] at ad;refine dx ?_;refine cj (aw x (by simp [ar])) ?_;refine jB (λF=>?_) (λF=>?_)
  .refine aG ?_;exact⟨rfl,by rw[aj.Ql,Ts ar F];simp⟩
  .refine aG ?_;exact bC _ _ (QU bo F) rfl rfl
 .refine de ?_;exact⟨rfl,by rw[aj.Ql,aJ,bo];rfl⟩
def al2:∀(t:aj),t.bL->bj C [] 267 [.J (.agg t.cells)] [] λv A=>A=[]/\v=.bool t.tz:=
 aj.ind λt bB h=>aqj Q t h λx I=>bB x I (h.p6 I)
def aev(t:aj)(al:t.bL):bj C [] 195 [.J (.agg t.cells)] [] λv A=>A=[]/\v=.bool (decide (40<t.gi)||t.tz):=by
 refine Q.z 195 cY rfl rfl ?_;have aJ:=al.2;have fZ:=aj.KT t;refine aG ?_;refine cT (af8 Q t al) ?_
 (conv=>whnf)
 repeat' (first|refine cT (al2 Q t al) ?_|refine bn ?_|refine aN ?_|refine s2 ?_ ?_<;>intros|fail)<;>(conv=>whnf)
 all_goals(refine⟨rfl,?_⟩;simp_all)
 all_goals(intros;omega)
def yN(l:List cX):Bool:=decide (l.length<=4)&&l.all λx=>decide (x.dZ.length<=3)
def Za(g)(l)(h:l.length<100)(K:∀x∈l,x.dZ.length<100):bj C [] 198 [.J (.aQ g (l.map cX.row))] [] λv A=>A=[]/\v=.bool (yN l):=by
 refine Q.z 198 (h9 [(0,[2,6,7],[])]) rfl rfl ?_;have fy:(l.map cX.row).length<100:=by rw[dt];exact h
 refine aG ?_;refine gE cX.row l 5 (λ_=>[]) (λd=>d.all (λx=>decide (x.dZ.length<=3))=true) ⟨rfl,rfl,rfl⟩ (λd x r ba ar aV ad bo bC=>?_) (λba bo=>?_)
 .have I:(x.dZ.map cu).length<100:=by rw[dt];exact K x (by simp [ar])
  unfold cX.row at ad;refine dx ?_;refine ry (λB=>?_) (λB=>?_)
  .refine aG ?_;rw[dt] at B;exact⟨rfl,by rw[ar];simp [yN];intros;omega⟩
  .refine aG ?_;rw[dt] at B;exact bC _ _ (Bn bo (iX B)) rfl rfl
 .refine de ?_;exact⟨rfl,by rw[yN,bo,qL,dt];simp⟩
def O2(l:List fC):Bool:=l.all λx=>decide (x.names.length<=12)
def L0(k n:Nat):Bool:=decide ((k=9\/k=10->n<=6)/\(k=14->n<=12)/\(k=16->n<=200))
def aj.NM(e:aj):Bool:=decide (e.types.length<=4)&&e.types.all ai.ir&&decide (e.fM.length<=12)&&decide (e.fV.length<=13)&&L0 e.kind e.kids.length&&O2 e.fV
mutual
def aj.ir:aj->Bool
 |.mk bN a2 a3 a4 a5 dR en nX a9 qf o4 l uF yA=>aj.NM (.mk bN a2 a3 a4 a5 dR en nX a9 qf o4 l uF yA)&&aj.y5 l
def aj.y5:List aj->Bool
 |[]=>true
 |a::l=>a.ir&&aj.y5 l
end
omit Q in
def aj.F8:∀l,aj.y5 l=l.all aj.ir
 |[]=>rfl
 |a::l=>by rw[aj.y5,aj.F8 l];rfl
omit Q in
def aj.Ls(t:aj):t.ir=(t.NM&&t.kids.all aj.ir):=by cases t;rw[aj.ir,aj.F8];rfl
def amh(t:aj)(al:t.bL)(aw:∀x∈t.kids,bj C [] 269 [.J (.agg x.cells)] [] λv A=>A=[]/\∃b,v=.bool b/\(b->x.ir)):bj C [] 269 [.J (.agg t.cells)] [] λv A=>A=[]/\∃b,v=.bool b/\(b->t.ir):=by
 refine Q.z 269 (h9 [(1,[4,17,18],[1]),(3,[5,22,23],[1])]) rfl rfl ?_;have fy:=al.len;have B:=al.one;have df:(t.types.map ai.row).length<100:=by rw[dt];exact B.2.2.1
 have cH:(t.fM.map cu).length<100:=by rw[dt];exact B.2.2.2.2.1
 have dh:(t.fV.map fC.row).length<100:=by rw[dt];exact B.2.2.2.2.2.2.1
 refine aG ?_;refine ry (λh=>?_) (λxE=>?_)
 .exact iY
 refine aG ?_;refine cj (U0 Q t.g1 t.types B.2.2.1 λx I=>(B.2.2.2.1 x I).1) ?_;refine lz (jB (λahq=>?_) (λ_=>?_));rotate_left
 .exact iY
 refine aG ?_;refine ry (λh=>?_) (λaeJ=>?_)
 .exact iY
 refine aG ?_;refine ry (λh=>?_) (λuF=>?_)
 .exact iY
 (conv=>whnf)
 repeat' (first|refine bn ?_|refine aN ?_|refine s2 ?_ ?_<;>intros|fail)<;>(conv=>whnf)
 all_goals try exact⟨rfl,_,rfl,jw⟩
 all_goals
  have K:(t.kids.map aj.row).length=t.kids.length:=bW
  have az:L0 t.kind t.kids.length=true:=iX Y
  refine gE fC.row t.fV 16 (λd=>[]) (λd=>O2 d=true) ⟨rfl,rfl,rfl⟩ (λd x r ba ar aV ad bo bC=>?_) (λba bo=>?_)
  .have I:(x.names.map cu).length<100:=by rw[dt];exact(B.2.2.2.2.2.2.2.1 x (by simp [ar])).2.1
   unfold fC.row at ad;refine dx ?_;refine ry (λF=>?_) (λF=>?_)
   .exact iY
   refine aG ?_;rw[dt] at F;exact bC _ _ (Bn bo (iX F)) rfl rfl
  .refine de ?_;refine gE aj.row t.kids 21 (λd=>[]) (λd=>d.all aj.ir=true) ⟨rfl,rfl,rfl⟩ (λd x r ba ar aV ad dp bC=>?_) (λba dp=>?_)
   .rw[aj.dF] at ad;refine dx ?_;refine aK (aw x (by simp [ar])) ?_;rintro v A ⟨rfl,b,rfl,av⟩;refine aG ?_;refine lz (jB (λF=>?_) (λF=>?_))
    .refine aG ?_;exact bC _ _ (Bn dp (av F)) rfl rfl
    .exact iY
   .refine de ?_;refine⟨rfl,_,rfl,λ_=>?_⟩;simp only[dt] at xE aeJ uF;rw[aj.Ls,dp,aj.NM,az,bo,ahq];simp [xE,aeJ,uF]
def afT:∀(t:aj),t.bL->bj C [] 269 [.J (.agg t.cells)] [] λv A=>A=[]/\∃b,v=.bool b/\(b=true->t.ir=true):=
 aj.ind λt bB h=>amh Q t h λx I=>bB x I (h.p6 I)
def HL(t:aj):Prop:=t.size<=2000/\t.ir=true
def adV(t:aj)(al:t.bL):bj C [] 199 [.J (.agg t.cells)] [] λv A=>A=[]/\∃b,v=.bool b/\(b=true->HL t):=by
 refine Q.z 199 cY rfl rfl ?_;have aJ:=al.2;refine aG ?_;refine cj (afa Q t al) ?_;refine Xg (λB=>?_) (λB=>?_)
 .refine aG ?_;refine aK (afT Q t al) ?_;rintro v A ⟨rfl,b,rfl,av⟩;refine aG ?_;exact⟨rfl,_,rfl,λh=>⟨B,av h⟩⟩
 .exact iY
end
section
variable{C:Nat->cG}{ext:Nat->Option e0}{ab:fD}(Q:Env C ext ab)
include Q
omit Q in
def ku{α:Type}{N:α->Prop}{d:List α}{x}(h:∀y∈d,N y)(I:N x):∀y∈d++[x],N y:=by
 intro y ap;rcases jD.1 ap with ap|ap
 .exact h y ap
 .rw[iF.1 ap];exact I
def adf(n)(aB:n<9223372036854775808):bj C [] 25 [.J (.int 3 n)] [] λv A=>A=[]/\v=.bool (decide (1<=n/\n<=1000)):=by
 refine Q.z 25 cY rfl rfl ?_
 (conv=>whnf)
 repeat' (first|refine bn ?_|refine aN ?_|refine s2 ?_ ?_<;>intros|fail)<;>(conv=>whnf)
 all_goals(refine⟨rfl,?_⟩;simp_all [qL])
def Nv(n)(aB:n<9223372036854775808):bj C [] 27 [.J (.int 3 n)] [] λv A=>A=[]/\v=.bool (decide (n<=1000)):=by
 refine Q.z 27 cY rfl rfl ?_
 (conv=>whnf)
 repeat' (first|refine bn ?_|refine aN ?_|refine s2 ?_ ?_<;>intros|fail)<;>(conv=>whnf)
 all_goals(refine⟨rfl,?_⟩;simp_all [qL])
def XW(g)(l:List cX)(h:l.length<100)(K:∀x∈l,x.aR.length<1000/\x.dZ.length<100/\∀s∈x.dZ,s.length<1000):bj C [] 78 [.J (.aQ g (l.map cX.row))] [] λv A=>A=[]/\∃b,v=.bool b/\(b->∀x∈l,gR x.aR/\x.dZ.all qu):=by
 refine Q.z 78 (h9 [(0,[2,3,7,8,9,10,11,12,13],[]),(2,[3,12,13],[4])]) rfl rfl ?_;have fy:(l.map cX.row).length<100:=by rw[dt];exact h
 refine aG ?_;refine gE cX.row l 6 (λd=>[]) (λd=>∀x∈d,gR x.aR=true/\x.dZ.all qu=true) ⟨by simp,rfl,rfl⟩ (λd x r ba ar aV ad bo bC=>?_) (λba bo=>?_)
 .obtain⟨Ft,lq,XX⟩:=K x (by simp [ar]);have amp:(x.dZ.map cu).length<100:=by rw[dt];exact lq
  unfold cX.row at ad;refine dx ?_;refine cj (pg Q x.aR Ft) ?_;refine lz (jB (λB=>?_) (λB=>?_));rotate_left
  .exact iY
  refine aG ?_;refine gE cu x.dZ 11 (λd=>[]) (λd=>d.all qu=true) ⟨rfl,rfl,rfl⟩ (λd2 y cl fJ eu aV ad dp eG=>?_) (λfJ dp=>?_)
  .refine dx ?_;refine cj (Gj Q y (XX y (by simp [eu]))) ?_;refine lz (jB (λF=>?_) (λF=>?_));rotate_left
   .exact iY
   refine aG ?_;exact eG _ _ (Bn dp F) rfl rfl
  .refine de ?_;exact bC _ _ (ku bo ⟨B,dp⟩) rfl rfl
 .refine de ?_;exact⟨rfl,_,rfl,λ_=>bo⟩
def fW.ok(x:fW):Prop:=x.aR.length<1000/\x.args.length<100/\(∀t∈x.args,t.bL)/\x.fk.bL/\x.gM.length<1000
def eX.ok(x:eX):Prop:=x.since<9223372036854775808/\x.aR.length<1000/\x.fT.length<100/\∀m∈x.fT,m.ok
def cX.ok(x:cX):Prop:=x.aR.length<1000/\x.dZ.length<100/\∀s∈x.dZ,s.length<1000
def i3.ok(x:i3):Prop:=x.yR.length<1000/\x.func.length<1000
def fc.ok(x:fc):Prop:=x.zO.length<1000/\x.fg.length<100/\(∀g∈x.fg,g.ok)/\x.bK.bL/\x.binds.length<100/\∀b∈x.binds,b.ok
def eF.ok(x:eF):Prop:=x.aR.length<1000/\x.bK.bL
def ec.ok(x:ec):Prop:=x.since<9223372036854775808/\x.aR.length<1000/\x.params.length<100/\(∀s∈x.params,s.length<1000)/\x.fields.length<100/\∀f∈x.fields,f.ok
def eP.ok(x:eP):Prop:=x.aR.length<1000/\x.f8.length<100/\∀t∈x.f8,t.bL
def eg.ok(x:eg):Prop:=x.since<9223372036854775808/\x.aR.length<1000/\x.params.length<100/\(∀s∈x.params,s.length<1000)/\x.cases.length<100/\∀f∈x.cases,f.ok
def cD.ok(x:cD):Prop:=x.aR.length<1000/\x.bK.bL/\x.gM.bL
def dI.ok(x:dI):Prop:=x.since<9223372036854775808/\x.aR.length<1000/\x.fg.length<100/\(∀g∈x.fg,g.ok)/\x.args.length<100/\(∀a∈x.args,a.ok)/\x.fk.bL/\x.body.bL
def kx.ok(x:kx):Prop:=x.aR.length<1000/\x.rel<9223372036854775808
def cV.ok(x:cV):Prop:=x.kind<9223372036854775808/\x.rel<9223372036854775808/\x.aR.length<1000/\x.lf.length<100/\(∀y∈x.lf,y.ok)/\x.ea.length<100/\(∀y∈x.ea,y.ok)/\x.dW.length<100/\(∀y∈x.dW,y.ok)/\
 x.e7.length<100/\(∀y∈x.e7,y.ok)/\x.ed.length<100/\(∀y∈x.ed,y.ok)/\x.funcs.length<100/\(∀y∈x.funcs,y.ok)
def Zo(x:fW):Prop:=gR x.aR=true/\x.args.all ai.mw=true/\x.fk.mw=true/\(x.gM=[]\/qu x.gM=true)
def PF(x:eX):Prop:=x.since<=1000/\gR x.aR=true/\∀m∈x.fT,Zo m
def am8(x:cV)(I:x.ok):bj C [] 31 [.J (.agg x.cells)] [] λv A=>A=[]/\∃b,v=.bool b/\(b=true->∀t∈x.e7,PF t):=by
 refine Q.z 31 (h9 [(0,[3,4,8,9,10,11,12,13,14],[1]),(2,[4,13,14],[1])]) rfl rfl ?_;obtain⟨_,_,_,_,_,_,_,_,_,K,al,_⟩:=I;have fy:(x.e7.map eX.row).length<100:=by rw[dt];exact K
 refine aG ?_;refine gE eX.row x.e7 7 (λd=>[]) (λd=>∀t∈d,PF t) ⟨by simp,rfl,rfl⟩ (λd y r ba ar aV ad bo bC=>?_) (λba bo=>?_)
 .obtain⟨B,F,ah,aE⟩:=al y (by simp [ar]);have wC:(y.fT.map fW.row).length<100:=by rw[dt];exact ah
  unfold eX.row at ad;refine dx ?_;refine cj (Nv Q y.since B) ?_;refine lz (jB (λeK=>?_) (λ_=>?_));rotate_left
  .exact iY
  refine aG ?_;refine cj (pg Q y.aR F) ?_;refine lz (jB (λs2=>?_) (λ_=>?_));rotate_left
  .exact iY
  (conv=>whnf)
  repeat refine bn ?_;(conv=>whnf)
  refine gE fW.row y.fT 12 (λd=>[]) (λd=>∀t∈d,Zo t) ⟨by simp,rfl,rfl⟩ (λd2 z cl fJ eu aV ad dp eG=>?_) (λfJ dp=>?_)
  .obtain⟨g1,g2,g3,g4,g5⟩:=aE z (by simp [eu]);unfold fW.row at ad
   (conv=>whnf)
   repeat(first|refine .yes (cZ.2 aV) ?_|refine⟨aV,⟨_,ad,?_⟩⟩|refine bn ?_);(conv=>whnf)
   refine cT (pg Q z.aR g1) ?_
   (conv=>whnf)
   repeat' ((first|(refine aK (UC Q z.g z.args g2 λt al=>(g3 t al).1) ?_;rintro v A ⟨rfl,rfl⟩)|(refine aK (Fg Q z.fk g4.1) ?_;rintro v A ⟨rfl,rfl⟩)|(refine aK (Gj Q z.gM g5) ?_;rintro v A ⟨rfl,rfl⟩)|refine bn ?_|((with_reducible first|apply eT|apply iN|apply fK|apply cC|apply f4|apply kC|apply kB|apply eD)<;>intros))<;>(conv=>whnf))
   all_goals try exact⟨rfl,_,rfl,jw⟩
   all_goals exact eG _ _ (ku dp ⟨by assumption,by assumption,by assumption,by first|(left;assumption)|(right;assumption)⟩) rfl rfl
  .refine de ?_;exact bC _ _ (ku bo ⟨pC eK,s2,dp⟩) rfl rfl
 .refine de ?_;exact⟨rfl,_,rfl,λ_=>bo⟩
def UZ(l:List cX):Prop:=∀x∈l,gR x.aR=true/\x.dZ.all qu=true
def S6(x:fc):Prop:=qu x.zO=true/\UZ x.fg/\x.bK.mw=true/\∀b∈x.binds,gR b.yR=true/\qu b.func=true
def ag2(x:cV)(I:x.ok):bj C [] 32 [.J (.agg x.cells)] [] λv A=>A=[]/\∃b,v=.bool b/\(b=true->∀t∈x.ed,S6 t):=by
 refine Q.z 32 (h9 [(0,[3,4,8,9,10,11,12,13,14],[1]),(2,[4,13,14],[1])]) rfl rfl ?_;obtain⟨_,_,_,_,_,_,_,_,_,_,_,K,al,_⟩:=I;have fy:(x.ed.map fc.row).length<100:=by rw[dt];exact K
 refine aG ?_;refine gE fc.row x.ed 7 (λd=>[]) (λd=>∀t∈d,S6 t) ⟨by simp,rfl,rfl⟩ (λd y r ba ar aV ad bo bC=>?_) (λba bo=>?_)
 .obtain⟨B,F,ah,aE,bt,b1⟩:=al y (by simp [ar]);have wC:(y.binds.map i3.row).length<100:=by rw[dt];exact bt
  unfold fc.row at ad;refine dx ?_;refine cj (Gj Q y.zO B) ?_;refine lz (jB (λeK=>?_) (λ_=>?_));rotate_left
  .exact iY
  refine aG ?_;refine aK (XW Q y.g1 y.fg F ah) ?_;rintro v A ⟨rfl,b,rfl,av⟩;refine aG ?_;refine lz (jB (λs2=>?_) (λ_=>?_));rotate_left
  .exact iY
  refine aG ?_;refine cj (Fg Q y.bK aE.1) ?_;refine lz (jB (λmR=>?_) (λ_=>?_));rotate_left
  .exact iY
  refine aG ?_;refine gE i3.row y.binds 12 (λd=>[]) (λd=>∀b∈d,gR b.yR=true/\qu b.func=true) ⟨by simp,rfl,rfl⟩ (λd2 z cl fJ eu aV ad dp eG=>?_) (λfJ dp=>?_)
  .obtain⟨g1,g2⟩:=b1 z (by simp [eu]);unfold i3.row at ad;refine dx ?_;refine cT (pg Q z.yR g1) ?_
   (conv=>whnf)
   repeat' ((first|(refine aK (Gj Q z.func g2) ?_;rintro v A ⟨rfl,rfl⟩)|refine bn ?_|((with_reducible first|apply eT|apply iN|apply fK|apply cC|apply f4|apply kC|apply kB|apply eD)<;>intros))<;>(conv=>whnf))
   all_goals try exact⟨rfl,_,rfl,jw⟩
   all_goals exact eG _ _ (ku dp ⟨by assumption,by assumption⟩) rfl rfl
  .refine de ?_;exact bC _ _ (ku bo ⟨eK,av s2,mR,dp⟩) rfl rfl
 .refine de ?_;exact⟨rfl,_,rfl,λ_=>bo⟩
end
section
variable{C:Nat->cG}{ext:Nat->Option e0}{ab:fD}(Q:Env C ext ab)
include Q
def L5(e:aj):Bool:=decide (40<e.gi)||e.tz
def abJ(x:ec):Prop:=∀f∈x.fields,f.bK.gi<=8
def YN(x:eg):Prop:=∀c∈x.cases,tj c.f8=false
def Ye(x:eX):Prop:=∀m∈x.fT,tj m.args=false/\m.fk.gi<=8
def Xh(a:cD):Prop:=a.bK.gi<=8/\L5 a.gM=false
def aap(x:dI):Prop:=x.fk.gi<=8/\L5 x.body=false/\∀a∈x.args,Xh a
def Pr(x:cV):Prop:=(∀s∈x.ea,abJ s)/\(∀s∈x.dW,YN s)/\(∀s∈x.e7,Ye s)/\(∀s∈x.ed,s.bK.gi<=8)/\∀s∈x.funcs,aap s
def ai7(x)(I:x.ok):bj C [] 75 [.J (.agg x.cells)] [] λv A=>A=[]/\∃b,v=.bool b/\(b=false->Pr x):=by
 refine Q.z 75 (h9 [(0,[3,4,15,16,17,18,19,20],[1]),(2,[4,19,20],[1]),(4,[5,6,24,25,26,27,28,29],[1]),(6,[6,28,29],[1]),(8,[7,8,33,34,35,36,37,38],[1]),(10,[8,37,38],[1]),(12,[9,42,43],[1]),(14,[10,11,47,48,49,50,51,52,53],[1]),(16,[11,52,53],[1])]) rfl rfl ?_;obtain⟨_,_,_,_,_,df,dr,cH,c3,dh,dY,fj,e9,fP,f9⟩:=I;have aZ:(x.ea.map ec.row).length<100:=by rw[dt];exact df
 have aN:(x.dW.map eg.row).length<100:=by rw[dt];exact cH
 have c9:(x.e7.map eX.row).length<100:=by rw[dt];exact dh
 have hB:(x.ed.map fc.row).length<100:=by rw[dt];exact fj
 have mo:(x.funcs.map dI.row).length<100:=by rw[dt];exact fP
 refine aG ?_;refine gE ec.row x.ea 14 (λd=>[]) (λd=>∀s∈d,abJ s) ⟨by simp,rfl,rfl⟩ (λd y r ba ar aV ad bo bC=>?_) (λba bo=>?_)
 .obtain⟨B,F,ah,aE,bt,b1⟩:=dr y (by simp [ar]);have wC:(y.fields.map eF.row).length<100:=by rw[dt];exact bt
  unfold ec.row at ad;refine dx ?_;refine gE eF.row y.fields 18 (λd=>[]) (λd=>∀f∈d,f.bK.gi<=8) ⟨by simp,rfl,rfl⟩ (λd2 z cl fJ eu aV ad dp eG=>?_) (λfJ dp=>?_)
  .have g:=(b1 z (by simp [eu])).2;have g2:=g.2;unfold eF.row at ad;refine dx ?_;refine cj (F0 Q z.bK g) ?_;refine ry (λh=>?_) (λeK=>?_)
   .exact iY
   refine aG ?_;exact eG _ _ (ku dp eK) rfl rfl
  .refine de ?_;exact bC _ _ (ku bo dp) rfl rfl
 refine de ?_;refine gE eg.row x.dW 23 (λd=>[]) (λd=>∀s∈d,YN s) ⟨by simp,rfl,rfl⟩ (λd y r ba ar aV ad gr bC=>?_) (λba gr=>?_)
 .obtain⟨B,F,ah,aE,bt,b1⟩:=c3 y (by simp [ar]);have wC:(y.cases.map eP.row).length<100:=by rw[dt];exact bt
  unfold eg.row at ad;refine dx ?_;refine gE eP.row y.cases 27 (λd=>[]) (λd=>∀c∈d,tj c.f8=false) ⟨by simp,rfl,rfl⟩ (λd2 z cl fJ eu aV ad dp eG=>?_) (λfJ dp=>?_)
  .obtain⟨_,g1,g2⟩:=b1 z (by simp [eu]);unfold eP.row at ad;refine dx ?_;refine cj (Pv Q z.g z.f8 g1 g2) ?_;refine jB (λh=>?_) (λeK=>?_)
   .exact iY
   refine aG ?_;exact eG _ _ (ku dp eK) rfl rfl
  .refine de ?_;exact bC _ _ (ku gr dp) rfl rfl
 refine de ?_;refine gE eX.row x.e7 32 (λd=>[]) (λd=>∀s∈d,Ye s) ⟨by simp,rfl,rfl⟩ (λd y r ba ar aV ad cn bC=>?_) (λba cn=>?_)
 .obtain⟨B,F,bt,b1⟩:=dY y (by simp [ar]);have wC:(y.fT.map fW.row).length<100:=by rw[dt];exact bt
  unfold eX.row at ad;refine dx ?_;refine gE fW.row y.fT 36 (λd=>[]) (λd=>∀m∈d,tj m.args=false/\m.fk.gi<=8) ⟨by simp,rfl,rfl⟩ (λd2 z cl fJ eu aV ad dp eG=>?_) (λfJ dp=>?_)
  .obtain⟨_,g1,g2,g3,_⟩:=b1 z (by simp [eu]);have g4:=g3.2;unfold fW.row at ad;refine dx ?_;refine cj (Pv Q z.g z.args g1 g2) ?_;refine jB (λh=>?_) (λeK=>?_)
   ·(conv=>whnf)
    repeat' (first|refine bn ?_|refine aN ?_|refine s2 ?_ ?_<;>intros|fail)<;>(conv=>whnf)
    all_goals exact⟨rfl,_,rfl,q1⟩
   refine aG ?_;refine cj (F0 Q z.fk g3) ?_;refine ry (λh=>?_) (λs2=>?_)
   .exact iY
   refine aG ?_;exact eG _ _ (ku dp ⟨eK,s2⟩) rfl rfl
  .refine de ?_;exact bC _ _ (ku cn dp) rfl rfl
 refine de ?_;refine gE fc.row x.ed 41 (λd=>[]) (λd=>∀s∈d,s.bK.gi<=8) ⟨by simp,rfl,rfl⟩ (λd y r ba ar aV ad gn bC=>?_) (λba gn=>?_)
 .obtain⟨_,_,_,g,_⟩:=e9 y (by simp [ar]);have g4:=g.2;unfold fc.row at ad;refine dx ?_;refine cj (F0 Q y.bK g) ?_;refine ry (λh=>?_) (λs2=>?_)
  .exact iY
  refine aG ?_;exact bC _ _ (ku gn s2) rfl rfl
 refine de ?_;refine gE dI.row x.funcs 46 (λd=>[]) (λd=>∀s∈d,aap s) ⟨by simp,rfl,rfl⟩ (λd y r ba ar aV ad jG bC=>?_) (λba jG=>?_)
 .obtain⟨_,_,_,_,bt,b1,ep,fm⟩:=f9 y (by simp [ar]);have wC:(y.args.map cD.row).length<100:=by rw[dt];exact bt
  have ar2:=ep.2;unfold dI.row at ad;simp only[jF,kv] at ad;refine dx ?_;refine cj (F0 Q y.fk ep) ?_;refine ry (λh=>?_) (λeK=>?_)
  ·(conv=>whnf)
   repeat' (first|refine bn ?_|refine aN ?_|refine s2 ?_ ?_<;>intros|fail)<;>(conv=>whnf)
   all_goals exact⟨rfl,_,rfl,q1⟩
  refine aG ?_;refine cj (aev Q y.body fm) ?_;refine jB (λh=>?_) (λs2=>?_)
  .exact iY
  refine aG ?_;refine gE cD.row y.args 51 (λd=>[]) (λd=>∀a∈d,Xh a) ⟨by simp,rfl,rfl⟩ (λd2 z cl fJ eu aV ad dp eG=>?_) (λfJ dp=>?_)
  .obtain⟨_,g1,g2⟩:=b1 z (by simp [eu]);have g3:=g1.2;unfold cD.row at ad;simp only[jF,kv] at ad;refine dx ?_;refine cj (F0 Q z.bK g1) ?_;refine ry (λh=>?_) (λmR=>?_)
   ·(conv=>whnf)
    repeat' (first|refine bn ?_|refine aN ?_|refine s2 ?_ ?_<;>intros|fail)<;>(conv=>whnf)
    all_goals exact⟨rfl,_,rfl,q1⟩
   refine aG ?_;refine cj (aev Q z.gM g2) ?_;refine jB (λh=>?_) (λoO=>?_)
   .exact iY
   refine aG ?_;exact eG _ _ (ku dp ⟨mR,oO⟩) rfl rfl
  .refine de ?_;exact bC _ _ (ku jG ⟨eK,s2,dp⟩) rfl rfl
 refine de ?_;exact⟨rfl,_,rfl,λ_=>⟨bo,gr,cn,gn,jG⟩⟩
end
end Go.Tx
