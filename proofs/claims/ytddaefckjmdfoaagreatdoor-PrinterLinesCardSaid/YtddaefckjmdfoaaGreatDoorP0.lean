/- Part of the proof of PrinterLines. -/
import Derived.Test.YtddaefckjmdfoaaGreatDoorS0
set_option linter.all false
namespace Go.Tx
open Go Go.Ev
set_option maxRecDepth 100000
set_option maxHeartbeats 8000000
attribute [local irreducible] jJ mb bj lQ kS nj ie fe
section
variable{C:Nat->cG}{ext:Nat->Option e0}{ab:fD}(Q:Env C ext ab)
include Q
def jY(w:Nat)(v:b2)(A:be):Prop:=A=[]/\∃s,v=.str s/\fe s=0/\s.length<=w
def Nx(C:Nat->cG)(n:Nat){α:Type}(i6:α->List b2):Prop:=∀aF,aF=i6->∀g q (l:List α)(w:α->Nat),l.length<10000000->(∀x∈l,bj C [] q [.J (.agg (aF x))] [] (jY (w x)))->cR w l<1099511627776->bj C [] n [.J (.aQ g (l.map aF)),.J (.fn q [] [])] [] (jY (cR w l))
def Jj:Nx C 181 ai.row/\Nx C 183 cD.row/\Nx C 213 aj.row/\Nx C 262 cX.row:=by
 refine⟨?_,?_,?_,?_⟩<;>intro aF bx g q l w K aw av
 all_goals
  refine Q.z _ (ia [(0,[4,8],[⟨false,3,0,900,9,1⟩],[900])]) rfl rfl ?_
  have hm:(l.map aF).length=l.length:=bW
  refine aG ?_
  refine ko aF l 7 (λd (cg:List bM)=>[(3,.bQ 900)]) (λd cg=>[(900,.arr 9 1 (cg.map cu) true)]) (λd cg=>cg.length=d.length/\o2 2 cg<=cR w d/\∀s∈cg,fe s=0) ⟨[],⟨rfl,ez _,by simp⟩,rfl⟩ (λd cg x r ba ar aV ad bo bC=>?_) (λcg ba bo=>?_)
  .obtain⟨dD,dQ,fi⟩:=bo;have I:=aw x (by simp [ar]);have m6:(cg.map cu).length=cg.length:=bW;subst bx;simp only[ai.dF,aj.dF,cX.row,cD.row,jF,kv] at ad I;refine dx ?_;refine aK I ?_;rintro v A ⟨rfl,s,rfl,rb,z5⟩;refine b8 ?_;refine bC (cg++[s]) _ _ ⟨by simp [dD],?_,?_⟩ ?_
   .rw[S9,pL,wR];simp only[o2];omega
   .intro t al;rcases jD.1 al with al|al
    .exact fi t al
    .rw[iF.1 al];exact rb
   .rw[qn];rfl
  .obtain⟨dD,dQ,fi⟩:=bo;refine de ?_;refine cj (Q.join _ cg [44,32] Y (t3 (E0 (k:=2) ag cg) Y)) ?_;exact⟨rfl,_,rfl,EU (by simp(disch:=decide) only[fq,e2]) cg fi,mq (E0 (k:=2) ag cg) dQ⟩
end
section
variable{C:Nat->cG}{ext:Nat->Option e0}{ab:fD}(Q:Env C ext ab)
include Q
def iH(k:Nat)(s:bM):Prop:=fe s=0/\s.length<=k
omit Q in
def adl:∀s:bM,s.all (λb=>xL b.toNat)->fe s=0
 |[],_=>e2
 |b::s,h=>by rw[An,c6] at h;rw[fq b (λe=>by subst e;exact absurd h.1 ag),adl s h.2]
variable{k:Nat}{s:bM}
omit Q in
def pb(h:j2 s):iH 16 s:=by have h:=pC h;exact⟨adl s h.2.2.2.1,h.2.1⟩
omit Q in
def adH{n}(h:iH k s)(az:k<=n):iH n s:=⟨h.1,mq h.2 az⟩
omit Q in
def Nk:iH k []:=⟨e2,mz _⟩
omit Q in
def Ei(h:qV s):iH 33 s:=by
 unfold qV at h;split at h
 .rename_i hm;rw[c6] at h;have B:=pb h.1;have F:=pb h.2;have aH:s.idxOf 46<s.length:=List.idxOf_lt_length_of_mem hm;have e:s=s.take (s.idxOf 46)++([46]++s.drop (s.idxOf 46+1)):=by
   have:s[s.idxOf 46]=46:=List.getElem_idxOf aH;conv=>lhs;rw[<-JT (s.idxOf 46) s,y9 aH,this]
   rfl
  have aB:fe s=0:=by rw[e,f1,f1,B.1,F.1];simp(disch:=decide) only[fq,e2]
  refine⟨aB,?_⟩;have bN:=B.2;have a2:=F.2;rw[jC] at bN;rw[lu] at a2;omega
 .exact adH (pb h) ag
omit Q in
def an7(h:AM s):iH 33 s:=by have h:=pC h;simp only[fS,AC,Dx] at h;rcases h with rfl|rfl|rfl|rfl|rfl<;>exact⟨by simp(disch:=decide) only[fq,e2],ag⟩
omit Q in
def alr(h:s∈BS):iH 33 s:=by simp only[BS,fS,AC,Dx] at h;rcases h with rfl|rfl|rfl|rfl|rfl|rfl|rfl<;>exact⟨by simp(disch:=decide) only[fq,e2],ag⟩
mutual
def ai.wt:ai->Nat
 |.mk _ _ l=>ai.yd l+35
def ai.yd:List ai->Nat
 |[]=>0
 |a::l=>a.wt+2+ai.yd l
end
omit Q in
def ai.Kg:∀l,ai.yd l=cR ai.wt l
 |[]=>rfl
 |a::l=>by rw[ai.yd,ai.Kg l];rfl
omit Q in
def ai.z2(t:ai):t.wt=cR ai.wt t.l+35:=by cases t;rw[ai.wt,ai.Kg];rfl
omit Q in
def ai.US{t:ai}(h:t.lx):iH 33 t.aR/\∀x∈t.l,x.lx:=by
 rw[ai.aa2,c6,qC,f0] at h;refine⟨?_,h.2⟩;rcases h.1 with h|h
 .exact an7 h
 .exact Ei h
def Xx(g)(l)(K:l.length<1000)(bx:cR ai.wt l<1000000000000)(aw:∀x∈l,bj C [] 104 [.J (.agg x.cells)] [] (jY x.wt)):bj C [] 100 [.J (.aQ g (l.map ai.row))] [] (jY (cR ai.wt l+2)):=by
 refine Q.z 100 cY rfl rfl ?_;have hm:(l.map ai.row).length=l.length:=bW;refine aG ?_;refine fK (λ_=>?_) (λ_=>?_)
 .refine aG ?_;exact⟨rfl,_,rfl,e2,mz _⟩
 .refine aG ?_;refine aK ((Jj Q).1 ai.row rfl g 104 l ai.wt Y (λx I=>by rw[ai.dF];exact aw x I) Y) ?_;rintro v A ⟨rfl,s,rfl,B,F⟩;refine b8 ?_;exact⟨rfl,_,rfl,by simp(disch:=decide) only[f1,fq,e2,B],pu⟩
def alY(t:ai)(al:t.bL)(ak:t.lx)(bx:t.wt<1000000000000)(aw:∀x∈t.l,bj C [] 104 [.J (.agg x.cells)] [] (jY x.wt)):bj C [] 104 [.J (.agg t.cells)] [] (jY t.wt):=by refine Q.z 104 cY rfl rfl ?_;have K:=al.len;rw[dt] at K;rw[ai.z2] at bx ⊢;have aB:=(ai.US ak).1;have kY:=aB.2;refine aG ?_;refine aK (Xx Q t.g t.l (by omega) (by omega) aw) ?_;rintro v A ⟨rfl,s,rfl,B,F⟩;refine b8 ?_;exact⟨rfl,_,rfl,by simp only[f1,B,aB.1],by simp only[gP];omega⟩
def xO:∀t:ai,t.bL->t.lx->t.wt<1000000000000->bj C [] 104 [.J (.agg t.cells)] [] (jY t.wt):=
 ai.ind λt bB B F ah=>alY Q t B F ah λx I=>bB x I (B.p6 I) ((ai.US F).2 x I) (by have:=BC ai.wt I;rw[ai.z2] at ah;omega)
def Ow(g)(l)(K:l.length<1000)(bx:cR ai.wt l<1000000000000)(h:∀x∈l,x.bL/\x.lx):bj C [] 100 [.J (.aQ g (l.map ai.row))] [] (jY (cR ai.wt l+2)):=
 Xx Q g l K bx λx I=>xO Q x (h x I).1 (h x I).2 (by have:=BC ai.wt I;omega)
def aaM(g)(l)(K:l.length<1000)(bx:cR ai.wt l<1000000000000)(h:∀x∈l,x.bL/\x.lx):bj C [] 181 [.J (.aQ g (l.map ai.row)),.J (.fn 104 [] [])] [] (jY (cR ai.wt l)):=
 (Jj Q).1 ai.row rfl g 104 l ai.wt Y (λx I=>by rw[ai.dF];exact xO Q x (h x I).1 (h x I).2 (by have:=BC ai.wt I;omega)) Y
structure Ks(e:aj):Prop where
 bK:∀t∈e.types,t.lx=true
 fM:∀s∈e.fM,iH 16 s
 fV:∀a∈e.fV,iH 16 a.case/\∀s∈a.names,iH 16 s
 aR:iH 33 e.aR
 mem:iH 16 e.mem
 c3:e.kind=4\/e.kind=6\/e.kind=8->e.kids.length=2
 dY:e.kind=5->e.kids.length=3
 dr:e.kind=12->e.kids.length=1
 arF:e.kind=13->e.kids.length=1+e.fM.length
 aqH:e.kind=15->e.kids.length=1+e.fV.length
 kT:e.kind=11->e.kids.length=e.fM.length
 t1:e.kind=10\/e.kind=14->e.types.length=1
 m0:e.kind=13->0<e.fM.length
omit Q in
def aoZ(h:Fq s k):iH 33 s:=by
 unfold Fq at h;split at h
 .exact adH (pb h) ag
 .split at h
  .exact Ei h
  .split at h
   .exact alr (pC h)
   .rw[pC h];exact Nk
omit Q in
def alV{l}(h:xA l):∀a∈l,iH 16 a.case/\∀s∈a.names,iH 16 s:=by
 intro a aD;obtain⟨i,aH,rfl⟩:=LY aD;rw[xA,f0] at h;have:=h i (List.mem_range.2 aH);rw[na aH] at this;simp only at this;unfold sW at this;split at this
 .have:=pC this;rw[this.2.1,this.2.2];exact⟨Nk,by simp⟩
 .rw[c6,f0] at this;exact⟨pb this.1,λs ak=>pb (this.2 s ak)⟩
omit Q in
def Ox{α:Type}{l:List α}(h:l.length=0){P:α->Prop}:∀x∈l,P x:=by rw[xH] at h;subst h;simp
omit Q in
def al3(e)(h:pp e):Ks e:=by
 unfold pp at h;cases ak:wL e.kind with
 |none=>rw[ak] at h;cases h
 |some N=>
  rw[ak] at h;simp only[c6,qC,oI,AP,xe] at h;obtain⟨⟨⟨⟨⟨⟨⟨⟨B,F⟩,ah⟩,aE⟩,bt⟩,b1⟩,ep⟩,fm⟩,hI⟩:=h;have oW:iH 16 e.mem:=by
   rcases ah with ah|ah
   .rw[ah] at F;have:¬e.mem≠[]:=of_decide_eq_false F.symm;rw[Classical.not_not.1 this];exact Nk
   .exact pb ah
  have az:=abf e.kind;obtain⟨eY,ex,kd,rT,Kn,aab,W9⟩:=N;simp only at B F ah aE bt b1 ep fm;rcases az with az|az
  .rw[az.2] at ak;cases ak
  .rcases az with az|az|az|az|az|az|az|az|az|az|az|az|az|az|az|az|az|az|az|az|az|az
   all_goals
    rw[az] at ak hI
    simp [wL] at ak
    obtain⟨rfl,rfl,rfl,rfl,rfl,rfl,rfl⟩:=ak
    simp [lO,f0] at aE bt b1 ep fm hI
    refine⟨?_,?_,?_,aoZ B,oW,?_,?_,?_,?_,?_,?_,?_,?_⟩
    all_goals first|(rw[az];omega)|(intro bf;rw[az] at bf;omega)|skip
    all_goals first
     |exact Ox ep|exact Ox bt|exact Ox b1|(exact Ox (by first|assumption|(rw[‹_=[]›];rfl)))|exact alV hI|exact λs ak=>pb (hI.1 s ak)|exact λs ak=>pb (hI.2 s ak)|exact hI.2|exact λ_=>hI.1|(intros;simp_all;done)|(intros;simp_all;omega)
end
section
variable{C:Nat->cG}{ext:Nat->Option e0}{ab:fD}(Q:Env C ext ab)
include Q
mutual
def aj.wt:aj->Nat
 |.mk _ _ _ _ _ types _ fM _ fV _ l _ _=>aj.yd l+(200+cR ai.wt types+30*fM.length+cR (λa:fC=>50+20*a.names.length) fV)
def aj.yd:List aj->Nat
 |[]=>0
 |a::l=>a.wt+8+2+aj.yd l
end
abbrev aj.i4(e:aj):Nat:=e.wt+8
omit Q in
def aj.Kg:∀l,aj.yd l=cR aj.i4 l
 |[]=>rfl
 |a::l=>by rw[aj.yd,aj.Kg l];rfl
omit Q in
def aj.z2(t:aj):t.wt=cR aj.i4 t.kids+(200+cR ai.wt t.types+30*t.fM.length+cR (λa=>50+20*a.names.length) t.fV):=by cases t;rw[aj.wt,aj.Kg];rfl
omit Q in
def Et{l x}(h:x∈l):x.wt+10<=cR aj.i4 l:=BC aj.i4 h
def Bv(n)(s:bM):bj C [] 108 [.J (.int 3 n),.J (.str s)] [] λv A=>A=[]/\v=.str (if n=0 then [] else s):=by
 refine Q.z 108 cY rfl rfl ?_
 (conv=>whnf)
 repeat' (first|refine bn ?_|refine aN ?_|refine s2 ?_ ?_<;>intros|fail)<;>(conv=>whnf)
 all_goals(refine⟨rfl,?_⟩;simp_all)
omit Q in
def CD{w n}{s:bM}(B:fe s=0)(F:s.length<=w):fe (if n=0 then [] else s)=0/\(if n=0 then [] else s).length<=w:=by
 split
 .exact⟨e2,mz _⟩
 .exact⟨B,F⟩
def apQ(k):bj C [] 109 [.J (.int 3 k)] [] (jY 6):=by
 refine Q.z 109 cY rfl rfl ?_
 (conv=>whnf)
 repeat' (first|refine bn ?_|refine aN ?_|refine s2 ?_ ?_<;>intros|fail)<;>(conv=>whnf)
 all_goals exact⟨rfl,_,rfl,by simp(disch:=decide) only[fq,e2],ag⟩
def amo(b):bj C [] 212 [.J (.bool b)] [] (jY 5):=by
 refine Q.z 212 cY rfl rfl ?_
 (conv=>whnf)
 repeat' (first|refine bn ?_|refine aN ?_|refine s2 ?_ ?_<;>intros|fail)<;>(conv=>whnf)
 all_goals exact⟨rfl,_,rfl,by simp(disch:=decide) only[fq,e2],ag⟩
def anv(b):bj C [] 98 [.J (.bool b)] [] (jY 5):=by refine Q.z 98 cY rfl rfl ?_;refine aG ?_;refine aK (amo Q b) ?_;rintro v A ⟨rfl,s,rfl,h⟩;refine aG ?_;exact⟨rfl,s,rfl,h⟩
def Vb(t:aj):bj C [] 102 [.J (.agg t.cells)] [] λv A=>A=[]/\∃n,v=.int 3 n/\n<=5:=by
 refine Q.z 102 cY rfl rfl ?_
 (conv=>whnf)
 repeat' (first|refine bn ?_|refine aN ?_|refine s2 ?_ ?_<;>intros|fail)<;>(conv=>whnf)
 all_goals exact⟨rfl,_,rfl,ag⟩
def FC(t:aj)(a)(aD:a<=10)(bx:t.wt<1000000000000)(BR:bj C [] 38 [.J (.agg t.cells)] [] (jY t.wt)):bj C [] 103 [.J (.agg t.cells),.J (.int 3 a)] [] (jY (t.wt+2)):=by
 refine Q.z 103 cY rfl rfl ?_;refine aG ?_;refine aK (Vb Q t) ?_;rintro v A ⟨rfl,n,rfl,aB⟩;refine aG ?_;refine eT (λ_=>?_) (λ_=>?_);all_goals
  refine aG ?_
  refine aK BR ?_
  rintro v A ⟨rfl,s,rfl,B,F⟩
  refine b8 ?_
  first|exact⟨rfl,_,rfl,B,Y⟩|exact⟨rfl,_,rfl,by simp(disch:=decide) only[f1,fq,e2,B],pu⟩
def tS(t:aj)(bx:t.wt<1000000000000)(BR:bj C [] 38 [.J (.agg t.cells)] [] (jY t.wt)):bj C [] 99 [.J (.agg t.cells)] [] (jY (t.wt+2)):=by refine Q.z 99 cY rfl rfl ?_;refine aG ?_;refine aK (FC Q t 0 ag bx BR) ?_;rintro v A ⟨rfl,s,rfl,h⟩;refine aG ?_;exact⟨rfl,s,rfl,h⟩
omit Q in
def Y0:∀l,cR (λx=>x.wt+2) l<=cR aj.i4 l
 |[]=>ez _
 |a::l=>by have:=Y0 l;have e:a.i4=a.wt+8:=rfl;simp only[cR];omega
def Dl(g)(ab:List (List b2))(l:List aj)(ad:ab=l.map aj.row)(K:l.length<1000)(bx:cR aj.i4 l<1000000000000)(h:∀x∈l,bj C [] 38 [.J (.agg x.cells)] [] (jY x.wt)):bj C [] 101 [.J (.aQ g ab)] [] (jY (cR aj.i4 l+2)):=by subst ad;refine Q.z 101 cY rfl rfl ?_;have B:=Y0 l;refine aG ?_;refine aK ((Jj Q).2.2.1 aj.row rfl g 99 l (λx=>x.wt+2) Y (λx I=>by rw[aj.dF];exact tS Q x (by have:=Et I;omega) (h x I)) Y) ?_;rintro v A ⟨rfl,s,rfl,B,F⟩;refine b8 ?_;exact⟨rfl,_,rfl,by simp(disch:=decide) only[f1,fq,e2,B],pu⟩
theorem acU(g)(jP:List bM)(ja)(ab:List (List b2))(l:List aj)(ad:ab=l.map aj.row)(aB:jP.length=l.length)(K:l.length<1000)(bx:cR aj.i4 l<1000000000000)(br:∀s∈jP,iH 16 s)(h:∀x∈l,bj C [] 38 [.J (.agg x.cells)] [] (jY x.wt)):bj C [] 105 [.J (.aQ g (jP.map cu)),.J (.aQ ja ab)] [] (jY (cR aj.i4 l+30*jP.length+2)):=by
 subst ad;refine Q.z 105 (ia [(0,[4,5,9],[⟨false,3,0,900,9,1⟩],[900])]) rfl rfl ?_;have hm:(jP.map cu).length=jP.length:=bW;have Pq:(l.map aj.row).length=l.length:=bW;refine aG ?_;refine ko cu jP 8 (λd (cg:List bM)=>[(3,.bQ 900)]) (λd cg=>[(900,.arr 9 1 (cg.map cu) true)]) (λd cg=>cg.length=d.length/\o2 2 cg<=cR aj.i4 (l.take d.length)+30*d.length/\∀s∈cg,fe s=0) ⟨[],⟨rfl,Nat.zero_le _,by simp⟩,rfl⟩ (λd cg x r ba ar aV ad bo bC=>?_) (λcg ba bo=>?_)
 .obtain⟨dD,dQ,fi⟩:=bo;have m6:(cg.map cu).length=cg.length:=bW;have qD:d.length<l.length:=by rw[<-aB,ar];simp
  have I:=br x (by simp [ar]);have lq:=I.2;have tr:l.take (d.length+1)=l.take d.length++[l[d.length]]:=List.take_succ_eq_append_getElem qD;have hq:ib (l.map aj.row) d.length=l[d.length].row:=by have:=wu aj.row (l.take d.length) l[d.length] (l.drop (d.length+1));rwa [<-List.drop_eq_getElem_cons qD,List.take_append_drop,List.length_take,Nat.min_eq_left Y] at this
  have az:l[d.length]∈l:=List.getElem_mem qD;have apR:=Et az;rw[aj.dF] at hq;have Qy:cR aj.i4 (l.take (d.length+1))<=cR aj.i4 l:=by
   conv=>rhs;rw[<-List.take_append_drop (d.length+1) l,pL]
   omega
  have arc:=Et az;rw[tr,pL,wR] at Qy;generalize l[d.length]=y at*
  (conv=>whnf)
  repeat(first|refine⟨Y,⟨_,hq,?_⟩⟩|refine .yes (cZ.2 aV) ?_|refine⟨aV,⟨_,ad,?_⟩⟩|refine b9 ?_);(conv=>whnf)
  refine aK (tS Q y Y (h y az)) ?_;rintro v A ⟨rfl,s,rfl,B,F⟩;refine b8 ?_;refine bC (cg++[x++[32,61,32]++s]) _ _ ⟨by simp [dD],?_,?_⟩ ?_
  .have aZ:(d++[x]).length=d.length+1:=by simp
   have aN:y.i4=y.wt+8:=rfl;rw[S9,aZ,tr,pL,wR];simp only[o2,List.length_append,List.length_cons,List.length_nil];omega
  .intro t al;rcases List.mem_append.1 al with al|al
   .exact fi t al
   .rw[List.mem_singleton.1 al];simp(disch:=decide) only[f1,fq,e2,B,I.1]
  .rw[List.map_append];rfl
 .obtain⟨dD,dQ,fi⟩:=bo;have gS:=E0 (k:=2) (sep:=[44,32]) ag cg;rw[aB,List.take_length] at dQ;refine de ?_;refine jL (Q.join _ cg [44,32] Y Y) ?_;refine⟨rfl,_,rfl,?_,?_⟩
  .have:=EU (sep:=[44,32]) (by simp(disch:=decide) only[fq,e2]) cg fi;simp(disch:=decide) only[f1,fq,e2,this]
  .simp only[List.length_append,List.length_cons,List.length_nil];omega
theorem ad7(g)(l)(v2:b2)(kT:List aj)(au:l=[]\/∃ja ab,v2=.aQ ja ab/\ab=kT.map aj.row)(aB:l.length=kT.length)(K:kT.length<1000)(bx:cR aj.i4 kT+cR (λa=>50+20*a.names.length) l<1000000000000)(aD:∀a∈l,a.ok)(br:∀a∈l,iH 16 a.case/\∀s∈a.names,iH 16 s)(h:∀x∈kT,bj C [] 38 [.J (.agg x.cells)] [] (jY x.wt)):bj C [] 107 [.J (.aQ g (l.map fC.row)),.J v2] [] (jY (cR aj.i4 kT+cR (λa=>50+20*a.names.length) l)):=by
 refine Q.z 107 (h9 [(0,[4,5,9,10],[])]) rfl rfl ?_;have hm:(l.map fC.row).length=l.length:=bW;have Pq:(kT.map aj.row).length=kT.length:=bW;refine aG ?_;refine ko fC.row l 8 (λd (s:bM)=>[(3,.J (.str s))]) (λd s=>[]) (λd s=>fe s=0/\s.length<=cR aj.i4 (kT.take d.length)+cR (λa:fC=>50+20*a.names.length) d) ⟨[],⟨e2,Nat.zero_le _⟩,rfl⟩ (λd cg x r ba ar aV ad bo bC=>?_) (λcg ba bo=>?_)
 .obtain⟨dD,dQ⟩:=bo;have qD:d.length<kT.length:=by rw[<-aB,ar];simp
  have KR:x∈l:=by simp [ar]
  obtain⟨Ft,lq⟩:=br x KR;have XX:=Ft.2;obtain⟨_,amp,_⟩:=aD x KR;have ahJ:(x.names.map cu).length=x.names.length:=bW;have tr:kT.take (d.length+1)=kT.take d.length++[kT[d.length]]:=List.take_succ_eq_append_getElem qD;have hq:ib (kT.map aj.row) d.length=kT[d.length].row:=by have:=wu aj.row (kT.take d.length) kT[d.length] (kT.drop (d.length+1));rwa [<-List.drop_eq_getElem_cons qD,List.take_append_drop,List.length_take,Nat.min_eq_left Y] at this
  have az:kT[d.length]∈kT:=List.getElem_mem qD;have Qy:cR aj.i4 (kT.take (d.length+1))<=cR aj.i4 kT:=by
   conv=>rhs;rw[<-List.take_append_drop (d.length+1) kT,pL]
   omega
  have arL:cR (λa:fC=>50+20*a.names.length) d+(50+20*x.names.length+2)<=cR (λa:fC=>50+20*a.names.length) l:=by rw[ar,pL];simp only[cR];omega
  have apR:=Et az;rw[tr,pL,wR] at Qy;rw[aj.dF] at hq;generalize kT[d.length]=y at*;have aN:y.i4=y.wt+8:=rfl;have Pd:o2 2 x.names<=18*x.names.length:=by
   have:∀l:List bM,(∀s∈l,iH 16 s)->o2 2 l<=18*l.length:=by
    intro l;induction l with
    |nil=>intro _;simp [o2]
    |cons a l bB=>intro K;have B:=(K a List.mem_cons_self).2;have F:=bB λs ak=>K s (List.mem_cons_of_mem _ ak);simp only[o2,List.length_cons];omega
   exact this _ lq
  have MP:=E0 (k:=2) (sep:=[44,32]) ag x.names;have v9:=EU (sep:=[44,32]) (by simp(disch:=decide) only[fq,e2]) x.names λs ak=>(lq s ak).1;rcases au with au|⟨ja,ab,rfl,rfl⟩
  .rw[au] at KR;cases KR
  unfold fC.row at ad;cases av:x.uD<;>rw[av] at ad
  all_goals
   (conv=>whnf)
   repeat(first|refine gz.mk Y (jM.mk _ hq ?_)|refine jM.mk _ hq ?_|refine .yes (cZ.2 aV) ?_|refine⟨aV,⟨_,ad,?_⟩⟩|refine b9 ?_);(conv=>whnf)
   refine cT (Q.join _ x.names [44,32] Y Y) ?_
   (conv=>whnf)
   repeat(first|refine gz.mk Y (jM.mk _ hq ?_)|refine jM.mk _ hq ?_|refine b9 ?_);(conv=>whnf)
   refine cT (Bv Q _ _) ?_
   have ay:=CD (n:=(x.names.map cu).length) (w:=18*x.names.length+2) (s:=[40]++ie [44,32] x.names++[41]) (by simp(disch:=decide) only[f1,fq,e2,v9]) pu
   obtain⟨vT,yr⟩:=ay
   generalize(if(x.names.map cu).length=0 then [] else [40]++ie [44,32] x.names++[41])=D at*
   (conv=>whnf)
   repeat(first|refine gz.mk Y (jM.mk _ hq ?_)|refine jM.mk _ hq ?_|refine b9 ?_);(conv=>whnf)
   refine aK (tS Q y Y (h y az)) ?_
   rintro v A ⟨rfl,s,rfl,B,F⟩
   (conv=>whnf)
   repeat(first|refine gz.mk Y (jM.mk _ hq ?_)|refine jM.mk _ hq ?_|refine b9 ?_);(conv=>whnf)
   refine bC _ _ _ ⟨?_,?_⟩ rfl
   .simp(disch:=decide) only[f1,fq,e2,B,Ft.1,dD,vT]
   .have aZ:(d++[x]).length=d.length+1:=by simp
    rw[aZ,tr,pL,wR,pL,wR];simp only[List.length_append,List.length_cons,List.length_nil];omega
 .obtain⟨dD,dQ⟩:=bo;rw[aB,List.take_length] at dQ;refine de ?_;exact⟨rfl,_,rfl,dD,dQ⟩
end
section
variable{C:Nat->cG}{ext:Nat->Option e0}{ab:fD}(Q:Env C ext ab)
include Q
def alx(t)(al:t.bL)(bx:t.wt<1000000000000)(aI:Ks t)(BR:bj C [] 38 [.J (.agg t.cells)] [] (jY t.wt)):bj C [] 106 [.J (.agg t.cells)] [] (jY (t.wt+2)):=by
 refine Q.z 106 cY rfl rfl ?_;refine aG ?_;refine fK (λaz=>?_) (λaz=>?_)
 .obtain⟨bK,ml⟩:∃bK,t.types=[bK]:=List.length_eq_one_iff.1 (aI.t1 (.inr az));have ad:ib (t.types.map ai.row) 0=bK.cells:=by rw[ml];exact ai.dF bK
  have K:(t.types.map ai.row).length=1:=by rw[ml];rfl
  have aB:=(ai.US (aI.bK bK (by rw[ml];simp))).1.2
  (conv=>whnf)
  repeat' (first|refine .mk Y (.mk _ ad ?_)|refine cT (OU Q _ _ Y ag) ?_|refine cT (OU Q _ _ ag pu) ?_|(refine aK BR ?_;rintro v A ⟨rfl,s,rfl,B,F⟩)|(refine aK (FC Q t 4 ag bx BR) ?_;rintro v A ⟨rfl,s,rfl,B,F⟩)|refine b9 ?_|refine aN ?_|refine s2 ?_ ?_<;>intros|fail)<;>(conv=>whnf)
  all_goals first|exact⟨rfl,_,rfl,B,Y⟩|exact⟨rfl,_,rfl,by simp(disch:=decide) only[f1,fq,e2,B],pu⟩
 .refine aG ?_;refine aK (FC Q t 4 ag bx BR) ?_;rintro v A ⟨rfl,s,rfl,B,F⟩;refine aG ?_;exact⟨rfl,_,rfl,B,Y⟩
omit Q in
def U7{a b:Nat}(h:a=b):Nat.beq a b:=cF.2 h
omit Q in
def NI{a b:Nat}(h:a≠b):Nat.beq a b=false:=by rw[J5,qO h]
def aj.cj(t:aj)(i:Nat):aj:=t.kids.getD i t
omit Q in
def Mr{t:aj}{i}(h:i<t.kids.length):t.cj i∈t.kids:=by unfold aj.cj;rw[oE,na h];exact Jn h
omit Q in
def am5{t:aj}{i}(h:i<t.kids.length):ib (t.kids.map aj.row) i=(t.cj i).cells:=by have:=wu aj.row (t.kids.take i) t.kids[i] (t.kids.drop (i+1));rw[<-y9 h,JT,jC,ws Y] at this;rw[this,aj.dF];unfold aj.cj;rw[oE,na h];rfl
omit Q in
def aeY{t:aj}(h:t.kids.length=2):cR aj.i4 t.kids=(t.cj 0).wt+(t.cj 1).wt+20:=by
 unfold aj.cj
 match B:t.kids,h with
 |[a,b],_=>show a.wt+8+2+(b.wt+8+2+0)=a.wt+b.wt+20;omega
omit Q in
def af2{t:aj}(h:t.kids.length=3):cR aj.i4 t.kids=(t.cj 0).wt+(t.cj 1).wt+(t.cj 2).wt+30:=by
 unfold aj.cj
 match B:t.kids,h with
 |[a,b,c],_=>show a.wt+8+2+(b.wt+8+2+(c.wt+8+2+0))=a.wt+b.wt+c.wt+30;omega
omit Q in
def ah4{t:aj}(h:0<t.kids.length):cR aj.i4 t.kids=(t.cj 0).wt+10+cR aj.i4 (t.kids.drop 1)/\cR aj.i4 (t.kids.take 1)=(t.cj 0).wt+10:=by
 unfold aj.cj
 match B:t.kids,h with
 |a::l,_=>exact⟨rfl,rfl⟩
end
section
variable{C:Nat->cG}{ext:Nat->Option e0}{ab:fD}(Q:Env C ext ab)
include Q
omit Q in
def ahk{eo bc h jI P es aP c n E A b0 bz}(i M)(B:eo λd9 bw=>bw=A/\∃m e,m<=5/\d9=iT (iT E i e) M (.J (.int 3 m)))(F:∀m e,m<=5->bc (iT (iT E i e) M (.J (.int 3 m))) A):Iw (nt C h jI P es aP c n E A b0 bz) eo bc:=.join _ B (by rintro d9 bw ⟨rfl,m,e,hm,rfl⟩;exact F m e hm)
theorem ak2(t )(al : t.bL)(aI : Ks t)(bx : t.wt < 1000000000000)(ac7 : ∀ i, i < t.kids.length → (t.cj i).bL ∧ Ks (t.cj i))(aw : ∀ x ∈ t.kids, bj C [] 38 [.J (.agg x.cells)] [] (jY x.wt)) : bj C [] 38 [.J (.agg t.cells)] [] (jY t.wt) := by
  refine Q.z 38 cY rfl rfl ?_
  rw [aj.z2] at bx ⊢
  obtain ⟨_, _, g3, g4, g5, _, gA, Yh, KF, _⟩ := al.one
  have m1 : (t.types.map ai.row).length = t.types.length := List.length_map ..
  have m2 : (t.fM.map cu).length = t.fM.length := List.length_map ..
  have m3 : (t.fV.map fC.row).length = t.fV.length := List.length_map ..
  have m4 : (t.kids.map aj.row).length = t.kids.length := List.length_map ..
  have az : ∀ i, i < t.kids.length → ib (t.kids.map aj.row) i = (t.cj i).cells := λi h => am5 h
  have vS : ∀ i, i < t.kids.length → bj C [] 38 [.J (.agg (t.cj i).cells)] [] (jY (t.cj i).wt) := λi h => aw _ (Mr h)
  have vM : ∀ i, i < t.kids.length → (t.cj i).wt < 1000000000000 := λi h => by have := Et (Mr h); omega
  have O4 : ∀ x ∈ t.types, x.bL ∧ x.lx = true := λx I => ⟨g4 x I, aI.bK x I⟩
  obtain ⟨bK, ml, ks, pe⟩ : ∃ bK : ai, (t.types.length = 1 → ib (t.types.map ai.row) 0 = bK.cells) ∧ (t.types.length = 1 → bK.bL ∧ bK.lx = true ∧ bK.wt < 1000000000000) ∧ (t.types.length = 1 → cR ai.wt t.types = bK.wt + 2) := by
    rcases ax : t.types with _ | ⟨a, _ | ⟨b, l⟩⟩
    · exact ⟨.mk [] 0 [], by simp, by simp, by simp⟩
    · refine ⟨a, λ_ => ai.dF a, λ_ => ⟨g4 a (by rw [ax]; simp), aI.bK a (by rw [ax]; simp), ?_⟩, λ_ => rfl⟩
      have := BC ai.wt (l := t.types) (x := a) (by rw [ax]; simp)
      omega
    · exact ⟨a, by simp, by simp, by simp⟩
  obtain ⟨_, abj, sD, l0, oW, gj, hU, iw, jm, mS, ot, pq, pO⟩ := aI
  obtain ⟨dl, cB⟩ := l0
  obtain ⟨aZ, aN⟩ := oW
  have ej := λh => aeY (t := t) h
  have gv := λh => af2 (t := t) h
  have dg := λh => ah4 (t := t) h
  have EV : t.kind = 1 ∨ t.kind = 2 ∨ t.kind = 3 ∨ t.kind = 4 ∨ t.kind = 5 ∨ t.kind = 6 ∨ t.kind = 7 ∨ t.kind = 8 ∨ t.kind = 9 ∨ t.kind = 10 ∨ t.kind = 11 ∨ t.kind = 12 ∨ t.kind = 13 ∨ t.kind = 15 ∨ t.kind = 20 ∨ t.kind = 14 ∨ ¬ (t.kind = 1 ∨ t.kind = 2 ∨ t.kind = 3 ∨ t.kind = 4 ∨ t.kind = 5 ∨ t.kind = 6 ∨ t.kind = 7 ∨ t.kind = 8 ∨ t.kind = 9 ∨ t.kind = 10 ∨ t.kind = 11 ∨ t.kind = 12 ∨ t.kind = 13 ∨ t.kind = 15 ∨ t.kind = 20 ∨ t.kind = 14) := by omega
  rcases EV with ax | ax | ax | ax | ax | ax | ax | ax | ax | ax | ax | ax | ax | ax | ax | ax | ax
  · clear gj hU iw jm mS ot pq dg ej gv pe ml ks pO
    refine j0 ?_
    refine aK (Q.Re _) ?_
    rintro v A ⟨rfl, eK, rfl, eY, bq⟩
    refine j0 ?_
    exact ⟨rfl, _, rfl, by simp (disch := decide) only [f1, fq, e2, *], by first | omega | (simp only [List.length_append, List.length_cons, List.length_nil]; omega)⟩
  · clear gj hU iw jm mS ot pq dg ej gv pe ml ks pO
    refine j0 ?_
    refine aK (anv Q _) ?_
    rintro v A ⟨rfl, eK, rfl, eY, bq⟩
    refine j0 ?_
    exact ⟨rfl, _, rfl, by simp (disch := decide) only [f1, fq, e2, *], by first | omega | (simp only [List.length_append, List.length_cons, List.length_nil]; omega)⟩
  · clear gj hU iw jm mS ot pq dg ej gv pe ml ks pO
    refine j0 ?_
    exact ⟨rfl, _, rfl, by simp (disch := decide) only [f1, fq, e2, *], by first | omega | (simp only [List.length_append, List.length_cons, List.length_nil]; omega)⟩
  · have cn := gj (.inl ax)
    have lo := ej (by omega)
    clear gj hU iw jm mS ot pq dg ej gv pe ml ks pO
    refine j0 ?_
    refine aK (tS Q _ (vM _ (by omega)) (vS _ (by omega))) ?_
    rintro v A ⟨rfl, eK, rfl, eY, bq⟩
    refine j0 ?_
    refine aK (tS Q _ (vM _ (by omega)) (vS _ (by omega))) ?_
    rintro v A ⟨rfl, s2, rfl, ex, aS⟩
    refine j0 ?_
    exact ⟨rfl, _, rfl, by simp (disch := decide) only [f1, fq, e2, *], by first | omega | (simp only [List.length_append, List.length_cons, List.length_nil]; omega)⟩
  · have cn := hU ax
    have lo := gv (by omega)
    clear gj hU iw jm mS ot pq dg ej gv pe ml ks pO
    refine j0 ?_
    refine aK (tS Q _ (vM _ (by omega)) (vS _ (by omega))) ?_
    rintro v A ⟨rfl, eK, rfl, eY, bq⟩
    refine j0 ?_
    refine aK (tS Q _ (vM _ (by omega)) (vS _ (by omega))) ?_
    rintro v A ⟨rfl, s2, rfl, ex, aS⟩
    refine j0 ?_
    refine aK (tS Q _ (vM _ (by omega)) (vS _ (by omega))) ?_
    rintro v A ⟨rfl, mR, rfl, kd, bU⟩
    refine j0 ?_
    exact ⟨rfl, _, rfl, by simp (disch := decide) only [f1, fq, e2, *], by first | omega | (simp only [List.length_append, List.length_cons, List.length_nil]; omega)⟩
  · have cn := gj (.inr (.inl ax))
    have lo := ej (by omega)
    clear gj hU iw jm mS ot pq dg ej gv pe ml ks pO
    refine j0 ?_
    refine aK (tS Q _ (vM _ (by omega)) (vS _ (by omega))) ?_
    rintro v A ⟨rfl, eK, rfl, eY, bq⟩
    refine j0 ?_
    refine aK (tS Q _ (vM _ (by omega)) (vS _ (by omega))) ?_
    rintro v A ⟨rfl, s2, rfl, ex, aS⟩
    refine j0 ?_
    exact ⟨rfl, _, rfl, by simp (disch := decide) only [f1, fq, e2, *], by first | omega | (simp only [List.length_append, List.length_cons, List.length_nil]; omega)⟩
  · clear gj hU iw jm mS ot pq dg ej gv pe ml ks pO
    refine j0 ?_
    refine aK (Ow Q _ t.types (by omega) (by omega) O4) ?_
    rintro v A ⟨rfl, eK, rfl, eY, bq⟩
    refine j0 ?_
    refine aK (Dl Q _ _ t.kids rfl (by omega) (by omega) aw) ?_
    rintro v A ⟨rfl, s2, rfl, ex, aS⟩
    refine j0 ?_
    exact ⟨rfl, _, rfl, by simp (disch := decide) only [f1, fq, e2, *], by first | omega | (simp only [List.length_append, List.length_cons, List.length_nil]; omega)⟩
  · have cn := gj (.inr (.inr ax))
    have lo := ej (by omega)
    clear gj hU iw jm mS ot pq dg ej gv pe ml ks pO
    refine j0 ?_
    refine aK (Vb Q t) ?_
    rintro v A ⟨rfl, dl, rfl, m1⟩
    refine j0 ?_
    refine aK (Vb Q t) ?_
    rintro v A ⟨rfl, cB, rfl, m2⟩
    (conv => whnf)
    refine .nice (by omega) ?_
    (conv => whnf)
    refine ahk 14 3 ?_ λm e hm => ?_
    · (conv => whnf)
      refine fK (λ_ => ?_) (λ_ => ?_)
      · (conv => whnf)
        exact ⟨rfl, 2, _, by decide, rfl⟩
      · (conv => whnf)
        exact ⟨rfl, dl, _, m1, rfl⟩
    · refine j0 ?_
      refine aK (FC Q _ _ (by omega) (vM _ (by omega)) (vS _ (by omega))) ?_
      rintro v A ⟨rfl, arR, rfl, jO, Ga⟩
      refine j0 ?_
      refine aK (FC Q _ _ (by omega) (vM _ (by omega)) (vS _ (by omega))) ?_
      rintro v A ⟨rfl, asa, rfl, aju, XD⟩
      refine j0 ?_
      exact ⟨rfl, _, rfl, by simp (disch := decide) only [f1, fq, e2, *], by first | omega | (simp only [List.length_append, List.length_cons, List.length_nil]; omega)⟩
  · clear gj hU iw jm mS ot pq dg ej gv pe ml ks pO
    refine j0 ?_
    refine aK (Ow Q _ t.types (by omega) (by omega) O4) ?_
    rintro v A ⟨rfl, eK, rfl, eY, bq⟩
    refine j0 ?_
    refine aK (Dl Q _ _ t.kids rfl (by omega) (by omega) aw) ?_
    rintro v A ⟨rfl, s2, rfl, ex, aS⟩
    refine j0 ?_
    exact ⟨rfl, _, rfl, by simp (disch := decide) only [f1, fq, e2, *], by first | omega | (simp only [List.length_append, List.length_cons, List.length_nil]; omega)⟩
  · have cn := pq (.inl ax)
    replace ml := ml cn
    replace ks := ks cn
    have lo := pe (by omega)
    clear gj hU iw jm mS ot pq dg ej gv pe pO
    refine B1 ?_
    refine aK (xO Q _ ks.1 ks.2.1 ks.2.2) ?_
    rintro v A ⟨rfl, eK, rfl, eY, bq⟩
    refine B1 ?_
    refine aK (Dl Q _ _ t.kids rfl (by omega) (by omega) aw) ?_
    rintro v A ⟨rfl, s2, rfl, ex, aS⟩
    refine B1 ?_
    exact ⟨rfl, _, rfl, by simp (disch := decide) only [f1, fq, e2, *], by first | omega | (simp only [List.length_append, List.length_cons, List.length_nil]; omega)⟩
  · have cn := ot ax
    clear gj hU iw jm mS ot pq dg ej gv pe ml ks pO
    refine j0 ?_
    refine aK (Ow Q _ t.types (by omega) (by omega) O4) ?_
    rintro v A ⟨rfl, eK, rfl, eY, bq⟩
    refine j0 ?_
    refine aK (acU Q _ t.fM _ _ t.kids rfl (by omega) (by omega) (by omega) abj aw) ?_
    rintro v A ⟨rfl, s2, rfl, ex, aS⟩
    refine j0 ?_
    exact ⟨rfl, _, rfl, by simp (disch := decide) only [f1, fq, e2, *], by first | omega | (simp only [List.length_append, List.length_cons, List.length_nil]; omega)⟩
  · have cn := iw ax
    have lo := (dg (by omega)).1
    clear gj hU iw jm mS ot pq dg ej gv pe ml ks pO
    refine j0 ?_
    refine aK (alx Q _ (ac7 _ (by omega)).1 (vM _ (by omega)) (ac7 _ (by omega)).2 (vS _ (by omega))) ?_
    rintro v A ⟨rfl, eK, rfl, eY, bq⟩
    refine j0 ?_
    exact ⟨rfl, _, rfl, by simp (disch := decide) only [f1, fq, e2, *], by first | omega | (simp only [List.length_append, List.length_cons, List.length_nil]; omega)⟩
  · have cn := jm ax
    have lo := (dg (by omega)).1
    have aJ : (t.kids.drop 1).length = t.kids.length - 1 := List.length_drop ..
    clear gj hU iw jm mS ot pq dg ej gv pe ml ks
    have asQ : 0 < t.fM.length := pO ax
    clear pO
    refine yI ?_
    refine aK (FC Q _ _ (by omega) (vM _ (by omega)) (vS _ (by omega))) ?_
    rintro v A ⟨rfl, eK, rfl, eY, bq⟩
    refine yI ?_
    refine aK (acU Q _ t.fM _ _ (t.kids.drop 1) (by simp [List.take_of_length_le]) (by omega) (by omega) (by omega) abj (λx I => aw x (List.mem_of_mem_drop I))) ?_
    rintro v A ⟨rfl, s2, rfl, ex, aS⟩
    refine yI ?_
    exact ⟨rfl, _, rfl, by simp (disch := decide) only [f1, fq, e2, *], by first | omega | (simp only [List.length_append, List.length_cons, List.length_nil]; omega)⟩
  · have cn := mS ax
    have lo := (dg (by omega))
    have aJ : (t.kids.drop 1).length = t.kids.length - 1 := List.length_drop ..
    have fZ : (t.kids.take 1).length ≤ 1 := by rw [List.length_take]; omega
    clear gj hU iw jm mS ot pq dg ej gv pe ml ks pO
    rcases Nat.lt_or_ge 1 t.kids.length with bO | bO
    · refine yI ?_
      refine aK (Dl Q _ _ (t.kids.take 1) (by simp) (by omega) (by omega) (λx I => aw x (List.mem_of_mem_take I))) ?_
      rintro v A ⟨rfl, eK, rfl, eY, bq⟩
      refine yI ?_
      refine aK (ad7 Q _ t.fV _ (t.kids.drop 1) (.inr ⟨_, _, rfl, by simp [List.take_of_length_le]⟩) (by omega) (by omega) (by omega) Yh sD (λx I => aw x (List.mem_of_mem_drop I))) ?_
      rintro v A ⟨rfl, s2, rfl, ex, aS⟩
      refine yI ?_
      exact ⟨rfl, _, rfl, by simp (disch := decide) only [f1, fq, e2, *], by first | omega | (simp only [List.length_append, List.length_cons, List.length_nil]; omega)⟩
    · refine yI ?_
      refine aK (Dl Q _ _ (t.kids.take 1) (by simp) (by omega) (by omega) (λx I => aw x (List.mem_of_mem_take I))) ?_
      rintro v A ⟨rfl, eK, rfl, eY, bq⟩
      refine yI ?_
      refine aK (ad7 Q _ t.fV _ (t.kids.drop 1) (.inl (List.length_eq_zero_iff.1 (by omega))) (by omega) (by omega) (by omega) Yh sD (λx I => aw x (List.mem_of_mem_drop I))) ?_
      rintro v A ⟨rfl, s2, rfl, ex, aS⟩
      refine yI ?_
      exact ⟨rfl, _, rfl, by simp (disch := decide) only [f1, fq, e2, *], by first | omega | (simp only [List.length_append, List.length_cons, List.length_nil]; omega)⟩
  · clear gj hU iw jm mS ot pq dg ej gv pe ml ks pO
    refine j0 ?_
    refine aK (Q.Re _) ?_
    rintro v A ⟨rfl, eK, rfl, eY, bq⟩
    refine j0 ?_
    exact ⟨rfl, _, rfl, by simp (disch := decide) only [f1, fq, e2, *], by first | omega | (simp only [List.length_append, List.length_cons, List.length_nil]; omega)⟩
  · have cn := pq (.inr ax)
    replace ml := ml cn
    replace ks := ks cn
    have lo := pe (by omega)
    clear gj hU iw jm mS ot pq dg ej gv pe pO
    refine B1 ?_
    refine aK (Dl Q _ _ t.kids rfl (by omega) (by omega) aw) ?_
    rintro v A ⟨rfl, eK, rfl, eY, bq⟩
    refine B1 ?_
    refine cT (Bv Q _ _) ?_
    obtain ⟨vT, yr⟩ := CD (n := (t.kids.map aj.row).length) eY bq
    generalize (if (t.kids.map aj.row).length = 0 then [] else eK) = D at *
    refine B1 ?_
    refine aK (xO Q _ ks.1 ks.2.1 ks.2.2) ?_
    rintro v A ⟨rfl, mR, rfl, kd, bU⟩
    refine B1 ?_
    exact ⟨rfl, _, rfl, by simp (disch := decide) only [f1, fq, e2, *], by first | omega | (simp only [List.length_append, List.length_cons, List.length_nil]; omega)⟩
  · clear gj hU iw jm mS ot pq dg ej gv pe ml ks pO
    (conv => whnf)
    repeat (first | refine .no (NI λh => ax (by rw [h]; decide)) ?_ | refine gz.mk (by omega) (jM.mk _ (az _ (by omega)) ?_) | refine jM.mk _ (az _ (by omega)) ?_ | refine b9 ?_); (conv => whnf)
    clear ax
    refine aK (apQ Q _) ?_
    rintro v A ⟨rfl, ij, rfl, qv, ma⟩
    (conv => whnf)
    repeat (first | refine gz.mk (by omega) (jM.mk _ (az _ (by omega)) ?_) | refine jM.mk _ (az _ (by omega)) ?_ | refine b9 ?_); (conv => whnf)
    refine aK (Ow Q _ t.types (by omega) (by omega) O4) ?_
    rintro v A ⟨rfl, eK, rfl, eY, bq⟩
    (conv => whnf)
    repeat (first | refine gz.mk (by omega) (jM.mk _ (az _ (by omega)) ?_) | refine jM.mk _ (az _ (by omega)) ?_ | refine b9 ?_); (conv => whnf)
    refine aK (Dl Q _ _ t.kids rfl (by omega) (by omega) aw) ?_
    rintro v A ⟨rfl, s2, rfl, ex, aS⟩
    (conv => whnf)
    repeat (first | refine gz.mk (by omega) (jM.mk _ (az _ (by omega)) ?_) | refine jM.mk _ (az _ (by omega)) ?_ | refine b9 ?_); (conv => whnf)
    exact ⟨rfl, _, rfl, by simp (disch := decide) only [f1, fq, e2, *], by first | omega | (simp only [List.length_append, List.length_cons, List.length_nil]; omega)⟩
omit Q in
def On{t}(h:t.mB pp):Ks t/\∀x∈t.kids,x.mB pp:=by rw[aj.Cz,c6,f0] at h;exact⟨al3 t h.1,h.2⟩
def abD:∀t:aj,t.bL->t.mB pp->t.wt<1000000000000->bj C [] 38 [.J (.agg t.cells)] [] (jY t.wt):=
 aj.ind λt bB B F ah=>ak2 Q t B (On F).1 ah (λi aH=>⟨B.p6 (Mr aH),(On ((On F).2 _ (Mr aH))).1⟩) λx I=>bB x I (B.p6 I) ((On F).2 x I) (by have:=Et I;rw[aj.z2] at ah;omega)
end
section
variable{C:Nat->cG}{ext:Nat->Option e0}{ab:fD}(Q:Env C ext ab)
include Q
def C4(n w:Nat)(v:b2)(A:be):Prop:=A=[]/\∃s,v=.str s/\fe s=n/\s.length<=w/\∃cP,s=cP++[10]
theorem Fv(n )(N x )(w : bM)(bx : w.length ≤ 100)(aB : fe w = 0) : bj C [] 179 [.J (.int 3 n), .J (.bool N), .J (.bool x), .J (.str w)] [] (jY (40 + w.length)) := by
  refine Q.z 179 cY rfl rfl ?_
  (conv => whnf)
  repeat' (first | (refine aK (Q.itoa n) ?_; rintro v A ⟨rfl, s, rfl, B, F⟩) | refine b9 ?_ | refine aN ?_ | refine s2 ?_ ?_ <;> intros | fail) <;> (conv => whnf)
  all_goals exact ⟨rfl, _, rfl, by simp (disch := decide) only [f1, fq, e2, *], by simp only [List.length_append, List.length_cons, List.length_nil]; omega⟩
def adP(g)(l:List bM)(K:l.length<100)(h:∀s∈l,iH 16 s):bj C [] 180 [.J (.aQ g (l.map cu))] [] (jY (18*l.length+2)):=by refine Q.z 180 cY rfl rfl ?_;have B:=Wn (k:=2) (m:=16) (sep:=[44,32]) ag λs ak=>(h s ak).2;have F:=EU (sep:=[44,32]) (by simp(disch:=decide) only[fq,e2]) l λs ak=>(h s ak).1;refine aG ?_;refine jL (Q.join _ l [44,32] Y Y) ?_;refine cT (Bv Q _ _) ?_;obtain⟨vT,yr⟩:=CD (n:=(l.map cu).length) (w:=18*l.length+2) (s:=[91]++ie [44,32] l++[93]) (by simp(disch:=decide) only[f1,fq,e2,F]) pu;refine aG ?_;exact⟨rfl,_,rfl,vT,yr⟩
structure HX(x:cX):Prop where
 aR:iH 16 x.aR
 dZ:∀s∈x.dZ,iH 33 s
 len:x.dZ.length<100
abbrev cX.wt(x:cX):Nat:=20+36*x.dZ.length
def ahR(x)(h:HX x):bj C [] 263 [.J (.agg x.row)] [] (jY (20+36*x.dZ.length)):=by refine Q.z 263 cY rfl rfl ?_;have cb:=h.aR.2;have K:=h.len;have B:=Wn (k:=3) (m:=33) (sep:=[32,43,32]) ag λs ak=>(h.dZ s ak).2;have F:=EU (sep:=[32,43,32]) (by simp(disch:=decide) only[fq,e2]) x.dZ λs ak=>(h.dZ s ak).1;unfold cX.row;refine aG ?_;refine jL (Q.join _ x.dZ [32,43,32] Y Y) ?_;refine cT (Bv Q _ _) ?_;obtain⟨vT,yr⟩:=CD (n:=(x.dZ.map cu).length) (w:=36*x.dZ.length+2) (s:=[58,32]++ie [32,43,32] x.dZ) (by simp(disch:=decide) only[f1,fq,e2,F]) pu;generalize(if(x.dZ.map cu).length=0 then [] else [58,32]++ie [32,43,32] x.dZ)=D at*;refine b8 ?_;exact⟨rfl,_,rfl,by simp only[f1,h.aR.1,vT],by simp only[gP];omega⟩
omit Q in
theorem Qb{α}{w}{m}:∀{l:List α},(∀x∈l,w x+2<=m)->cR w l<=m*l.length
 |[],_=>Nat.zero_le _
 |a::l,h=>by have B:=h a List.mem_cons_self;have F:=Qb λx I=>h x (List.mem_cons_of_mem _ I);simp only[cR,List.length_cons,Nat.mul_add,Nat.mul_one];omega
theorem WB(g)(l)(K:l.length<100)(h:∀x∈l,HX x):bj C [] 182 [.J (.aQ g (l.map cX.row))] [] (jY (cR cX.wt l+2)):=by
 refine Q.z 182 cY rfl rfl ?_;have bx:cR cX.wt l<=5000*l.length:=Qb λx I=>by have:=(h x I).len;show 20+36*x.dZ.length+2<=5000;omega
 refine aG ?_;refine aK ((Jj Q).2.2.2 cX.row rfl g 263 l cX.wt (by omega) (λx I=>ahR Q x (h x I)) (by omega)) ?_;rintro v A ⟨rfl,s,rfl,B,F⟩;refine b8 ?_;refine cT (Bv Q _ _) ?_;obtain⟨vT,yr⟩:=CD (n:=(l.map cX.row).length) (w:=cR cX.wt l+2) (s:=[91]++s++[93]) (by simp(disch:=decide) only[f1,fq,e2,B]) pu;refine aG ?_;exact⟨rfl,_,rfl,vT,yr⟩
abbrev Dk(t:ai):Prop:=t.bL/\t.lx=true
structure Z2(x:ec):Prop where
 aR:iH 16 x.aR
 pl:x.params.length<100
 n7:∀s∈x.params,iH 16 s
 f6:x.fields.length<100
 kq:∀f∈x.fields,iH 16 f.aR/\Dk f.bK
abbrev eF.wt(f:eF):Nat:=100+f.bK.wt
abbrev ec.wt(x:ec):Nat:=cR eF.wt x.fields+(200+20*x.params.length)
theorem ajS(x )(h : Z2 x)(bx : x.wt < 1000000000000) : bj C [] 60 [.J (.agg x.row)] [] (C4 (2 + x.fields.length) (cR eF.wt x.fields + (200 + 20 * x.params.length))) := by
  refine Q.z 60 (ia [(0, [4, 8], [], [])]) rfl rfl ?_
  obtain ⟨⟨dl, cB⟩, pl, n7, f6, kq⟩ := h
  have m1 : (x.fields.map eF.row).length = x.fields.length := List.length_map ..
  have bx : cR eF.wt x.fields + (200 + 20 * x.params.length) < 1000000000000 := bx
  unfold ec.row
  refine b8 ?_
  refine aK (Fv Q _ _ _ _ (by decide) (by simp (disch := decide) only [fq, e2])) ?_
  rintro v A ⟨rfl, eK, rfl, eY, bq⟩
  simp only [List.length_cons, List.length_nil] at bq
  refine b8 ?_
  refine aK (adP Q _ x.params pl n7) ?_
  rintro v A ⟨rfl, s2, rfl, ex, aS⟩
  refine b8 ?_
  refine ko eF.row x.fields 7 (λd (s : bM) => [(3, .J (.str s))]) (λd s => []) (λd s => fe s = 1 + d.length ∧ s.length ≤ cR eF.wt d + (198 + 20 * x.params.length)) ⟨_, ⟨by simp (disch := decide) only [f1, fq, pA, e2, *]; rfl, by simp only [List.length_append, List.length_cons, List.length_nil, cR]; omega⟩, rfl⟩ (λd s y r ba ar aV ad bo bC => ?_) (λs ba bo => ?_)
  · obtain ⟨dD, dQ⟩ := bo
    obtain ⟨⟨gN, gj⟩, hU, iw⟩ := kq y (by simp [ar])
    have ak : cR eF.wt d + (100 + y.bK.wt + 2) ≤ cR eF.wt x.fields := by rw [ar, pL]; simp only [cR]; have e : y.wt = 100 + y.bK.wt := rfl; omega
    unfold eF.row at ad
    refine tl ?_
    refine aK (Fv Q _ _ _ _ (by decide) e2) ?_
    rintro v A ⟨rfl, mR, rfl, kd, bU⟩
    simp only [List.length_nil] at bU
    refine b8 ?_
    refine aK (xO Q y.bK hU iw (by omega)) ?_
    rintro v A ⟨rfl, oO, rfl, rT, cU⟩
    refine b8 ?_
    refine bC _ _ _ ⟨?_, ?_⟩ rfl
    · simp (disch := decide) only [f1, fq, pA, e2, List.length_append, List.length_cons, List.length_nil, *]
      omega
    · rw [pL, wR]
      have e : y.wt = 100 + y.bK.wt := rfl
      simp only [List.length_append, List.length_cons, List.length_nil]
      omega
  · obtain ⟨dD, dQ⟩ := bo
    refine de ?_
    refine b8 ?_
    refine ⟨rfl, _, rfl, ?_, ?_, s ++ [125], by simp⟩
    · simp (disch := decide) only [f1, fq, pA, e2, *]
      omega
    · simp only [List.length_append, List.length_cons, List.length_nil]
      omega
end
end Go.Tx
