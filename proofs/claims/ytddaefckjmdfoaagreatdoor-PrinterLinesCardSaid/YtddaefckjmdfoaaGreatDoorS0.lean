/- Part of the proof of PrinterLines. -/
import Derived.Test.YtddaefckjmdfoaaGreatDoorA1
set_option linter.all false
namespace Go.Tx
open Go Go.Ev
set_option maxRecDepth 100000
set_option maxHeartbeats 8000000
attribute [local irreducible] jJ mb bj lQ kS nj ie fe
section
variable{C:Nat->cG}{ext:Nat->Option e0}{ab:fD}(Q:Env C ext ab)
include Q
def apW(t:ai)(al:t.bL)(aw:∀x∈t.l,bj C [] 207 [.J (.agg x.cells)] [] λv A=>A=[]/\v=.int 3 x.gi):bj C [] 207 [.J (.agg t.cells)] [] λv A=>A=[]/\v=.int 3 t.gi:=by
 refine Q.z 207 (h9 [(0,[4,8],[1])]) rfl rfl ?_;have fy:=al.len;have aJ:=al.2;rw[ai.o1] at aJ;refine aG ?_;refine gE ai.row t.l 7 (λd=>[(3,.J (.int 3 (ai.e6 d)))]) (λ_=>True) ⟨trivial,rfl,rfl⟩ (λd x r ba ar aV ad bo bC=>?_) (λba bo=>?_)
 .rw[ai.dF] at ad;have I:x∈t.l:=by simp [ar]
  have B:=ai.ue I;have F:ai.e6 d<=ai.e6 t.l:=by rw[ar];exact ai.Fo _ _
  refine dx ?_;refine cj (aw x I) ?_;exact bC _ _ trivial (by rw[ai.zp];rfl) rfl
 .refine de ?_;exact⟨rfl,by rw[ai.o1,t8]⟩
def aiq:∀(t:ai),t.bL->bj C [] 207 [.J (.agg t.cells)] [] λv A=>A=[]/\v=.int 3 t.gi:=
 ai.ind λt bB h=>apW Q t h λx I=>bB x I (h.p6 I)
def ami(t:aj)(al:t.bL)(aw:∀x∈t.kids,bj C [] 90 [.J (.agg x.cells)] [] λv A=>A=[]/\v=.int 3 x.gi):bj C [] 90 [.J (.agg t.cells)] [] λv A=>A=[]/\v=.int 3 t.gi:=by
 refine Q.z 90 (h9 [(0,[4,8],[1])]) rfl rfl ?_;have fy:=al.len;have aJ:=al.2;have fZ:=aj.KT t;rw[aj.o1] at fZ;refine aG ?_;refine gE aj.row t.kids 7 (λd=>[(3,.J (.int 3 (aj.e6 d)))]) (λ_=>True) ⟨trivial,rfl,rfl⟩ (λd x r ba ar aV ad bo bC=>?_) (λba bo=>?_)
 .rw[aj.dF] at ad;have I:x∈t.kids:=by simp [ar]
  have B:=aj.ue I;have F:aj.e6 d<=aj.e6 t.kids:=by rw[ar];exact aj.Fo _ _
  refine dx ?_;refine cj (aw x I) ?_;exact bC _ _ trivial (by rw[aj.zp];rfl) rfl
 .refine de ?_;exact⟨rfl,by rw[aj.o1,t8]⟩
def agY:∀(t:aj),t.bL->bj C [] 90 [.J (.agg t.cells)] [] λv A=>A=[]/\v=.int 3 t.gi:=
 aj.ind λt bB h=>ami Q t h λx I=>bB x I (h.p6 I)
def akz(t:aj)(al:t.bL)(aw:∀x∈t.kids,bj C [] 94 [.J (.agg x.cells)] [] λv A=>A=[]/\v=.int 3 x.size):bj C [] 94 [.J (.agg t.cells)] [] λv A=>A=[]/\v=.int 3 t.size:=by
 refine Q.z 94 (h9 [(0,[4,8],[1])]) rfl rfl ?_;have fy:=al.len;have aJ:=al.2;rw[aj.size_eq] at aJ;refine aG ?_;refine gE aj.row t.kids 7 (λd=>[(3,.J (.int 3 (1+aj.e1 d)))]) (λ_=>True) ⟨trivial,rfl,rfl⟩ (λd x r ba ar aV ad bo bC=>?_) (λba bo=>?_)
 .rw[aj.dF] at ad;have I:x∈t.kids:=by simp [ar]
  have F:aj.e1 d+(x.size+aj.e1 r)=aj.e1 t.kids:=by rw[ar,aj.JK];rfl
  refine dx ?_;refine cj (aw x I) ?_;exact bC _ _ trivial (by rw[aj.JK,show aj.e1 [x]=x.size by simp [aj.e1],<-tI];rfl) rfl
 .refine de ?_;exact⟨rfl,by rw[aj.size_eq,t8]⟩
def ajK:∀(t:aj),t.bL->bj C [] 94 [.J (.agg t.cells)] [] λv A=>A=[]/\v=.int 3 t.size:=
 aj.ind λt bB h=>akz Q t h λx I=>bB x I (h.p6 I)
def YV(t:ai)(al:t.bL):bj C [] 92 [.J (.agg t.cells)] [] λv A=>A=[]/\v=.bool (decide (t.gi<=8)):=by refine Q.z 92 cY rfl rfl ?_;have aJ:=al.2;refine aG ?_;refine cj (aiq Q t al) ?_;exact⟨rfl,by rw[qL]⟩
def aj2(t:ai)(al:t.bL)(aw:∀x∈t.l,bj C [] 96 [.J (.agg x.cells)] [] λv A=>A=[]/\v=.bool x.ir):bj C [] 96 [.J (.agg t.cells)] [] λv A=>A=[]/\v=.bool t.ir:=by
 refine Q.z 96 cY rfl rfl ?_;have fy:=al.len;have hm:(t.l.map ai.row).length=t.l.length:=bW;have ak7:Ku C ai.row 210 [] t.l λx=> !x.ir:=by refine⟨by simp,λx I=>?_⟩;have R1:=aw x I;rw[ai.dF];refine Q.z 210 cY rfl rfl ?_;refine aG ?_;refine cj (R1) ?_;exact⟨rfl,rfl⟩
 have sG:=(TC Q).1 ai.row rfl t.g 210 [] t.l _ Y ak7
 (conv=>whnf)
 repeat' (first|refine cT sG ?_|refine bn ?_|refine aN ?_|refine s2 ?_ ?_<;>intros|fail)<;>(conv=>whnf)
 all_goals(refine⟨rfl,?_⟩;rw[ai.Ls];try rw[HI])
 .rw[iX Y];rfl
 .rw[qO Y];rfl
def Zu:∀(t:ai),t.bL->bj C [] 96 [.J (.agg t.cells)] [] λv A=>A=[]/\v=.bool t.ir:=
 ai.ind λt bB h=>aj2 Q t h λx I=>bB x I (h.p6 I)
def aj.xn(N:aj->Bool):Nat->aj->Bool
 |0,_=>false
 |n+1,e=>N e&&e.kids.all (aj.xn N n)
omit Q in
def aj.abq(N:aj->Bool):∀(n m:Nat)(e:aj),e.gi<=n->e.gi<=m->aj.xn N n e=aj.xn N m e
 |0,_,e,h,_=>by rw[aj.o1] at h;omega
 |n+1,0,e,_,h=>by rw[aj.o1] at h;omega
 |n+1,m+1,e,h,b5=>by
  rw[aj.o1] at h b5;simp only[aj.xn];congr 1;have:∀x∈e.kids,aj.xn N n x=aj.xn N m x:=λx I=>by have B:=aj.ue I;exact aj.abq N n m x Y Y
  rw[Bool.eq_iff_iff,f0,f0];exact⟨λh x I=>(this x I)▸h x I,λh x I=>(this x I).symm▸h x I⟩
omit Q in
def aj.Yp(N:aj->Bool)(n:Nat)(e:aj)(h:e.gi<=n):aj.xn N n e=aj.xn N e.gi e:=aj.abq N n e.gi e h (ez _)
def aj.mB(N:aj->Bool)(e:aj):Bool:=aj.xn N e.gi e
omit Q in
def aj.Cz(N:aj->Bool)(e:aj):e.mB N=(N e&&e.kids.all (aj.mB N)):=by
 unfold aj.mB;conv=>lhs;rw[aj.o1]
 simp only[aj.xn];congr 1;rw[Bool.eq_iff_iff,f0,f0];exact⟨λh x I=>(aj.Yp N _ x (aj.ue I))▸h x I,λh x I=>(aj.Yp N _ x (aj.ue I)).symm▸h x I⟩
def anK(t:aj)(al:t.bL)(f:Nat)(bJ:List b2)(N:aj->Bool)(ap:bJ.length<=1)(hp:∀x:aj,x.bL->bj C [] f (.J (.agg x.cells)::bJ.map .J) [] λv A=>A=[]/\v=.bool (N x))(aw:∀x∈t.kids,bj C [] 50 [.J (.agg x.cells),.J (.fn f [] bJ)] [] λv A=>A=[]/\v=.bool (x.mB N)):bj C [] 50 [.J (.agg t.cells),.J (.fn f [] bJ)] [] λv A=>A=[]/\v=.bool (t.mB N):=by
 refine Q.z 50 cY rfl rfl ?_;have fy:=al.len;have hm:(t.kids.map aj.row).length=t.kids.length:=bW;have ajh:∀e,Ku C aj.row 129 [.gc e [.fn f [] bJ] 0] t.kids λx=> !x.mB N:=by refine λe=>⟨by simp,λx I=>?_⟩;have R1:=aw x I;rw[aj.dF];refine Q.z 129 cY rfl rfl ?_;refine aG ?_;refine cj (R1) ?_;exact⟨rfl,rfl⟩
 have sG:=λe=>(TC Q).2.1 aj.row rfl t.g4 129 [.gc e [.fn f [] bJ] 0] t.kids _ Y (ajh e);have afe:=hp t al;rcases bJ with _|⟨a,_|⟨b,bJ⟩⟩
 rotate_left 2
 .simp at ap
 all_goals
  refine aG ?_
  refine cT (afe) ?_
  (conv=>whnf)
  repeat' (first|refine cT (sG _) ?_|refine bn ?_|refine aN ?_|refine s2 ?_ ?_<;>intros|fail)<;>(conv=>whnf)
  all_goals(refine⟨rfl,?_⟩;rw[aj.Cz];simp_all [HI])
def RR(f:Nat)(bJ:List b2)(N:aj->Bool)(ap:bJ.length<=1)(hp:∀x:aj,x.bL->bj C [] f (.J (.agg x.cells)::bJ.map .J) [] λv A=>A=[]/\v=.bool (N x)):∀(t:aj),t.bL->bj C [] 50 [.J (.agg t.cells),.J (.fn f [] bJ)] [] λv A=>A=[]/\v=.bool (t.mB N):=
 aj.ind λt bB h=>anK Q t h f bJ N ap hp λx I=>bB x I (h.p6 I)
end
section
variable{C:Nat->cG}{ext:Nat->Option e0}{ab:fD}(Q:Env C ext ab)
include Q
def xL(b:Nat):Bool:=vk b||vu b
def TG(b:UInt8):bj C [] 188 [.J (.int 4 b.toNat)] [] λv A=>A=[]/\v=.bool (vk b.toNat):=by
 refine Q.z 188 cY rfl rfl ?_
 (conv=>whnf)
 repeat' (first|refine bn ?_|refine aN ?_|refine s2 ?_ ?_<;>intros|fail)<;>(conv=>whnf)
 all_goals(refine⟨rfl,?_⟩;congr 1;rw[Bool.eq_iff_iff];simp_all [vk,qL];try omega)
def RV(b:UInt8):bj C [] 190 [.J (.int 4 b.toNat)] [] λv A=>A=[]/\v=.bool (vu b.toNat):=by
 refine Q.z 190 cY rfl rfl ?_
 (conv=>whnf)
 repeat' (first|refine bn ?_|refine aN ?_|refine s2 ?_ ?_<;>intros|fail)<;>(conv=>whnf)
 all_goals(refine⟨rfl,?_⟩;congr 1;rw[Bool.eq_iff_iff];simp_all [vu,qL];try omega)
def abP(b:UInt8):bj C [] 189 [.J (.int 4 b.toNat)] [] λv A=>A=[]/\v=.bool (xL b.toNat):=by
 refine Q.z 189 cY rfl rfl ?_;refine aG ?_;refine cT (TG Q b) ?_
 (conv=>whnf)
 repeat' (first|refine cT (RV Q b) ?_|refine bn ?_|refine aN ?_|refine s2 ?_ ?_<;>intros|fail)<;>(conv=>whnf)
 all_goals(refine⟨rfl,?_⟩;simp_all [xL])
def q0(N:UInt8->Bool)(s:bM)(a:Nat):Nat:=a+((s.drop a).takeWhile N).length
variable{i:Nat}{N:UInt8->Bool}{s:bM}
omit Q in
def WC(aH:i<s.length)(h:N s[i]):q0 N s (i+1)=q0 N s i:=by
 unfold q0;conv=>rhs;rw[y9 aH,List.takeWhile_cons,h]
 simp;omega
omit Q in
def aoJ(aH:i<s.length)(h:N s[i]=false):q0 N s i=i:=by unfold q0;rw[y9 aH,List.takeWhile_cons,h];simp
omit Q in
def amN:q0 N s s.length=s.length:=by unfold q0;simp
omit Q in
def Mn{a}(h:a<=s.length):a<=q0 N s a/\q0 N s a<=s.length:=by unfold q0;have:((s.drop a).takeWhile N).length<=(s.drop a).length:=(List.takeWhile_prefix N).length_le;rw[lu] at this;omega
def KK(s:bM)(a f)(N)(ak:s.length<1000000000)(aD:a<=s.length)(hp:∀b,bj C [] f [.J (.int 4 b.toNat)] [] λv A=>A=[]/\v=.bool (N b)):bj C [] 186 [.J (.str s),.J (.int 3 a),.J (.fn f [] [])] [] λv A=>A=[]/\v=.int 3 (q0 N s a):=by
 refine Q.z 186 (h9 [(0,[4],[])]) rfl rfl ?_;refine aG ?_;refine anI s.length a 1 (λ_=>[]) (λi=>q0 N s i=q0 N s a) ⟨aD,rfl,rfl,rfl⟩ (λi ba B aH bo bC=>?_) (λba bo=>?_)
 ·(conv=>whnf)
  repeat(first|refine .yes (cZ.2 aH) ?_|refine⟨aH,⟨_,na aH,?_⟩⟩|refine bn ?_);(conv=>whnf)
  refine cT (hp s[i]) ?_;cases ax:N s[i] with
  |true=>refine aG ?_;exact bC (i+1) _ _ Y Y (by rw[WC aH ax,bo]) rfl rfl
  |false=>refine aG ?_;exact⟨rfl,by rw[<-bo,aoJ aH ax]⟩
 ·(conv=>whnf)
  repeat(first|refine .no (lZ _) ?_|refine bn ?_);(conv=>whnf)
  exact⟨rfl,by rw[<-bo,amN]⟩
def QN:bM:=(ByteArray.mk (((([32,108,105,98,114,97,114,121,32,99,108,105,101,110,116,32,105,110,116,101,114,102,97,99,101,32,114,101,108,101,97,115].append [101,32,105,109,112,111,114,116,32,115,105,110,99,101,32,112,117,98,108,105,99,32,102,114,111,122,101,110,32,115,101,97,108]).append ([101,100,32,105,110,108,105,110,101,32,105,110,100,105,114,101,99,116,32,115,116,114,117,99,116,32,117,110,105,111,110,32].append [116,114,97,105,116,32,99,111,110,102,111,114,109,32,102,111,114,32,102,117,110,99,32,100,101,102,97,117,108,116,32,108,101])).append (([116,32,105,110,32,105,102,32,116,104,101,110,32,101,108,115,101,32,112,114,105,110,116,32,116,114,117,101,32,102,97,108].append [115,101,32,99,97,115,101,32,111,102,32,99,97,108,108,32,109,97,116,99,104,32,97,114,114,97,121,32,99,111,117,110,116]).append ([32,97,116,32,97,112,112,101,110,100,32,97,118,97,105,108,97,98,108,101,32,102,97,105,108,32,98,121,116,101,32,111].append [114,100,32,119,105,116,104,32,73,110,116,32,66,121,116,101,32,66,111,111,108,32,65,114,114,97,121,32,83,101,108,102,32]))):List UInt8).toArray).data.toList
def apB(s N:bM)(ak:s.length<1000000000)(hp:N.length<1000000000):bj C [] 281 [.J (.str s),.J (.str N)] [] λv A=>A=[]/\((¬N<:+:s/\v=.int 3 18446744073709551615)\/∃i,v=.int 3 i/\i+N.length<=s.length/\N<+:s.drop i/\∀M,M<i->¬N<+:s.drop M):=by
 refine Q.z 281 cY rfl rfl ?_;refine aG ?_;refine aK (Q.index s N ak hp) ?_;rintro v A ⟨rfl,au⟩;rcases au with⟨aB,rfl⟩|⟨i,rfl,aH,GG,Gm⟩
 .refine aG ?_;exact⟨rfl,.inl ⟨aB,rfl⟩⟩
 .refine aG ?_;exact⟨rfl,.inr ⟨i,rfl,aH,GG,Gm⟩⟩
def OU(s N:bM)(ak:s.length<1000000000)(hp:N.length<1000000000):bj C [] 215 [.J (.str s),.J (.str N)] [] λv A=>A=[]/\v=.bool (decide (N<:+:s)):=by
 refine Q.z 215 cY rfl rfl ?_;refine aG ?_;refine aK (apB Q s N ak hp) ?_;rintro v A ⟨rfl,au⟩;rcases au with⟨aB,rfl⟩|⟨i,rfl,aH,GG,Gm⟩
 ·(conv=>whnf)
  refine l8.mW ?_
  (conv=>whnf)
  repeat(first|refine .no qj ?_|refine bn ?_);(conv=>whnf)
  exact⟨rfl,by rw[qj,qO aB]⟩
 .refine aG ?_;refine⟨rfl,?_⟩;have:N<:+:s:=GG.isInfix.trans (List.drop_suffix i s).isInfix;rw[iX this];rfl
def Dj(s:bM):Bool:=decide (s≠[]/\¬([32]<:+:s)/\([32]++s++[32])<:+:QN)
def ajN(s:bM)(ak:s.length<1000):bj C [] 232 [.J (.str s)] [] λv A=>A=[]/\v=.bool (Dj s):=by
 refine Q.z 232 cY rfl rfl ?_;refine aG ?_;refine f4 (cC (λB=>?_) (λB=>?_))
 ·(conv=>whnf)
  repeat' (first|refine bn ?_|refine aN ?_|refine s2 ?_ ?_<;>intros|fail)<;>(conv=>whnf)
  all_goals exact⟨rfl,by simp [Dj,B]⟩
 refine aG ?_;refine cj (OU Q s [32] Y ag) ?_;refine f4 (eD (λF=>?_) (λF=>?_))
 ·(conv=>whnf)
  repeat' (first|refine bn ?_|refine aN ?_|refine s2 ?_ ?_<;>intros|fail)<;>(conv=>whnf)
  all_goals exact⟨rfl,by rw[Dj,qO λh=>h.2.1 (pC F)]⟩
 (conv=>whnf)
 repeat(first|refine⟨pu,?_⟩|refine bn ?_);(conv=>whnf)
 refine cj (OU Q QN ([32]++s++[32]) ag (by simp;omega)) ?_;refine⟨rfl,?_⟩;have F:¬[32]<:+:s:=of_decide_eq_false F;rw[Dj];congr 1;rw[Bool.eq_iff_iff];simp [B,F]
def j2(s:bM):Bool:=decide (s≠[]/\s.length<=16/\vk (s.headD 0).toNat=true/\s.all (λb=>xL b.toNat)=true/\Dj s=false)
omit Q in
def abh:(q0 N s 0=s.length)↔s.all N:=by
 unfold q0;rw[jq,List.drop_zero];constructor
 .intro h;have:s.takeWhile N=s:=(List.takeWhile_prefix N).eq_of_length h;rw[<-this];exact List.all_takeWhile
 .intro h;have:∀l:bM,l.all N=true->l.takeWhile N=l:=by
   intro l;induction l with
   |nil=>intro _;rfl
   |cons a l bB=>intro h;rw[An,c6] at h;rw[List.takeWhile_cons,h.1,bB h.2];rfl
  rw[this s h]
def pE(s:bM)(ak:s.length<1000):bj C [] 132 [.J (.str s)] [] λv A=>A=[]/\v=.bool (j2 s):=by
 refine Q.z 132 cY rfl rfl ?_;rcases s with _|⟨b,t⟩
 ·(conv=>whnf)
  repeat' (first|refine bn ?_|refine aN ?_|refine s2 ?_ ?_<;>intros|fail)<;>(conv=>whnf)
  all_goals exact⟨rfl,by simp [j2]⟩
 refine aG ?_;refine f4 (cC (λh=>by cases h) (λB=>?_));refine aG ?_;refine iN (λF=>?_) (λF=>?_);rotate_left
 ·(conv=>whnf)
  repeat' (first|refine bn ?_|refine aN ?_|refine s2 ?_ ?_<;>intros|fail)<;>(conv=>whnf)
  all_goals exact⟨rfl,by rw[j2,qO λh=>Y]⟩
 (conv=>whnf)
 repeat(first|refine⟨by simp,⟨b,rfl,?_⟩⟩|refine bn ?_);(conv=>whnf)
 refine cj (TG Q b) ?_;refine eD (λah=>?_) (λah=>?_);rotate_left
 ·(conv=>whnf)
  repeat' (first|refine bn ?_|refine aN ?_|refine s2 ?_ ?_<;>intros|fail)<;>(conv=>whnf)
  all_goals exact⟨rfl,by simp [j2,ah]⟩
 refine aG ?_;refine cj (KK Q (b::t) 0 189 (λb=>xL b.toNat) Y (by simp) λb=>abP Q b) ?_;refine fK (λaE=>?_) (λaE=>?_);rotate_left
 ·(conv=>whnf)
  repeat' (first|refine bn ?_|refine aN ?_|refine s2 ?_ ?_<;>intros|fail)<;>(conv=>whnf)
  all_goals exact⟨rfl,by rw[j2,qO λh=>aE (abh.2 h.2.2.2.1)]⟩
 refine aG ?_;refine cj (ajN Q (b::t) ak) ?_;refine⟨rfl,?_⟩;have bt:=abh.1 aE;rw[j2];congr 1;rw[Bool.eq_iff_iff];cases ad:Dj (b::t)<;>simp_all
def Ki(n)(aB:n<9223372036854775808):bj C [] 133 [.J (.int 3 n)] [] λv A=>A=[]/\v=.bool (decide (1<=n/\n<=1000)):=by
 refine Q.z 133 cY rfl rfl ?_
 (conv=>whnf)
 repeat' (first|refine bn ?_|refine aN ?_|refine s2 ?_ ?_<;>intros|fail)<;>(conv=>whnf)
 all_goals(refine⟨rfl,?_⟩;simp_all [qL])
def My(n)(s:bM)(aB:n<9223372036854775808)(ak:s.length<1000):bj C [] 142 [.J (.int 3 n),.J (.str s)] [] λv A=>A=[]/\v=.bool (decide (n<=1000)&&j2 s):=by
 refine Q.z 142 cY rfl rfl ?_
 (conv=>whnf)
 repeat' (first|refine cT (Ki Q n aB) ?_|refine cT (pE Q s ak) ?_|refine bn ?_|refine aN ?_|refine s2 ?_ ?_<;>intros|fail)<;>(conv=>whnf)
 all_goals(refine⟨rfl,?_⟩;first|(simp_all;done)|(rw[qO (by simp_all;omega)];rfl)|(rw[iX (by simp_all)];rfl))
theorem T9(t:aj)(al:t.bL):bj C [] 127 [.J (.agg t.cells)] [] λv A=>A=[]/\v=.bool (!t.zero):=by
 refine Q.z 127 cY rfl rfl ?_;have B:=al.one;have df:(t.types.map ai.row).length=t.types.length:=bW;have cH:(t.fM.map cu).length=t.fM.length:=bW;have dh:(t.fV.map fC.row).length=t.fV.length:=bW;have fj:(t.kids.map aj.row).length=t.kids.length:=bW;have g1:=B.2.2.1;have g2:=B.2.2.2.2.1;have g3:=B.2.2.2.2.2.2.1;have g4:=B.2.2.2.2.2.2.2.2.1
 (conv=>whnf)
 repeat' (first|refine bn ?_|refine aN ?_|refine s2 ?_ ?_<;>intros|fail)<;>(conv=>whnf)
 all_goals(refine⟨rfl,?_⟩;congr 1;rw[Bool.eq_iff_iff];simp_all [aj.zero,O8,<-List.length_eq_zero_iff];try omega)
def alE(s:bM):bj C [] 174 [.J (.str s)] [] λv A=>A=[]/\v=.bool (AM s):=by
 refine Q.z 174 cY rfl rfl ?_
 (conv=>whnf)
 repeat' (first|refine bn ?_|refine aN ?_|refine s2 ?_ ?_<;>intros|fail)<;>(conv=>whnf)
 all_goals(refine⟨rfl,?_⟩;simp_all [AM,IN])
omit Q in
def T3{s:bM}{i}:[46]<+:s.drop i↔s[i]?=some 46:=by
 constructor
 .rintro⟨t,h⟩;have:(s.drop i)[0]?=some 46:=by rw[<-h];rfl
  rwa [Aa,sb] at this
 .intro h;obtain⟨aH,h⟩:=jb.1 h;rw[y9 aH,h];exact⟨_,rfl⟩
omit Q in
def ahn{s:bM}{i}(h:s[i]?=some 46)(aI:∀M,M<i->s[M]?≠some 46):s.idxOf 46=i:=by obtain⟨aH,h⟩:=jb.1 h;refine SZ aH (λhm=>?_) h;obtain⟨M,bb,ar⟩:=LY hm;rw[jC] at bb;refine aI M Y ?_;rw[jb];exact⟨Y,by rw[<-ar,List.getElem_take]⟩
def ajt(s:bM)(ak:s.length<1000):bj C [] 290 [.J (.str s),.J (.str [46])] [] λv A=>A=[]/\v=(if 46∈s then .eJ [.str (s.take (s.idxOf 46)),.str (s.drop (s.idxOf 46+1)),.bool true] else .eJ [.str s,.str [],.bool false]):=by
 refine Q.z 290 cY rfl rfl ?_;refine aG ?_;refine aK (Q.index s [46] (by omega) (by decide)) ?_;rintro v A ⟨rfl,au⟩;rcases au with⟨aB,rfl⟩|⟨i,rfl,aH,GG,Gm⟩
 ·(conv=>whnf)
  refine l8.mW ?_
  (conv=>whnf)
  repeat(first|refine .no qj ?_|refine bn ?_);(conv=>whnf)
  have:46∉s:=λhm=>aB (by obtain⟨M,bb,ar⟩:=LY hm;exact((T3 (i:=M)).2 (jb.2 ⟨bb,ar⟩)).isInfix.trans (List.drop_suffix M s).isInfix);exact⟨rfl,by rw[bA this]⟩
 .have LX:=(T3).1 GG;have I:=ahn LX λM bb aw=>Gm M bb (T3.2 aw);have hm:46∈s:=uo LX;have K:[(46:UInt8)].length=1:=rfl
  (conv=>whnf)
  repeat(first|refine⟨by omega,?_⟩|refine .yes (dn.2 (mz _)) ?_|refine bn ?_);(conv=>whnf)
  refine⟨rfl,?_⟩;rw[b3 hm,I];show b2.eJ [.str (s.take i),.str ((s.drop (i+1)).take (s.length - (i+1))),.bool true]=_;rw[<-lu,H5]
def agO(s:bM)(ak:s.length<1000):bj C [] 235 [.J (.str s),.J (.str [46])] [] λv A=>A=[]/\v=(if 46∈s then .eJ [.str (s.take (s.idxOf 46)),.str (s.drop (s.idxOf 46+1)),.bool true] else .eJ [.str s,.str [],.bool false]):=by
 refine Q.z 235 cY rfl rfl ?_;refine aG ?_;refine cT (ajt Q s ak) ?_;by_cases h:46∈s
 .rw[b3 h];refine aG ?_;exact⟨rfl,rfl⟩
 .rw[bA h];refine aG ?_;exact⟨rfl,rfl⟩
def qV(s:bM):Bool:=if 46∈s then j2 (s.take (s.idxOf 46))&&j2 (s.drop (s.idxOf 46+1)) else j2 s
def DW(s:bM)(ak:s.length<1000):bj C [] 137 [.J (.str s)] [] λv A=>A=[]/\v=.bool (qV s):=by
 refine Q.z 137 cY rfl rfl ?_;refine aG ?_;refine cT (agO Q s ak) ?_;by_cases h:46∈s
 .rw[b3 h]
  (conv=>whnf)
  repeat' (first|refine cT (pE Q (s.take (s.idxOf 46)) (by rw[jC];omega)) ?_|refine cT (pE Q (s.drop (s.idxOf 46+1)) (by rw[lu];omega)) ?_|refine bn ?_|refine aN ?_|refine s2 ?_ ?_<;>intros|fail)<;>(conv=>whnf)
  all_goals(refine⟨rfl,?_⟩;rw[qV,b3 h];simp_all)
 .rw[bA h]
  (conv=>whnf)
  repeat' (first|refine cT (pE Q s ak) ?_|refine bn ?_|refine aN ?_|refine s2 ?_ ?_<;>intros|fail)<;>(conv=>whnf)
  all_goals(refine⟨rfl,?_⟩;rw[qV,bA h];simp_all)
mutual
def ai.lx:ai->Bool
 |.mk aR _ l=>(AM aR||qV aR)&&ai.E2 l
def ai.E2:List ai->Bool
 |[]=>true
 |a::l=>a.lx&&ai.E2 l
end
omit Q in
def ai.Ze:∀l,ai.E2 l=l.all ai.lx
 |[]=>rfl
 |a::l=>by rw[ai.E2,ai.Ze l];rfl
omit Q in
def ai.aa2(t:ai):t.lx=((AM t.aR||qV t.aR)&&t.l.all ai.lx):=by cases t;rw[ai.lx,ai.Ze];rfl
def agr(t:ai)(al:t.bL)(aw:∀x∈t.l,bj C [] 56 [.J (.agg x.cells)] [] λv A=>A=[]/\v=.bool x.lx):bj C [] 56 [.J (.agg t.cells)] [] λv A=>A=[]/\v=.bool t.lx:=by
 refine Q.z 56 cY rfl rfl ?_;have fy:=al.len;have aB:=((ai.u2 t).1 al.1).1;have hm:(t.l.map ai.row).length=t.l.length:=bW;have sG:=(nf Q).1 ai.row rfl t.g 56 [] t.l ai.lx Y ⟨by simp,λx I=>by rw[ai.dF];exact aw x I⟩;refine aG ?_;refine cT (alE Q t.aR) ?_
 (conv=>whnf)
 repeat' (first|refine cT (DW Q t.aR aB) ?_|refine cT sG ?_|refine bn ?_|refine aN ?_|refine s2 ?_ ?_<;>intros|fail)<;>(conv=>whnf)
 all_goals(refine⟨rfl,?_⟩;rw[ai.aa2];simp_all)
def acJ:∀(t:ai),t.bL->bj C [] 56 [.J (.agg t.cells)] [] λv A=>A=[]/\v=.bool t.lx:=
 ai.ind λt bB h=>agr Q t h λx I=>bB x I (h.p6 I)
def Fq(s:bM)(k:Nat):Bool:=if k=1 then j2 s else if k=2 then qV s else if k=3 then decide (s∈BS) else decide (s=[])
def afg(s:bM)(k:Nat)(ak:s.length<1000):bj C [] 131 [.J (.str s),.J (.int 3 k)] [] λv A=>A=[]/\v=.bool (Fq s k):=by
 refine Q.z 131 cY rfl rfl ?_
 (conv=>whnf)
 repeat' (first|refine cT (pE Q s ak) ?_|refine cT (DW Q s ak) ?_|refine cT (aj6 Q _ BS s ag) ?_|refine bn ?_|refine aN ?_|refine s2 ?_ ?_<;>intros|fail)<;>(conv=>whnf)
 all_goals(refine⟨rfl,?_⟩;simp_all [Fq,IN])
end
section
variable{C:Nat->cG}{ext:Nat->Option e0}{ab:fD}(Q:Env C ext ab)
include Q
def wL(k:Nat):Option (Nat×Bool×Bool×Nat×Nat×Bool×Bool):=
 if k=1\/k=2 then some (0,false,true,0,0,false,false)
 else if k=3 then some (1,false,false,0,0,false,false)
 else if k=4 then some (1,false,false,0,2,false,false)
 else if k=5 then some (0,false,false,0,3,false,false)
 else if k=6\/k=18\/k=19 then some (0,false,false,0,2,false,false)
 else if k=7 then some (0,false,false,1,1,false,false)
 else if k=8 then some (3,false,false,0,2,false,false)
 else if k=9 then some (2,false,false,lO,lO,false,false)
 else if k=10 then some (2,true,false,1,lO,false,false)
 else if k=11 then some (2,false,false,lO,0,true,false)
 else if k=12 then some (0,true,false,0,1,false,false)
 else if k=13 then some (0,false,false,0,1,true,false)
 else if k=14 then some (0,true,false,1,lO,false,false)
 else if k=15 then some (0,false,false,0,1,false,true)
 else if k=16 then some (0,false,false,1,lO,false,false)
 else if k=17\/k=23\/k=24 then some (0,false,false,0,1,false,false)
 else if k=20 then some (1,false,true,0,0,false,false)
 else none
def Lq(N:Nat×Bool×Bool×Nat×Nat×Bool×Bool):List b2:=[.int 3 N.1,.bool N.2.1,.bool N.2.2.1,.int 3 N.2.2.2.1,.int 3 N.2.2.2.2.1,.bool N.2.2.2.2.2.1,.bool N.2.2.2.2.2.2]
theorem aaX(n:Nat):bj C [] 130 [.J (.int 3 n)] [] λv A=>A=[]/\v=(match wL n with|some l=>.eJ [.agg (Lq l),.bool true]|none=>.eJ [.agg (Lq (0,false,false,0,0,false,false)),.bool false]):=by
 refine Q.z 130 cY rfl rfl ?_
 (conv=>whnf)
 repeat' (first|refine bn ?_|refine aN ?_|refine s2 ?_ ?_<;>intros|fail)<;>(conv=>whnf)
 all_goals(refine⟨rfl,?_⟩;simp_all [wL,Lq,lO])
omit Q in
theorem abf(k):(ut k=none/\wL k=none)\/k=1\/k=2\/k=3\/k=4\/k=5\/k=6\/k=7\/k=8\/k=9\/k=10\/k=11\/k=12\/k=13\/k=14\/k=15\/k=16\/k=17\/k=18\/k=19\/k=20\/k=23\/k=24:=by
 rcases kinds k with h|h
 .left
  refine⟨h,?_⟩
  have:¬(k=1\/k=2\/k=3\/k=4\/k=5\/k=6\/k=7\/k=8\/k=9\/k=10\/k=11\/k=12\/k=13\/k=14\/k=15\/k=16\/k=17\/k=18\/k=19\/k=20\/k=23\/k=24):=by
   intro az
   rcases az with rfl|rfl|rfl|rfl|rfl|rfl|rfl|rfl|rfl|rfl|rfl|rfl|rfl|rfl|rfl|rfl|rfl|rfl|rfl|rfl|rfl|rfl<;>simp [ut] at h
  unfold wL
  repeat rw[if_neg Y]
 .exact .inr h
def sW(n i:Nat)(a:fC):Bool:=if a.uD then decide (i+1=n/\a.case=[]/\a.names=[]) else j2 a.case&&a.names.all j2
def xA(l:List fC):Bool:=(List.range l.length).all λi=>match l[i]? with|some a=>sW l.length i a|none=>true
theorem agi(g)(l)(h:l.length<100)(K:∀a∈l,a.ok):bj C [] 135 [.J (.aQ g (l.map fC.row))] [] λv A=>A=[]/\v=.bool (xA l):=by
 refine Q.z 135 (h9 [(0,[2,3,7,8,9,10],[])]) rfl rfl ?_
 have hm:(l.map fC.row).length=l.length:=bW
 have yes:(∀i a,i<l.length->l[i]?=some a->sW l.length i a=true)->xA l=true:=by
  intro h
  rw[xA,List.all_eq_true]
  intro i aH
  rw[List.mem_range] at aH
  rw[List.getElem?_eq_getElem aH]
  exact h i _ aH (List.getElem?_eq_getElem aH)
 have no:∀i a,l[i]?=some a->sW l.length i a=false->xA l=false:=by
  intro i a aD aI
  have aH:=(List.getElem?_eq_some_iff.1 aD).1
  cases aw:xA l with
  |false=>rfl
  |true=>
   rw[xA,List.all_eq_true] at aw
   have:=aw i (List.mem_range.2 aH)
   rw[aD] at this
   simp only[aI] at this
   cases this
 refine aG ?_
 refine gE fC.row l 6 (λd=>[]) (λd=>∀i a,i<d.length->l[i]?=some a->sW l.length i a=true) ⟨by simp,rfl,rfl⟩ (λd x r ba ar aV ad bo bC=>?_) (λba bo=>?_)
 .have I:=K x (by simp [ar])
  have Ft:(x.names.map cu).length=x.names.length:=bW
  have lq:=I.2.1
  have qD:l.length=d.length+(r.length+1):=by rw[ar];simp
  have abN:l[d.length]?=some x:=by rw[ar];simp
  have aaQ:=no d.length x abN
  have step:sW l.length d.length x=true->∀i a,i<(d++[x]).length->l[i]?=some a->sW l.length i a=true:=by
   intro I i a aH aD
   rw[List.length_append] at aH
   rcases Nat.lt_or_ge i d.length with h|h
   .exact bo i a h aD
   .have:i=d.length:=by simp at aH;omega
    subst this
    rw[abN] at aD
    cases aD
    exact I
  unfold fC.row at ad
  refine dx ?_
  refine eD (λB=>?_) (λB=>?_)
  ·(conv=>whnf)
   repeat' (first|refine .yes B ?_|refine bn ?_|refine aN ?_|refine s2 ?_ ?_<;>intros|fail)<;>(conv=>whnf)
   all_goals first
    |exact⟨rfl,by rw[aaQ (by rw[sW,if_pos B];exact decide_eq_false λh=>(by first|omega|exact absurd h.2.1 (by assumption)|(have ah:x.names.length=0:=(by rw[h.2.2];rfl);omega)))]⟩
    |exact bC _ _ (step (by rw[sW,if_pos B];exact decide_eq_true ⟨Y,by assumption,List.length_eq_zero_iff.1 Y⟩)) rfl rfl
  .have so:¬x.uD=true:=by rw[B];decide
   (conv=>whnf)
   repeat' (first|refine .no B ?_|refine cT (pE Q x.case I.1) ?_|refine cT (KS Q x.g 132 [] x.names j2 Y ⟨by simp,λs ak=>pE Q s (I.2.2 s ak)⟩) ?_|refine bn ?_|refine aN ?_|refine s2 ?_ ?_<;>intros|fail)<;>(conv=>whnf)
   all_goals first
    |exact⟨rfl,by rw[aaQ (by rw[sW,if_neg so];simp_all)]⟩
    |exact bC _ _ (step (by rw[sW,if_neg so];simp_all)) rfl rfl
 .refine de ?_
  exact⟨rfl,by rw[yes bo]⟩
def pp(e:aj):Bool:=match wL e.kind with
 |none=>false
 |some N=>Fq e.aR N.1&&(N.2.1==decide (e.mem≠[]))&&(!N.2.1||j2 e.mem)&&(N.2.2.1||decide (e.num=0))&&(N.2.2.2.2.2.1||decide (e.fM.length=0))&&(N.2.2.2.2.2.2||decide (e.fV.length=0))&&(decide (N.2.2.2.1=lO)||decide (e.types.length=N.2.2.2.1))&&
  (decide (N.2.2.2.2.1=lO)||decide (e.kids.length=N.2.2.2.2.1+e.fM.length+e.fV.length))&&
  (if e.kind=2 then decide (e.num=0\/e.num=1) else if e.kind=20 then decide (1<=e.num/\e.num<=1000) else if e.kind=13 then decide (0<e.fM.length)&&e.fM.all j2 else if e.kind=15 then xA e.fV else e.fM.all j2&&e.types.all ai.lx)
theorem aiY(t)(al:t.bL):bj C [] 51 [.J (.agg t.cells)] [] λv A=>A=[]/\v=.bool (pp t):=by
 refine Q.z 51 cY rfl rfl ?_
 obtain⟨B,F,ah,aE,bt,b1,ep,fm,hI,oc⟩:=al.one
 clear al
 obtain⟨kind,aR,mem,num,g1,types,g2,fM,g3,fV,g4,kids,bK,pos⟩:=t
 simp only[aj.aR,aj.mem,aj.types,aj.fM,aj.fV,aj.kids,aj.num] at B F ah aE bt b1 ep fm hI oc
 have df:(types.map ai.row).length=types.length:=bW
 have cH:(fM.map cu).length=fM.length:=bW
 have dh:(fV.map fC.row).length=fV.length:=bW
 have fj:(kids.map aj.row).length=kids.length:=bW
 rcases abf kind with az|az
 ·(conv=>whnf)
  repeat(refine bn ?_;conv=>whnf)
  refine aK (aaX Q kind) ?_
  rintro v A ⟨rfl,au⟩
  rw[az.2] at au
  subst au
  (conv=>whnf)
  repeat' ((first|refine bn ?_|((with_reducible first|apply eT|apply iN|apply fK|apply cC|apply f4|apply kC|apply kB|apply eD)<;>intros))<;>(conv=>whnf))
  all_goals exact⟨rfl,by simp [pp,aj.kind,az.2]⟩
 rcases az with rfl|rfl|rfl|rfl|rfl|rfl|rfl|rfl|rfl|rfl|rfl|rfl|rfl|rfl|rfl|rfl|rfl|rfl|rfl|rfl|rfl|rfl
 rotate_left 19
 rcases Nat.lt_or_ge num 9223372036854775808 with aB|aB
 all_goals
  simp only[aj.cells,aj.kind,aj.aR,aj.mem,aj.num,aj.g1,aj.types,aj.g2,aj.fM,aj.g3,aj.fV,aj.g4,aj.kids,aj.bK,aj.pos]
  (conv=>whnf)
  repeat(refine bn ?_;conv=>whnf)
  refine aK (aaX Q _) ?_
  rintro v A ⟨rfl,au⟩
  simp [wL,Lq,lO] at au
  subst au
  (conv=>whnf)
  repeat' ((first|refine .no qj ?_|(refine qk.mW ?_;rw[afB aB oc.2])|refine qk.nice (by dsimp only;omega) ?_|(refine aK (Ki Q (min (max num 0) 1001) Y) ?_;rintro v A ⟨rfl,rfl⟩)|(refine aK (Ki Q (min 0 1001) Y) ?_;rintro v A ⟨rfl,rfl⟩)|refine l8.nice Y ?_|refine l8.mW ?_|(refine aK (afg Q aR _ B) ?_;rintro v A ⟨rfl,rfl⟩)|(refine aK (pE Q mem F) ?_;rintro v A ⟨rfl,rfl⟩)|(refine aK (agi Q g3 fV ep fm) ?_;rintro v A ⟨rfl,rfl⟩)|(refine aK (KS Q g2 132 [] fM j2 Y ⟨by simp,λs ak=>pE Q s (b1 s ak)⟩) ?_;rintro v A ⟨rfl,rfl⟩)|(refine aK ((nf Q).1 ai.row rfl g1 56 [] types ai.lx Y ⟨by simp,λx I=>by rw[ai.dF];exact acJ Q x (aE x I)⟩) ?_;rintro v A ⟨rfl,rfl⟩)|refine bn ?_|((with_reducible first|apply eT|apply iN|apply fK|apply cC|apply f4|apply kC|apply kB|apply eD)<;>intros))<;>(conv=>whnf))
  all_goals(refine⟨rfl,?_⟩;congr 1;simp [pp,wL,aj.kind,aj.aR,aj.mem,aj.num,aj.types,aj.fM,aj.fV,aj.kids,lO])
  all_goals clear aE b1 fm
  all_goals try simp only[IN,qL,O8,J5,df,cH,dh,fj] at*
  all_goals first|grind|skip
end
section
variable{C:Nat->cG}{ext:Nat->Option e0}{ab:fD}(Q:Env C ext ab)
include Q
def Ad(e:aj):Bool:=L0 e.kind e.kids.length&&O2 e.fV&&decide (e.fV.length<=13)&&decide (e.fM.length<=12)&&decide (e.types.length<=4)&&e.types.all ai.ir
def alU(a:fC)(h:a.ok):bj C [] 209 [.J (.agg a.row)] [] λv A=>A=[]/\v=.bool (decide (a.names.length<=12)):=by refine Q.z 209 cY rfl rfl ?_;have hm:(a.names.map cu).length=a.names.length:=bW;have F:=h.2.1;unfold fC.row;refine aG ?_;exact⟨rfl,by rw[qL,hm]⟩
def aqk(t)(al:t.bL):bj C [] 95 [.J (.agg t.cells)] [] λv A=>A=[]/\v=.bool (Ad t):=by
 refine Q.z 95 cY rfl rfl ?_;obtain⟨B,F,ah,aE,bt,b1,ep,fm,hI,oc⟩:=al.one;have df:(t.types.map ai.row).length=t.types.length:=bW;have cH:(t.fM.map cu).length=t.fM.length:=bW;have dh:(t.fV.map fC.row).length=t.fV.length:=bW;have fj:(t.kids.map aj.row).length=t.kids.length:=bW;have lt:∀m,m<1000->(t.kids.map aj.row).length<m->jJ 9223372036854775808 18446744073709551616 (kS 18446744073709551616 (t.kids.map aj.row).length m) 0=true:=λm hm h=>ah1 h hm;rcases l7 (t.kids.map aj.row).length 6 with xU|xU<;>rcases l7 (t.kids.map aj.row).length 12 with acN|acN
 all_goals
  (conv=>whnf)
  repeat' (first|refine .yes (lt 6 ag xU) ?_|refine .yes (lt 12 ag acN) ?_|refine .yes (lt 200 ag Y) ?_|refine qk.nice Y ?_|refine qk.mW ?_|refine l8.nice Y ?_|refine l8.mW ?_|refine cT ((nf Q).2.2.2.2.2.2.2.2.2.2.2.2.2.2 fC.row rfl t.g3 209 [] t.fV (λa=>decide (a.names.length<=12)) Y ⟨by simp,λa aD=>alU Q a (fm a aD)⟩) ?_|refine cT ((nf Q).1 ai.row rfl t.g1 96 [] t.types ai.ir Y ⟨by simp,λx I=>by rw[ai.dF];exact Zu Q x (aE x I)⟩) ?_|refine bn ?_|refine aN ?_|refine s2 ?_ ?_<;>intros|fail)<;>(conv=>whnf)
  all_goals(refine⟨rfl,?_⟩;congr 1;simp only[Ad,L0,O2])
  all_goals clear lt aE b1 fm
  all_goals first|grind|skip
end
section
variable{C:Nat->cG}{ext:Nat->Option e0}{ab:fD}(Q:Env C ext ab)
include Q
def us(t:ai):Bool:=decide (t.gi<=8)
def vG(e:aj):Bool:=decide (e.gi<=40)&&e.mB λx=>x.types.all us
def vq(e:aj):Bool:=decide (e.size<=2000)&&e.mB Ad
def afj(t:aj)(al:t.bL):bj C [] 91 [.J (.agg t.cells)] [] λv A=>A=[]/\v=.bool (t.types.all us):=by refine Q.z 91 cY rfl rfl ?_;obtain⟨B,F,ah,aE,_⟩:=al.one;have df:(t.types.map ai.row).length=t.types.length:=bW;refine aG ?_;refine cj ((nf Q).1 ai.row rfl t.g1 92 [] t.types us Y ⟨by simp,λx I=>by rw[ai.dF];exact YV Q x (aE x I)⟩) ?_;exact⟨rfl,rfl⟩
def aoo(t)(al:t.bL):bj C [] 89 [.J (.agg t.cells)] [] λv A=>A=[]/\v=.bool (vG t):=by
 refine Q.z 89 cY rfl rfl ?_;have aJ:=al.2;have fZ:=aj.KT t;refine aG ?_;refine cT (agY Q t al) ?_
 (conv=>whnf)
 repeat' (first|refine cT (RR Q 91 [] (λx=>x.types.all us) (by simp) (λx I=>afj Q x I) t al) ?_|refine bn ?_|refine aN ?_|refine s2 ?_ ?_<;>intros|fail)<;>(conv=>whnf)
 all_goals(refine⟨rfl,?_⟩;simp_all [vG];try omega)
def ale(t)(al:t.bL):bj C [] 93 [.J (.agg t.cells)] [] λv A=>A=[]/\v=.bool (vq t):=by
 refine Q.z 93 cY rfl rfl ?_;have aJ:=al.2;refine aG ?_;refine cT (ajK Q t al) ?_
 (conv=>whnf)
 repeat' (first|refine cT (RR Q 95 [] Ad (by simp) (λx I=>aqk Q x I) t al) ?_|refine bn ?_|refine aN ?_|refine s2 ?_ ?_<;>intros|fail)<;>(conv=>whnf)
 all_goals(refine⟨rfl,?_⟩;simp_all [vq];try omega)
def Kf(bX:List ai)(cC:List aj):Nat:=if bX.all us&&cC.all vG then(if bX.all ai.ir&&cC.all vq then 0 else 4) else 3
def akt(g)(bX)(ja)(cC)(B:bX.length<10000000)(F:∀t∈bX,t.bL)(ah:cC.length<10000000)(aE:∀e∈cC,e.bL):bj C [] 36 [.J (.aQ g (bX.map ai.row)),.J (.aQ ja (cC.map aj.row))] [] λv A=>A=[]/\v=.int 3 (Kf bX cC):=by
 refine Q.z 36 cY rfl rfl ?_
 (conv=>whnf)
 repeat' (first|refine cT ((nf Q).1 ai.row rfl g 92 [] bX us B ⟨by simp,λx I=>by rw[ai.dF];exact YV Q x (F x I)⟩) ?_|refine cT ((nf Q).2.1 aj.row rfl ja 89 [] cC vG ah ⟨by simp,λx I=>by rw[aj.dF];exact aoo Q x (aE x I)⟩) ?_|refine cT ((nf Q).1 ai.row rfl g 96 [] bX ai.ir B ⟨by simp,λx I=>by rw[ai.dF];exact Zu Q x (F x I)⟩) ?_|refine cT ((nf Q).2.1 aj.row rfl ja 93 [] cC vq ah ⟨by simp,λx I=>by rw[aj.dF];exact ale Q x (aE x I)⟩) ?_|refine bn ?_|refine aN ?_|refine s2 ?_ ?_<;>intros|fail)<;>(conv=>whnf)
 all_goals(clear F aE;refine⟨rfl,?_⟩;unfold Kf;simp_all only[sr,qX,uW,t5,nI,xp,Aq,n1,md])
end
section
variable{C:Nat->cG}{ext:Nat->Option e0}{ab:fD}(Q:Env C ext ab)
include Q
def n2(a:cD):List aj:=if a.gM.zero then [] else [a.gM]
def mf(f:dI):List aj:=f.args.flatMap n2++(if f.has then [f.body] else [])
def sC(m:cV):List aj:=m.funcs.flatMap mf
omit Q in
def Vh(a):(n2 a).length<=1:=by unfold n2;split<;>simp
omit Q in
theorem mO{α gd:Type}{f:α->List gd}{n}:∀(l:List α),(∀x∈l,(f x).length<=n)->(l.flatMap f).length<=l.length*n
 |[],_=>by simp
 |a::l,h=>by have B:=h a List.mem_cons_self;have F:=mO l λx I=>h x (List.mem_cons_of_mem _ I);rw[List.flatMap_cons,List.length_append,List.length_cons,Nat.add_mul];omega
omit Q in
theorem Wi(f)(h:f.ok):(mf f).length<=100:=by have B:=mO f.args (λa _=>Vh a);have F:=h.2.2.2.2.1;unfold mf;rw[List.length_append];split<;>simp only[List.length_cons,List.length_nil]<;>omega
def aiZ(x)(I:x.ok):bj C [] 48 [.J (.agg x.cells)] [] λv A=>A=[]/\∃g,v=.aQ g ((sC x).map aj.row):=by
 refine Q.z 48 (ia [(0,[4,5,9,10,11,12,13,14,15],[⟨false,3,0,900,61,11⟩],[900]),(2,[5,13,14],[⟨false,3,0,900,61,11⟩],[5,900])]) rfl rfl ?_;obtain⟨_,_,_,_,_,_,_,_,_,_,_,_,_,fP,f9⟩:=I;have m5:(x.funcs.map dI.row).length=x.funcs.length:=dt ..;refine aG ?_;refine ko dI.row x.funcs 8 (λd (_:Unit)=>[(3,.bQ 900)]) (λd _=>[(900,.arr 61 11 ((d.flatMap mf).map aj.row) true)]) (λ_ _=>True) ⟨(),trivial,rfl⟩ (λd _ y r ba ar aV ad _ bC=>?_) (λ_ ba _=>?_)
 .have ap:=f9 y (by simp [ar]);have cM:(d.flatMap mf).length<=d.length*100:=mO d λz bO=>Wi z (f9 z (by simp [ar,bO]));have ad1:((d.flatMap mf).map aj.row).length=(d.flatMap mf).length:=dt ..;obtain⟨B,F,ah,aE,bt,b1,ep,fm⟩:=ap;have cB:(y.args.map cD.row).length=y.args.length:=dt ..;unfold dI.row at ad;simp only[jF,kv] at ad;refine dx ?_;refine ko cD.row y.args 12 (λd2 (_:Unit)=>[(3,.bQ 900)]) (λd2 _=>[(5,.box 109 20 (.cc y.row)),(900,.arr 61 11 ((d.flatMap mf++d2.flatMap n2).map aj.row) true)]) (λ_ _=>True) ⟨(),trivial,by simp only[CE,oK];rfl⟩ (λd2 _ z cl fJ eu aV ad _ eG=>?_) (λ_ fJ _=>?_)
  .obtain⟨g1,g2,g3⟩:=b1 z (by simp [eu]);have im:(d2.flatMap n2).length<=d2.length*1:=mO d2 λz _=>Vh z;have Ck:((d.flatMap mf++d2.flatMap n2).map aj.row).length=(d.flatMap mf).length+(d2.flatMap n2).length:=by simp
   have aJ:d.length<=100:=by rw[ar] at fP;simp at fP;omega
   have fZ:d2.length<=100:=by rw[eu] at bt;simp at bt;omega
   unfold cD.row at ad;simp only[jF,kv] at ad;refine dx ?_;refine cj (T9 Q z.gM g3) ?_;refine f4 (eD (λbO=>?_) (λbO=>?_))
   .refine aG ?_;refine eG () _ _ trivial ?_;have e:(d.flatMap mf++(d2++[z]).flatMap n2).map aj.row=(d.flatMap mf++d2.flatMap n2).map aj.row:=by simp [n2,bO]
    rw[e];rfl
   .refine b8 ?_;refine eG () _ _ trivial ?_;have e:(d.flatMap mf++(d2++[z]).flatMap n2).map aj.row=(d.flatMap mf++d2.flatMap n2).map aj.row++[z.gM.cells]:=by simp [n2,bO,aj.dF]
    rw[e];rfl
  .refine de ?_;have im:(y.args.flatMap n2).length<=y.args.length*1:=mO _ λz _=>Vh z;have Ck:((d.flatMap mf++y.args.flatMap n2).map aj.row).length=(d.flatMap mf).length+(y.args.flatMap n2).length:=by simp
   have aJ:d.length<=100:=by rw[ar] at fP;simp at fP;omega
   cases bf:y.has
   .refine aG ?_;refine bC () _ _ trivial ?_;have e:((d++[y]).flatMap mf).map aj.row=(d.flatMap mf++y.args.flatMap n2).map aj.row:=by simp [mf,bf]
    rw[e];rfl
   .refine b8 ?_;refine bC () _ _ trivial ?_;have e:((d++[y]).flatMap mf).map aj.row=(d.flatMap mf++y.args.flatMap n2).map aj.row++[y.body.cells]:=by simp [mf,bf,aj.dF]
    rw[e];rfl
 .refine de ?_;exact⟨rfl,_,rfl⟩
end
end Go.Tx
