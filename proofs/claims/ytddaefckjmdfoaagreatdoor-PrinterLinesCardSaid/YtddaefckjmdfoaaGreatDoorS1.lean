/- Part of the proof of PrinterLines. -/
import Derived.Test.YtddaefckjmdfoaaGreatDoorS0
set_option linter.all false
namespace Go.Tx
open Go Go.Ev
set_option maxRecDepth 100000
set_option maxHeartbeats 8000000
attribute [local irreducible] jJ mb bj lQ kS nj ie fe
section
variable{C:Nat->cG}{ext:Nat->Option e0}{ab:fD}(Q:Env C ext ab)
include Q
def pI(s:ec):List ai:=s.fields.map eF.bK
def oA(u:eg):List ai:=u.cases.flatMap eP.f8
def sw(f:fW):List ai:=f.args++[f.fk]
def oR(t:eX):List ai:=t.fT.flatMap sw
def pQ(c:fc):List ai:=[c.bK]
def pB(f:dI):List ai:=f.args.map cD.bK++[f.fk]
def sB(m:cV):List ai:=m.ea.flatMap pI++m.dW.flatMap oA++m.e7.flatMap oR++m.ed.flatMap pQ++m.funcs.flatMap pB
omit Q in
def PA(s)(h:s.ok):(pI s).length<=100:=by have:=h.2.2.2.2.1;rw[pI,dt];omega
omit Q in
def Qv(s)(h:s.ok):(oA s).length<=10000:=by
 have B:=mO s.cases (f:=eP.f8) (n:=100) λx I=>by have:=(h.2.2.2.2.2 x I).2.1;omega
 have:=h.2.2.2.2.1;rw[oA];omega
omit Q in
def abL(s)(h:s.ok):(sw s).length<=100:=by have:=h.2.1;simp [sw];omega
omit Q in
def S2(s)(h:s.ok):(oR s).length<=10000:=by have B:=mO s.fT (f:=sw) (n:=100) λx I=>abL x (h.2.2.2 x I);have:=h.2.2.1;rw[oR];omega
omit Q in
def YB(s)(h:s.ok):(pB s).length<=100:=by have:=h.2.2.2.2.1;simp [pB];omega
omit Q in
def ZJ(l:List ai):((l.map ai.row).all λr=>fQ r 2):=by rw[f0];intro r ad;obtain⟨t,_,rfl⟩:=re.1 ad;rw[ai.dF];rfl
def ahK(x)(I:x.ok):bj C [] 55 [.J (.agg x.cells)] [] λv A=>A=[]/\∃g,v=.aQ g ((sB x).map ai.row):=by
 refine Q.z 55 (ia [(0,[4,5,16,17,18,19,20],[⟨false,3,0,900,54,2⟩],[1,900]),(2,[5,20],[⟨false,3,0,900,54,2⟩],[1,900]),(4,[6,7,24,25,26,27,28],[⟨false,3,0,900,54,2⟩],[1,900]),(6,[7,28],[⟨false,3,0,900,54,2⟩],[1,900]),(8,[8,9,32,33,34,35,36],[⟨false,3,0,900,54,2⟩],[1,900]),(10,[9,36],[⟨false,3,0,900,54,2⟩],[1,900]),(12,[10,40],[⟨false,3,0,900,54,2⟩],[1,900]),(14,[11,12,44,45,46,47,48],[⟨false,3,0,900,54,2⟩],[900]),(16,[12,48],[⟨false,3,0,900,54,2⟩],[19,900])]) rfl rfl ?_;obtain⟨_,_,_,_,_,df,dr,cH,c3,dh,dY,fj,e9,fP,f9⟩:=I;have m1:(x.ea.map ec.row).length=x.ea.length:=bW;have m2:(x.dW.map eg.row).length=x.dW.length:=bW;have m3:(x.e7.map eX.row).length=x.e7.length:=bW;have m4:(x.ed.map fc.row).length=x.ed.length:=bW;have m5:(x.funcs.map dI.row).length=x.funcs.length:=bW;refine aG ?_;refine ko ec.row x.ea 15 (λd (_:Unit)=>[(3,.bQ 900)]) (λd _=>[(1,.box 34 9 (.cc x.cells)),(900,.arr 54 2 ((d.flatMap pI).map ai.row) true)]) (λ_ _=>True) ⟨(),trivial,rfl⟩ (λd _ y r ba ar aV ad _ bC=>?_) (λ_ ba _=>?_)
 .have ap:=dr y (by simp [ar]);have cM:=mO d (f:=pI) (n:=100) λz bO=>PA z (dr z (by simp [ar,bO]));have aJ:d.length<=100:=by rw[ar] at df;simp at df;omega
  obtain⟨B,F,ah,aE,bt,b1⟩:=ap;have cB:(y.fields.map eF.row).length=y.fields.length:=bW;unfold ec.row at ad;refine dx ?_;refine ko eF.row y.fields 19 (λd2 (_:Unit)=>[(3,.bQ 900)]) (λd2 _=>[(1,.box 34 9 (.cc x.cells)),(900,.arr 54 2 ((d.flatMap pI++d2.map eF.bK).map ai.row) true)]) (λ_ _=>True) ⟨(),trivial,by simp only[je,oK];rfl⟩ (λd2 _ z cl fJ eu aV ad _ eG=>?_) (λ_ fJ _=>?_)
  .have im:((d.flatMap pI++d2.map eF.bK).map ai.row).length=(d.flatMap pI).length+d2.length:=by simp only[dt,gP]
   have fZ:d2.length<=100:=by rw[eu] at bt;simp at bt;omega
   unfold eF.row at ad;refine dx ?_;refine b8 ?_;refine eG () _ _ trivial ?_;have e:(d.flatMap pI++(d2++[z]).map eF.bK).map ai.row=(d.flatMap pI++d2.map eF.bK).map ai.row++[z.bK.cells]:=by simp [ai.dF]
   rw[e];rfl
  .refine de ?_;refine bC () _ _ trivial ?_;have e:((d++[y]).flatMap pI).map ai.row=(d.flatMap pI++y.fields.map eF.bK).map ai.row:=by simp [pI]
   rw[e];rfl
 have cM:=mO x.ea (f:=pI) (n:=100) λz bO=>PA z (dr z bO);refine de ?_;generalize PL:x.ea.flatMap pI=P at*;refine ko eg.row x.dW 23 (λd (_:Unit)=>[(3,.bQ 900)]) (λd _=>[(1,.box 34 9 (.cc x.cells)),(900,.arr 54 2 ((P++d.flatMap oA).map ai.row) true)]) (λ_ _=>True) ⟨(),trivial,by simp only[CE,oK];rfl⟩ (λd _ y r ba ar aV ad _ bC=>?_) (λ_ ba _=>?_)
 .have ap:=c3 y (by simp [ar]);have ad1:=mO d (f:=oA) (n:=10000) λz bO=>Qv z (c3 z (by simp [ar,bO]));have aJ:d.length<=100:=by rw[ar] at cH;simp at cH;omega
  obtain⟨B,F,ah,aE,bt,b1⟩:=ap;have cB:(y.cases.map eP.row).length=y.cases.length:=bW;unfold eg.row at ad;refine dx ?_;refine ko eP.row y.cases 27 (λd2 (_:Unit)=>[(3,.bQ 900)]) (λd2 _=>[(1,.box 34 9 (.cc x.cells)),(900,.arr 54 2 ((P++d.flatMap oA++d2.flatMap eP.f8).map ai.row) true)]) (λ_ _=>True) ⟨(),trivial,by simp only[CE,oK];rfl⟩ (λd2 _ z cl fJ eu aV ad _ eG=>?_) (λ_ fJ _=>?_)
  .obtain⟨bq,aS,bU⟩:=b1 z (by simp [eu]);have aaI:=mO d2 (f:=eP.f8) (n:=100) λz bO=>by have:=(b1 z (by simp [eu,bO])).2.1;omega
   have im:((P++d.flatMap oA++d2.flatMap eP.f8).map ai.row).length=P.length+(d.flatMap oA).length+(d2.flatMap eP.f8).length:=by simp only[dt,gP]
   have Ck:(z.f8.map ai.row).length=z.f8.length:=by simp
   have fZ:d2.length<=100:=by rw[eu] at bt;simp at bt;omega
   unfold eP.row at ad;refine dx ?_
   (conv=>whnf)
   repeat(first|refine .mk ⟨ZJ _,Y⟩ ?_|refine .mk Y ?_|refine b9 ?_);(conv=>whnf)
   refine eG () _ _ trivial ?_;have e:(P++d.flatMap oA++(d2++[z]).flatMap eP.f8).map ai.row=(P++d.flatMap oA++d2.flatMap eP.f8).map ai.row++z.f8.map ai.row:=by simp
   rw[e];rfl
  .refine de ?_;refine bC () _ _ trivial ?_;have e:(P++(d++[y]).flatMap oA).map ai.row=(P++d.flatMap oA++y.cases.flatMap eP.f8).map ai.row:=by simp [oA]
   rw[e];rfl
 have ad1:=mO x.dW (f:=oA) (n:=10000) λz bO=>Qv z (c3 z bO);refine de ?_;have arj:(P++x.dW.flatMap oA).length=P.length+(x.dW.flatMap oA).length:=by simp only[dt,gP]
 generalize CI:P++x.dW.flatMap oA=bZ at*;refine ko eX.row x.e7 31 (λd (_:Unit)=>[(3,.bQ 900)]) (λd _=>[(1,.box 34 9 (.cc x.cells)),(900,.arr 54 2 ((bZ++d.flatMap oR).map ai.row) true)]) (λ_ _=>True) ⟨(),trivial,by simp only[CE,oK];rfl⟩ (λd _ y r ba ar aV ad _ bC=>?_) (λ_ ba _=>?_)
 .have ap:=dY y (by simp [ar]);have aaI:=mO d (f:=oR) (n:=10000) λz bO=>S2 z (dY z (by simp [ar,bO]));have aJ:d.length<=100:=by rw[ar] at dh;simp at dh;omega
  obtain⟨B,F,bt,b1⟩:=ap;have cB:(y.fT.map fW.row).length=y.fT.length:=bW;unfold eX.row at ad;refine dx ?_;refine ko fW.row y.fT 35 (λd2 (_:Unit)=>[(3,.bQ 900)]) (λd2 _=>[(1,.box 34 9 (.cc x.cells)),(900,.arr 54 2 ((bZ++d.flatMap oR++d2.flatMap sw).map ai.row) true)]) (λ_ _=>True) ⟨(),trivial,by simp only[CE,oK];rfl⟩ (λd2 _ z cl fJ eu aV ad _ eG=>?_) (λ_ fJ _=>?_)
  .have bO:=b1 z (by simp [eu]);have Wq:=mO d2 (f:=sw) (n:=100) λz bO=>abL z (b1 z (by simp [eu,bO]));have im:((bZ++d.flatMap oR++d2.flatMap sw).map ai.row).length=bZ.length+(d.flatMap oR).length+(d2.flatMap sw).length:=by simp only[dt,gP]
   have Ck:(z.args.map ai.row).length=z.args.length:=by simp
   have He:=bO.2.1;have fZ:d2.length<=100:=by rw[eu] at bt;simp at bt;omega
   unfold fW.row at ad;refine dx ?_
   (conv=>whnf)
   repeat(first|refine .mk ⟨ZJ _,Y⟩ ?_|refine .mk Y ?_|refine .mk pu ?_|refine b9 ?_);(conv=>whnf)
   refine eG () _ _ trivial ?_;have e:(bZ++d.flatMap oR++(d2++[z]).flatMap sw).map ai.row=(bZ++d.flatMap oR++d2.flatMap sw).map ai.row++z.args.map ai.row++[z.fk.cells]:=by simp [sw,ai.dF]
   rw[e];rfl
  .refine de ?_;refine bC () _ _ trivial ?_;have e:(bZ++(d++[y]).flatMap oR).map ai.row=(bZ++d.flatMap oR++y.fT.flatMap sw).map ai.row:=by simp [oR]
   rw[e];rfl
 have aaI:=mO x.e7 (f:=oR) (n:=10000) λz bO=>S2 z (dY z bO);refine de ?_;have asr:(bZ++x.e7.flatMap oR).length=bZ.length+(x.e7.flatMap oR).length:=by simp only[dt,gP]
 generalize mM:bZ++x.e7.flatMap oR=R at*;refine ko fc.row x.ed 39 (λd (_:Unit)=>[(3,.bQ 900)]) (λd _=>[(1,.box 34 9 (.cc x.cells)),(900,.arr 54 2 ((R++d.flatMap pQ).map ai.row) true)]) (λ_ _=>True) ⟨(),trivial,by simp only[CE,oK];rfl⟩ (λd _ y r ba ar aV ad _ bC=>?_) (λ_ ba _=>?_)
 .have Wq:=mO d (f:=pQ) (n:=1) λz bO=>by simp [pQ]
  have aJ:d.length<=100:=by rw[ar] at fj;simp at fj;omega
  have im:((R++d.flatMap pQ).map ai.row).length=R.length+(d.flatMap pQ).length:=by simp only[dt,gP]
  unfold fc.row at ad;refine dx ?_;refine b8 ?_;refine bC () _ _ trivial ?_;have e:(R++(d++[y]).flatMap pQ).map ai.row=(R++d.flatMap pQ).map ai.row++[y.bK.cells]:=by simp [pQ,ai.dF]
  rw[e];rfl
 have Wq:=mO x.ed (f:=pQ) (n:=1) λz bO=>by simp [pQ]
 refine de ?_;have arn:(R++x.ed.flatMap pQ).length=R.length+(x.ed.flatMap pQ).length:=by simp only[dt,gP]
 generalize Ke:R++x.ed.flatMap pQ=S at*;refine ko dI.row x.funcs 43 (λd (_:Unit)=>[(3,.bQ 900)]) (λd _=>[(900,.arr 54 2 ((S++d.flatMap pB).map ai.row) true)]) (λ_ _=>True) ⟨(),trivial,by simp only[CE,oK];rfl⟩ (λd _ y r ba ar aV ad _ bC=>?_) (λ_ ba _=>?_)
 .have ap:=f9 y (by simp [ar]);have ar1:=mO d (f:=pB) (n:=100) λz bO=>YB z (f9 z (by simp [ar,bO]));have aJ:d.length<=100:=by rw[ar] at fP;simp at fP;omega
  obtain⟨B,F,ah,aE,bt,b1,ep,fm⟩:=ap;have cB:(y.args.map cD.row).length=y.args.length:=bW;unfold dI.row at ad;simp only[jF,kv] at ad;refine dx ?_;refine ko cD.row y.args 47 (λd2 (_:Unit)=>[(3,.bQ 900)]) (λd2 _=>[(19,.box 109 20 (.cc y.row)),(900,.arr 54 2 ((S++d.flatMap pB++d2.map cD.bK).map ai.row) true)]) (λ_ _=>True) ⟨(),trivial,by simp only[je,oK];rfl⟩ (λd2 _ z cl fJ eu aV ad _ eG=>?_) (λ_ fJ _=>?_)
  .have im:((S++d.flatMap pB++d2.map cD.bK).map ai.row).length=S.length+(d.flatMap pB).length+d2.length:=by simp only[dt,gP]
   have fZ:d2.length<=100:=by rw[eu] at bt;simp at bt;omega
   unfold cD.row at ad;simp only[jF,kv] at ad;refine dx ?_;refine b8 ?_;refine eG () _ _ trivial ?_;have e:(S++d.flatMap pB++(d2++[z]).map cD.bK).map ai.row=(S++d.flatMap pB++d2.map cD.bK).map ai.row++[z.bK.cells]:=by simp [ai.dF]
   rw[e];rfl
  .have im:((S++d.flatMap pB++y.args.map cD.bK).map ai.row).length=S.length+(d.flatMap pB).length+y.args.length:=by simp only[dt,gP]
   refine de ?_;refine b8 ?_;refine bC () _ _ trivial ?_;have e:(S++(d++[y]).flatMap pB).map ai.row=(S++d.flatMap pB++y.args.map cD.bK).map ai.row++[y.fk.cells]:=by simp [pB,ai.dF]
   rw[e];rfl
 refine de ?_;exact⟨rfl,_,by rw[sB,PL,CI,mM,Ke]⟩
end
section
variable{C:Nat->cG}{ext:Nat->Option e0}{ab:fD}(Q:Env C ext ab)
include Q
def Qi:ly C 155 cX.row:=(nf Q).2.2.2.2.2.2.2.2.2.2.1
def Wk:ly C 140 ec.row:=(nf Q).2.2.2.1
def WI:ly C 145 eg.row:=(nf Q).2.2.2.2.2.1
def VJ:ly C 147 eP.row:=(nf Q).2.2.2.2.2.2.1
def XL:ly C 149 eX.row:=(nf Q).2.2.2.2.2.2.2.1
def ZR:ly C 151 fW.row:=(nf Q).2.2.2.2.2.2.2.2.1
def acP:ly C 153 fc.row:=(nf Q).2.2.2.2.2.2.2.2.2.1
def an5:ly C 156 i3.row:=(nf Q).2.2.2.2.2.2.2.2.2.2.2.1
def aco:ly C 158 dI.row:=(nf Q).2.2.2.2.2.2.2.2.2.2.2.2.1
def apj:ly C 160 cD.row:=(nf Q).2.2.2.2.2.2.2.2.2.2.2.2.2.1
def aly:ly C 138 kx.row:=(nf Q).2.2.1
def ald:ly C 143 eF.row:=(nf Q).2.2.2.2.1
abbrev lc(b:Bool)(v:b2)(A:be):Prop:=A=[]/\v=.bool b
def Ky(n)(aB:n<9223372036854775808):bj C [] 164 [.J (.int 3 n)] [] (lc (decide (n<=12))):=by refine Q.z 164 cY rfl rfl ?_;refine aG ?_;exact⟨rfl,by rw[qL]⟩
def apa(x:cX)(h:x.ok):bj C [] 163 [.J (.agg x.row)] [] (lc (decide (x.dZ.length<=3))):=by refine Q.z 163 cY rfl rfl ?_;have hm:(x.dZ.map cu).length=x.dZ.length:=bW;have F:=h.2.1;unfold cX.row;refine aG ?_;exact⟨rfl,by rw[qL,hm]⟩
def acO(g)(l)(h:l.length<100)(K:∀x∈l,x.ok):bj C [] 162 [.J (.aQ g (l.map cX.row))] [] (lc (yN l)):=by
 refine Q.z 162 cY rfl rfl ?_;have hm:(l.map cX.row).length=l.length:=bW
 (conv=>whnf)
 repeat' (first|refine cT (Qi Q cX.row rfl g 163 [] l _ Y ⟨by simp,λx I=>apa Q x (K x I)⟩) ?_|refine bn ?_|refine aN ?_|refine s2 ?_ ?_<;>intros|fail)<;>(conv=>whnf)
 all_goals(refine⟨rfl,?_⟩;simp_all [yN])
 omega
abbrev xr(e:Nat):b2:=.gc e [.fn 164 [] []] 0
abbrev Mq(e:Nat):b2:=.gc e [.fn 162 [] []] 0
def LR(x:ec):Bool:=decide (x.params.length<=4)&&decide (x.fields.length<=12)
def W4(x:eP):Bool:=decide (x.f8.length<=12)
def Na(x:eg):Bool:=decide (x.params.length<=4)&&decide (x.cases.length<=12)&&x.cases.all W4
def W6(x:fW):Bool:=decide (x.args.length<=6)
def O3(x:eX):Bool:=decide (x.fT.length<=12)&&x.fT.all W6
def MS(x:fc):Bool:=yN x.fg&&decide (x.binds.length<=12)
def KP(x:dI):Bool:=yN x.fg&&decide (x.args.length<=6)
def amJ(e)(x)(h:x.ok):bj C [] 165 [.J (.agg x.row),.J (xr e)] [] (lc (LR x)):=by
 refine Q.z 165 cY rfl rfl ?_;obtain⟨B,F,ah,aE,bt,b1⟩:=h;have dl:(x.params.map cu).length=x.params.length:=bW;have cB:(x.fields.map eF.row).length=x.fields.length:=bW;unfold ec.row
 (conv=>whnf)
 repeat' (first|refine cT (Ky Q _ Y) ?_|refine bn ?_|refine aN ?_|refine s2 ?_ ?_<;>intros|fail)<;>(conv=>whnf)
 all_goals(refine⟨rfl,?_⟩;clear aE b1;simp_all [LR])
 omega
def alh(e)(x)(h:x.ok):bj C [] 167 [.J (.agg x.row),.J (xr e)] [] (lc (W4 x)):=by refine Q.z 167 cY rfl rfl ?_;obtain⟨B,F,ah⟩:=h;have dl:(x.f8.map ai.row).length=x.f8.length:=bW;unfold eP.row;refine aG ?_;refine cj (Ky Q _ Y) ?_;exact⟨rfl,by rw[dl];rfl⟩
def ahY(e)(x)(h:x.ok):bj C [] 166 [.J (.agg x.row),.J (xr e)] [] (lc (Na x)):=by
 refine Q.z 166 cY rfl rfl ?_;obtain⟨B,F,ah,aE,bt,b1⟩:=h;have dl:(x.params.map cu).length=x.params.length:=bW;have cB:(x.cases.map eP.row).length=x.cases.length:=bW;unfold eg.row
 (conv=>whnf)
 repeat' (first|refine cT (Ky Q _ Y) ?_|refine cT (VJ Q eP.row rfl x.g2 167 [xr e] x.cases _ Y ⟨by simp,λy ap=>alh Q e y (b1 y ap)⟩) ?_|refine bn ?_|refine aN ?_|refine s2 ?_ ?_<;>intros|fail)<;>(conv=>whnf)
 all_goals(refine⟨rfl,?_⟩;clear aE b1;simp_all [Na])
 all_goals omega
def am2(x)(h:x.ok):bj C [] 169 [.J (.agg x.row)] [] (lc (W6 x)):=by refine Q.z 169 cY rfl rfl ?_;have F:=h.2.1;have dl:(x.args.map ai.row).length=x.args.length:=bW;unfold fW.row;refine aG ?_;exact⟨rfl,by rw[qL,dl];rfl⟩
def aoP(e)(x)(h:x.ok):bj C [] 168 [.J (.agg x.row),.J (xr e)] [] (lc (O3 x)):=by
 refine Q.z 168 cY rfl rfl ?_;obtain⟨B,F,bt,b1⟩:=h;have cB:(x.fT.map fW.row).length=x.fT.length:=bW;unfold eX.row
 (conv=>whnf)
 repeat' (first|refine cT (Ky Q _ Y) ?_|refine cT (ZR Q fW.row rfl x.g 169 [] x.fT _ Y ⟨by simp,λy ap=>am2 Q y (b1 y ap)⟩) ?_|refine bn ?_|refine aN ?_|refine s2 ?_ ?_<;>intros|fail)<;>(conv=>whnf)
 all_goals(refine⟨rfl,?_⟩;clear b1;simp_all [O3])
 intros;omega
def ahI(e ci)(x)(h:x.ok):bj C [] 170 [.J (.agg x.row),.J (Mq e),.J (xr ci)] [] (lc (MS x)):=by
 refine Q.z 170 cY rfl rfl ?_;obtain⟨B,F,ah,aE,bt,b1⟩:=h;have cB:(x.binds.map i3.row).length=x.binds.length:=bW;unfold fc.row
 (conv=>whnf)
 repeat' (first|refine cT (Ky Q _ Y) ?_|refine cT (acO Q x.g1 x.fg F ah) ?_|refine bn ?_|refine aN ?_|refine s2 ?_ ?_<;>intros|fail)<;>(conv=>whnf)
 all_goals(refine⟨rfl,?_⟩;clear ah b1;simp_all [MS])
def amb(e)(x)(h:x.ok):bj C [] 171 [.J (.agg x.row),.J (Mq e)] [] (lc (KP x)):=by
 refine Q.z 171 cY rfl rfl ?_;obtain⟨B,F,ah,aE,bt,b1,ep,fm⟩:=h;have cB:(x.args.map cD.row).length=x.args.length:=bW;unfold dI.row;simp only[jF,kv]
 (conv=>whnf)
 repeat' (first|refine cT (acO Q x.g1 x.fg ah aE) ?_|refine bn ?_|refine aN ?_|refine s2 ?_ ?_<;>intros|fail)<;>(conv=>whnf)
 all_goals(refine⟨rfl,?_⟩;clear aE b1;simp_all [KP,qL])
def HM(x:cV):Bool:=decide (x.lf.length<=8/\x.ea.length<=60/\x.dW.length<=60/\x.e7.length<=60/\x.ed.length<=60/\x.funcs.length<=60)&&(x.ea.all LR&&(x.dW.all Na&&(x.e7.all O3&&(x.ed.all MS&&x.funcs.all KP))))
def aii(x)(I:x.ok):bj C [] 53 [.J (.agg x.cells)] [] (lc (HM x)):=by
 refine Q.z 53 cY rfl rfl ?_;obtain⟨_,_,_,kj,gX,df,dr,cH,c3,dh,dY,fj,e9,fP,f9⟩:=I;have m0:(x.lf.map kx.row).length=x.lf.length:=bW;have m1:(x.ea.map ec.row).length=x.ea.length:=bW;have m2:(x.dW.map eg.row).length=x.dW.length:=bW;have m3:(x.e7.map eX.row).length=x.e7.length:=bW;have m4:(x.ed.map fc.row).length=x.ed.length:=bW;have m5:(x.funcs.map dI.row).length=x.funcs.length:=bW
 (conv=>whnf)
 repeat' (first|refine qk.nice (by dsimp only;omega) ?_|refine l8.nice (by dsimp only;omega) ?_|refine cT (Wk Q ec.row rfl x.g2 165 [xr _] x.ea _ Y ⟨by simp,λy ap=>amJ Q _ y (dr y ap)⟩) ?_|refine cT (WI Q eg.row rfl x.g3 166 [xr _] x.dW _ Y ⟨by simp,λy ap=>ahY Q _ y (c3 y ap)⟩) ?_|refine cT (XL Q eX.row rfl x.g4 168 [xr _] x.e7 _ Y ⟨by simp,λy ap=>aoP Q _ y (dY y ap)⟩) ?_|refine cT (acP Q fc.row rfl x.g5 170 [Mq _,xr _] x.ed _ Y ⟨by simp,λy ap=>ahI Q _ _ y (e9 y ap)⟩) ?_|refine cT (aco Q dI.row rfl x.g6 171 [Mq _] x.funcs _ Y ⟨by simp,λy ap=>amb Q _ y (f9 y ap)⟩) ?_|refine bn ?_|refine aN ?_|refine s2 ?_ ?_<;>intros|fail)<;>(conv=>whnf)
 all_goals(refine⟨rfl,?_⟩;clear gX dr c3 dY e9 f9)
 all_goals((try dsimp only at*);congr 1;unfold HM;first|(rw[qO Y];rfl)|(rw[iX Y];simp only[*,qX,sr,t5,uW]))
end
section
variable{C:Nat->cG}{ext:Nat->Option e0}{ab:fD}(Q:Env C ext ab)
include Q
def As(x:cX):Bool:=j2 x.aR&&x.dZ.all qV
def Ni(x:kx):Bool:=j2 x.aR&&decide (1<=x.rel/\x.rel<=1000)
def tM(n:Nat)(s:bM):Bool:=decide (n<=1000)&&j2 s
def ac8(x:eF):Bool:=j2 x.aR
def HR(x:ec):Bool:=tM x.since x.aR&&x.params.all j2&&x.fields.all ac8
def aaZ(x:eP):Bool:=j2 x.aR
def Hg(x:eg):Bool:=tM x.since x.aR&&x.params.all j2&&x.cases.all aaZ
def JX(x:fW):Bool:=j2 x.aR&&(decide (x.gM=[])||qV x.gM)
def JU(x:eX):Bool:=tM x.since x.aR&&x.fT.all JX
def HV(x:i3):Bool:=j2 x.yR&&qV x.func
def G6(x:fc):Bool:=qV x.zO&&x.fg.all As&&x.binds.all HV
def Gw(x:cD):Bool:=j2 x.aR&&(x.has||x.gM.zero)
def Fe(x:dI):Bool:=tM x.since x.aR&&x.fg.all As&&x.args.all Gw&&(x.has||x.body.zero)
def V8(g)(l:List bM)(h:l.length<100)(K:∀s∈l,s.length<1000):bj C [] 134 [.J (.aQ g (l.map cu)),.J (.fn 132 [] [])] [] (lc (l.all j2)):=KS Q g 132 [] l j2 Y ⟨by simp,λs ak=>pE Q s (K s ak)⟩
def apt(g)(l:List bM)(h:l.length<100)(K:∀s∈l,s.length<1000):bj C [] 134 [.J (.aQ g (l.map cu)),.J (.fn 137 [] [])] [] (lc (l.all qV)):=KS Q g 137 [] l qV Y ⟨by simp,λs ak=>DW Q s (K s ak)⟩
def XC(x)(h:x.ok):bj C [] 136 [.J (.agg x.row)] [] (lc (As x)):=by
 refine Q.z 136 cY rfl rfl ?_;unfold cX.row
 (conv=>whnf)
 repeat' (first|refine cT (pE Q x.aR h.1) ?_|refine cT (apt Q x.g x.dZ h.2.1 h.2.2) ?_|refine bn ?_|refine aN ?_|refine s2 ?_ ?_<;>intros|fail)<;>(conv=>whnf)
 all_goals(refine⟨rfl,?_⟩;simp_all [As])
def ai0(x)(h:x.ok):bj C [] 139 [.J (.agg x.row)] [] (lc (Ni x)):=by
 refine Q.z 139 cY rfl rfl ?_;unfold kx.row
 (conv=>whnf)
 repeat' (first|refine cT (pE Q x.aR h.1) ?_|refine cT (Ki Q x.rel h.2) ?_|refine bn ?_|refine aN ?_|refine s2 ?_ ?_<;>intros|fail)<;>(conv=>whnf)
 all_goals(refine⟨rfl,?_⟩;simp_all [Ni])
def ali(x)(h:x.ok):bj C [] 144 [.J (.agg x.row)] [] (lc (ac8 x)):=by
 refine Q.z 144 cY rfl rfl ?_;unfold eF.row
 (conv=>whnf)
 repeat' (first|refine cT (pE Q x.aR h.1) ?_|refine bn ?_|refine aN ?_|refine s2 ?_ ?_<;>intros|fail)<;>(conv=>whnf)
 exact⟨rfl,rfl⟩
def aiK(x)(h:x.ok):bj C [] 148 [.J (.agg x.row)] [] (lc (aaZ x)):=by
 refine Q.z 148 cY rfl rfl ?_;unfold eP.row
 (conv=>whnf)
 repeat' (first|refine cT (pE Q x.aR h.1) ?_|refine bn ?_|refine aN ?_|refine s2 ?_ ?_<;>intros|fail)<;>(conv=>whnf)
 exact⟨rfl,rfl⟩
def apX(x)(h:x.ok):bj C [] 141 [.J (.agg x.row)] [] (lc (HR x)):=by
 refine Q.z 141 cY rfl rfl ?_;obtain⟨B,F,ah,aE,bt,b1⟩:=h;unfold ec.row
 (conv=>whnf)
 repeat' (first|refine cT (My Q x.since x.aR B F) ?_|refine cT (V8 Q x.g1 x.params ah aE) ?_|refine cT (ald Q eF.row rfl x.g2 144 [] x.fields _ Y ⟨by simp,λy ap=>ali Q y (b1 y ap)⟩) ?_|refine bn ?_|refine aN ?_|refine s2 ?_ ?_<;>intros|fail)<;>(conv=>whnf)
 all_goals(refine⟨rfl,?_⟩;clear aE b1;simp_all only[HR,tM,qX,t5,sr,uW])
def aix(x:eg)(h:x.ok):bj C [] 146 [.J (.agg x.row)] [] (lc (Hg x)):=by
 refine Q.z 146 cY rfl rfl ?_;obtain⟨B,F,ah,aE,bt,b1⟩:=h;unfold eg.row
 (conv=>whnf)
 repeat' (first|refine cT (My Q x.since x.aR B F) ?_|refine cT (V8 Q x.g1 x.params ah aE) ?_|refine cT (VJ Q eP.row rfl x.g2 148 [] x.cases _ Y ⟨by simp,λy ap=>aiK Q y (b1 y ap)⟩) ?_|refine bn ?_|refine aN ?_|refine s2 ?_ ?_<;>intros|fail)<;>(conv=>whnf)
 all_goals(refine⟨rfl,?_⟩;clear aE b1;simp_all only[Hg,tM,qX,t5,sr,uW])
def afQ(x:fW)(h:x.ok):bj C [] 152 [.J (.agg x.row)] [] (lc (JX x)):=by
 refine Q.z 152 cY rfl rfl ?_;obtain⟨B,F,ah,aE,bt⟩:=h;unfold fW.row
 (conv=>whnf)
 repeat' (first|refine cT (pE Q x.aR B) ?_|refine cT (DW Q x.gM bt) ?_|refine bn ?_|refine aN ?_|refine s2 ?_ ?_<;>intros|fail)<;>(conv=>whnf)
 all_goals(refine⟨rfl,?_⟩;simp_all [JX,IN])
def aks(x:eX)(h:x.ok):bj C [] 150 [.J (.agg x.row)] [] (lc (JU x)):=by
 refine Q.z 150 cY rfl rfl ?_;obtain⟨B,F,bt,b1⟩:=h;unfold eX.row
 (conv=>whnf)
 repeat' (first|refine cT (My Q x.since x.aR B F) ?_|refine cT (ZR Q fW.row rfl x.g 152 [] x.fT _ Y ⟨by simp,λy ap=>afQ Q y (b1 y ap)⟩) ?_|refine bn ?_|refine aN ?_|refine s2 ?_ ?_<;>intros|fail)<;>(conv=>whnf)
 all_goals(refine⟨rfl,?_⟩;clear b1;simp_all only[JU,tM,qX,t5,sr,uW])
def aeV(x:i3)(h:x.ok):bj C [] 157 [.J (.agg x.row)] [] (lc (HV x)):=by
 refine Q.z 157 cY rfl rfl ?_;unfold i3.row
 (conv=>whnf)
 repeat' (first|refine cT (pE Q x.yR h.1) ?_|refine cT (DW Q x.func h.2) ?_|refine bn ?_|refine aN ?_|refine s2 ?_ ?_<;>intros|fail)<;>(conv=>whnf)
 all_goals(refine⟨rfl,?_⟩;simp_all [HV])
abbrev Lx(e:Nat):b2:=.gc e [.fn 136 [] []] 0
def apY(e:Nat)(x:fc)(h:x.ok):bj C [] 154 [.J (.agg x.row),.J (Lx e)] [] (lc (G6 x)):=by
 refine Q.z 154 cY rfl rfl ?_;obtain⟨B,F,ah,aE,bt,b1⟩:=h;unfold fc.row
 (conv=>whnf)
 repeat' (first|refine cT (DW Q x.zO B) ?_|refine cT (Qi Q cX.row rfl x.g1 136 [] x.fg _ Y ⟨by simp,λy ap=>XC Q y (ah y ap)⟩) ?_|refine cT (an5 Q i3.row rfl x.g2 157 [] x.binds _ Y ⟨by simp,λy ap=>aeV Q y (b1 y ap)⟩) ?_|refine bn ?_|refine aN ?_|refine s2 ?_ ?_<;>intros|fail)<;>(conv=>whnf)
 all_goals(refine⟨rfl,?_⟩;clear ah b1;simp_all only[G6,qX,t5,sr,uW])
def agX(x:cD)(h:x.ok):bj C [] 161 [.J (.agg x.row)] [] (lc (Gw x)):=by
 refine Q.z 161 cY rfl rfl ?_;obtain⟨B,F,ah⟩:=h;unfold cD.row;simp only[jF,kv]
 (conv=>whnf)
 repeat' (first|refine cT (pE Q x.aR B) ?_|refine cT (T9 Q x.gM ah) ?_|refine bn ?_|refine aN ?_|refine s2 ?_ ?_<;>intros|fail)<;>(conv=>whnf)
 all_goals(refine⟨rfl,?_⟩;simp_all [Gw])
def agM(e:Nat)(x:dI)(h:x.ok):bj C [] 159 [.J (.agg x.row),.J (Lx e)] [] (lc (Fe x)):=by
 refine Q.z 159 cY rfl rfl ?_;obtain⟨B,F,ah,aE,bt,b1,ep,fm⟩:=h;unfold dI.row;simp only[jF,kv]
 (conv=>whnf)
 repeat' (first|refine cT (My Q x.since x.aR B F) ?_|refine cT (Qi Q cX.row rfl x.g1 136 [] x.fg _ Y ⟨by simp,λy ap=>XC Q y (aE y ap)⟩) ?_|refine cT (apj Q cD.row rfl x.g2 161 [] x.args _ Y ⟨by simp,λy ap=>agX Q y (b1 y ap)⟩) ?_|refine cT (T9 Q x.body fm) ?_|refine bn ?_|refine aN ?_|refine s2 ?_ ?_<;>intros|fail)<;>(conv=>whnf)
 all_goals(refine⟨rfl,?_⟩;clear aE b1;simp_all only[Fe,tM,qX,t5,sr,uW,JV,Gc,xp,Aq,Bool.not_not])
def FV(x:cV):Bool:=decide (1<=x.kind/\x.kind<=3)&&j2 x.aR&&decide ((x.kind=2->x.rel=0)/\(x.kind≠2->1<=x.rel/\x.rel<=1000))&&(x.lf.all Ni&&(x.ea.all HR&&(x.dW.all Hg&&(x.e7.all JU&&(x.ed.all G6&&x.funcs.all Fe)))))
def aj3(x:cV)(I:x.ok):bj C [] 52 [.J (.agg x.cells)] [] (lc (FV x)):=by
 refine Q.z 52 cY rfl rfl ?_;obtain⟨_,ad,aB,kj,gX,df,dr,cH,c3,dh,dY,fj,e9,fP,f9⟩:=I
 (conv=>whnf)
 repeat' ((first|(refine aK (pE Q x.aR aB) ?_;rintro v A ⟨rfl,rfl⟩)|(refine aK (Ki Q x.rel ad) ?_;rintro v A ⟨rfl,rfl⟩)|(refine aK (aly Q kx.row rfl x.g1 139 [] x.lf _ Y ⟨by simp,λy ap=>ai0 Q y (gX y ap)⟩) ?_;rintro v A ⟨rfl,rfl⟩)|(refine aK (Wk Q ec.row rfl x.g2 141 [] x.ea _ Y ⟨by simp,λy ap=>apX Q y (dr y ap)⟩) ?_;rintro v A ⟨rfl,rfl⟩)|(refine aK (WI Q eg.row rfl x.g3 146 [] x.dW _ Y ⟨by simp,λy ap=>aix Q y (c3 y ap)⟩) ?_;rintro v A ⟨rfl,rfl⟩)|(refine aK (XL Q eX.row rfl x.g4 150 [] x.e7 _ Y ⟨by simp,λy ap=>aks Q y (dY y ap)⟩) ?_;rintro v A ⟨rfl,rfl⟩)|(refine aK (acP Q fc.row rfl x.g5 154 [Lx _] x.ed _ Y ⟨by simp,λy ap=>apY Q _ y (e9 y ap)⟩) ?_;rintro v A ⟨rfl,rfl⟩)|(refine aK (aco Q dI.row rfl x.g6 159 [Lx _] x.funcs _ Y ⟨by simp,λy ap=>agM Q _ y (f9 y ap)⟩) ?_;rintro v A ⟨rfl,rfl⟩)|refine bn ?_|((with_reducible first|apply eT|apply iN|apply fK|apply cC|apply f4|apply kC|apply kB|apply eD)<;>intros))<;>(conv=>whnf))
 all_goals(refine⟨rfl,?_⟩;clear gX dr c3 dY e9 f9)
 all_goals(congr 1;unfold FV;simp_all only[qL,qX,t5,sr,uW])
 all_goals first|rfl|(rw[qO (by first|omega|(simp_all;done)|(simp_all;omega))];rfl)|(rw[iX Y];first|rfl|(rw[iX (by first|omega|(simp_all;done)|(simp_all;omega))];rfl)|(rw[qO (by first|omega|(simp_all;done)|(simp_all;omega))];simp))
end
section
variable{C:Nat->cG}{ext:Nat->Option e0}{ab:fD}(Q:Env C ext ab)
include Q
omit Q in
def ahM(x)(I:x.ok):∀t∈sB x,t.bL:=by
 obtain⟨_,_,_,_,_,df,dr,cH,c3,dh,dY,fj,e9,fP,f9⟩:=I;intro t al;simp only[sB,jD,List.mem_flatMap,pI,oA,oR,sw,pQ,pB,re,iF] at al;rcases al with(((⟨s,ak,f,aI,rfl⟩|⟨s,ak,f,aI,al⟩)|⟨s,ak,f,aI,al⟩)|⟨s,ak,rfl⟩)|⟨s,ak,al⟩
 .exact((dr s ak).2.2.2.2.2 f aI).2
 .exact((c3 s ak).2.2.2.2.2 f aI).2.2 t al
 .have:=(dY s ak).2.2.2 f aI;rcases al with al|rfl
  .exact this.2.2.1 t al
  .exact this.2.2.2.1
 .exact(e9 s ak).2.2.2.1
 .rcases al with⟨a,aD,rfl⟩|rfl
  .exact((f9 s ak).2.2.2.2.2.1 a aD).2.1
  .exact(f9 s ak).2.2.2.2.2.2.1
omit Q in
def agk(x)(I:x.ok):∀t∈sC x,t.bL:=by
 obtain⟨_,_,_,_,_,df,dr,cH,c3,dh,dY,fj,e9,fP,f9⟩:=I;intro t al;simp only[sC,List.mem_flatMap,mf,jD] at al;obtain⟨s,ak,⟨a,aD,h⟩|h⟩:=al
 .unfold n2 at h;split at h
  .cases h
  .rw[iF] at h;subst h;exact((f9 s ak).2.2.2.2.2.1 a aD).2.2
 .split at h
  .rw[iF] at h;subst h;exact(f9 s ak).2.2.2.2.2.2.2
  .cases h
omit Q in
def amM(x)(I:x.ok):(sB x).length<=3000000:=by
 obtain⟨_,_,_,_,_,df,dr,cH,c3,dh,dY,fj,e9,fP,f9⟩:=I;have B:=mO x.ea (f:=pI) (n:=100) λz bO=>PA z (dr z bO);have F:=mO x.dW (f:=oA) (n:=10000) λz bO=>Qv z (c3 z bO);have ah:=mO x.e7 (f:=oR) (n:=10000) λz bO=>S2 z (dY z bO);have aE:=mO x.ed (f:=pQ) (n:=1) λz bO=>by simp [pQ]
 have bt:=mO x.funcs (f:=pB) (n:=100) λz bO=>YB z (f9 z bO);simp only[sB,gP];omega
omit Q in
def afs(x)(I:x.ok):(sC x).length<=10000:=by obtain⟨_,_,_,_,_,df,dr,cH,c3,dh,dY,fj,e9,fP,f9⟩:=I;have bt:=mO x.funcs (f:=mf) (n:=100) λz bO=>Wi z (f9 z bO);rw[sC];omega
def aij(t:aj)(al:t.bL):bj C [] 49 [.J (.agg t.cells)] [] (lc (t.mB pp)):=by refine Q.z 49 cY rfl rfl ?_;refine aG ?_;refine cj (RR Q 51 [] pp (by simp) (λx I=>aiY Q x I) t al) ?_;exact⟨rfl,rfl⟩
def zI(x:cV):Bool:=FV x&&(HM x&&((sB x).all ai.lx&&((sC x).all (aj.mB pp)&&decide (Kf (sB x) (sC x)=0))))
def aiD(x)(I:x.ok):bj C [] 21 [.J (.agg x.cells)] [] (lc (zI x)):=by
 refine Q.z 21 cY rfl rfl ?_;have gY:=ahM x I;have im:=agk x I;have asE:=amM x I;have ar7:=afs x I
 (conv=>whnf)
 repeat' ((first|(refine aK (aiZ Q x I) ?_;rintro v A ⟨rfl,g,rfl⟩)|(refine aK (aj3 Q x I) ?_;rintro v A ⟨rfl,rfl⟩)|(refine aK (aii Q x I) ?_;rintro v A ⟨rfl,rfl⟩)|(refine aK (ahK Q x I) ?_;rintro v A ⟨rfl,g,rfl⟩)|(refine aK ((nf Q).1 ai.row rfl _ 56 [] (sB x) ai.lx Y ⟨by simp,λy ap=>by rw[ai.dF];exact acJ Q y (gY y ap)⟩) ?_;rintro v A ⟨rfl,rfl⟩)|(refine aK ((nf Q).2.1 aj.row rfl _ 49 [] (sC x) (aj.mB pp) Y ⟨by simp,λy ap=>by rw[aj.dF];exact aij Q y (im y ap)⟩) ?_;rintro v A ⟨rfl,rfl⟩)|(refine aK (akt Q _ (sB x) _ (sC x) Y gY Y im) ?_;rintro v A ⟨rfl,rfl⟩)|refine bn ?_|((with_reducible first|apply eT|apply iN|apply fK|apply cC|apply f4|apply kC|apply kB|apply eD)<;>intros))<;>(conv=>whnf))
 all_goals(refine⟨rfl,?_⟩;clear gY im)
 all_goals(congr 1;unfold zI;simp only[*,J5,qX,t5,uW])
end
end Go.Tx
