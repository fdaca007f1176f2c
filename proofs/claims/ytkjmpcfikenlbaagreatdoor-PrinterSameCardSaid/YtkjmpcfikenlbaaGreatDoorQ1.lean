/- A part. -/
import Derived.Test.YtkjmpcfikenlbaaGreatDoorQ0
set_option linter.all false
namespace Go.Tx
open Go Go.Ev
set_option maxRecDepth 100000
set_option maxHeartbeats 8000000
inductive vD (x:eG):eG->Prop
 |none:x.eu=[]->vD x x
 |dr:vD x {x with g:=261,dr:= !x.dr}
 |pV:vD x {x with g:=261,pV:= !x.pV}
 |UQ (s d):s∈[[115,104,111,119],[109,111,114,101]]->d∈[[],[109,97,114,107,79,102],[110,111,110,101]]->vD x {x with g:=261,eu:=x.eu++[⟨s,86,[ob [83,101,108,102]],ob [73,110,116],d⟩]}
 |eW (h:0<x.eu.length) (t):t∈qg->vD x {x with g:=261,eu:=x.eu.set 0 {x.eu[0]with eW:=t}}
 |arg (h:0<x.eu.length) (t):t∈qg->vD x {x with g:=261,eu:=x.eu.set 0 {x.eu[0]with g:=87,args:=x.eu[0].args++[t]}}
 |drop (g):vD x {x with g:=g,eu:=x.eu.drop 1}
attribute [local irreducible] eo eA bU eE eJ eN cU eX
section
variable{C:Nat->cE}{ext:Nat->Option eS}{Q:e9}(aa:Env C ext Q)(aS:jW Q)
include aa aS
def ao3{g}(a:Nat)(aC:a<=Q.length)(x:eG)(M:x.ok):bU C [] 28 [.bN 1000 0,.J (.agg x.row)] [(1000,dD g Q a)] (qb g Q λv=>∃y:eG,v=.agg y.row/\vD x y):=by
 refine aa.y 28 ff rfl rfl ?_;have er:(x.eu.map fS.row).length=x.eu.length:=bW;have⟨f1,f2,f3,rf⟩:=M;refine N ?_;refine ch (λbr=>?_) (λbr=>?_)
 .refine N ?_;exact⟨⟨x,rfl,.none (List.eq_nil_of_length_eq_zero I)⟩,a,aC,rfl⟩
 have kb:0<x.eu.length:=I;have k3:0<(x.eu.map fS.row).length:=I;have ag:=oF fS.row kb;have ap:=sE fS.row kb;have bq:(x.eu[0].args.map al.row).length<100:=by rw[ex];exact(rf _ (fQ kb)).2.1
 unfold fS.row at ag ap
 (conv=>whnf)
 repeat(first|refine bV.mk ⟨mq x.eu λx=>rfl,I⟩ ?_|refine da ?_);(conv=>whnf)
 refine aW (dy aa aS a 6 aC af af) ?_;rintro v A ⟨⟨r,rfl,vC⟩,bk,cY,rfl⟩;refine N ?_;refine ch (λD=>?_) (λD=>?_)
 .refine N ?_;exact⟨⟨{x with g:=261,dr:= !x.dr},rfl,.dr⟩,bk,cY,rfl⟩
 refine N ?_;refine ch (λD=>?_) (λD=>?_)
 .refine N ?_;exact⟨⟨{x with g:=261,pV:= !x.pV},rfl,.pV⟩,bk,cY,rfl⟩
 refine N ?_;refine ch (λD=>?_) (λD=>?_)
 .refine N ?_;refine aW (dy aa aS bk 2 cY af af) ?_;rintro v A ⟨⟨n,rfl,aD⟩,bu,cy,rfl⟩;have⟨s,ib,iv⟩:=si (l:=[[115,104,111,119],[109,111,114,101]]) (n:=n) aD;refine N ?_;refine bV.mk aD ?_;refine N ?_;refine kK.mk _ iv ?_;refine N ?_;refine bn (ky aa _) ?_;refine bn (ky aa _) ?_;refine aW (dy aa aS bu 3 cy af af) ?_;rintro v A ⟨⟨cl,rfl,kr⟩,b1,dl,rfl⟩;have⟨d,qd,qx⟩:=si (l:=[([]:bj),[109,97,114,107,79,102],[110,111,110,101]]) (n:=cl) kr;refine N ?_;refine bV.mk kr ?_;refine N ?_;refine kK.mk _ qx ?_;refine bw ?_;exact⟨⟨{x with g:=261,eu:=x.eu++[⟨s,86,[ob [83,101,108,102]],ob [73,110,116],d⟩]},by unfold eG.row;rw[jj];simp only[fS.row,gg,hq,al.dN];rfl,.UQ s d ib qd⟩,b1,dl,rfl⟩
 refine N ?_;refine ch (λD=>?_) (λD=>?_)
 .refine N ?_;refine aW (vH aa aS bk cY) ?_;rintro v A ⟨⟨t,rfl,au⟩,cP,gz,rfl⟩;refine N ?_;refine bV.mk k3 ?_;refine N ?_;refine bV.mk k3 (dU.mk _ ag ?_);refine N ?_;exact⟨⟨{x with g:=261,eu:=x.eu.set 0 {x.eu[0]with eW:=t}},by unfold eG.row;rw[List.map_set];rfl,.eW kb t au⟩,cP,gz,rfl⟩
 refine N ?_;refine ch (λD=>?_) (λD=>?_)
 .refine N ?_;refine bV.mk k3 ?_;refine N ?_;refine kK.mk _ ap ?_;refine N ?_;refine bV.mk ⟨mq _ λy=>by rw[al.dN];rfl,I⟩ ?_;refine bV.mk (by show _*40<=_;omega) ?_;refine N ?_;refine aW (vH aa aS bk cY) ?_;rintro v A ⟨⟨t,rfl,au⟩,cP,gz,rfl⟩;refine N ?_;refine bV.mk (by show 1<=_;omega) ?_;refine bV.mk (by show(_+1)*40<=_;omega) ?_;refine N ?_;refine bV.mk k3 ?_;refine N ?_;refine bV.mk k3 (dU.mk _ ag ?_);refine N ?_;exact⟨⟨{x with g:=261,eu:=x.eu.set 0 {x.eu[0]with g:=87,args:=x.eu[0].args++[t]}},by unfold eG.row;rw[List.map_set];simp only[fS.row,jj,gg,hq,al.dN];rfl,.arg kb t au⟩,cP,gz,rfl⟩
 refine N ?_;refine ch (λD=>?_) (λD=>?_)
 .refine N ?_;refine dU.mk _ ag ?_;refine N ?_;refine bV.mk I ?_;refine N ?_;by_cases F:x.eu.length=1
  .refine mK.none I I I ?_;refine N ?_;refine⟨⟨{x with g:=0,eu:=x.eu.drop 1},?_,.drop 0⟩,bk,cY,rfl⟩;unfold eG.row;rw[List.drop_eq_nil_of_le I];rfl
  .refine mK.some I I ?_;refine N ?_;refine⟨⟨{x with g:=260,eu:=x.eu.drop 1},?_,.drop 260⟩,bk,cY,rfl⟩;rw[Dx (by rw[qK];exact fI _)];unfold eG.row;rw[List.map_drop];rfl
 .omega
end
def ai.w(e:ai)(ay mem:bj)(bX:List al)(fo:List bj)(jO:List dI)(g0:List ai)(G:Nat×Nat×Nat×Nat):ai:=.mk e.kind ay mem e.num G.1 bX G.2.1 fo G.2.2.1 jO G.2.2.2 g0 e.bL e.pos
def ai.k(e:ai)(g0:List ai)(G:Nat×Nat×Nat×Nat):ai:=e.w e.ay e.mem e.types e.cg e.bM g0 G
def nP{s:bj}{l:List bj}(h:s∈l)(Y:(l.all λs=>decide (s.length<1000))=true):s.length<1000:=sw (ub.1 Y s h)
inductive lb:ai->ai->Prop
 |id {e:ai} (G):lb e (e.k e.kids G)
 |bool {e:ai} (n:Nat):e.kind=1->n<2->lb e (.mk 2 [] [] n 1 [] 1 [] 1 [] 1 [] (.mk [] 1 []) 0)
 |wrap {e:ai} (x:ai) (g:Nat):x.aA=e.aA->(e.ok->x.ok)->x.size=e.size->lb e (.mk 23 [] [] 0 1 [] 1 [] 1 [] g [x] (.mk [] 1 []) 0)
 |ay {e:ai} (s G):s.length<1000->e.kind≠8->e.kind=3\/e.kind=20\/e.ay≠[]->lb e (e.w s e.mem e.types e.cg e.bM e.kids G)
 |op {e:ai} (s G):s.length<1000->e.kind=8->lb e (e.w s e.mem e.types e.cg e.bM e.kids G)
 |mem {e:ai} (s fo G):(s=e.mem\/s.length<1000)->(e.kind≠12->e.mem=[]->s=[])->(fo=e.cg\/∃z,z.length<1000/\fo=e.cg.set 0 z)->lb e (e.w e.ay s e.types fo e.bM e.kids G)
 |JZ {e:ai} (t G):t∈qg->0<e.types.length->lb e (e.w e.ay e.mem (e.types.set 0 t) e.cg e.bM e.kids G)
 |Iv {e:ai} (t G):t∈qg->e.types=[]->lb e (e.w e.ay e.mem [t] e.cg e.bM e.kids G)
 |wH {e:ai} (fo G):0<e.kids.length->fo=e.cg\/(e.kind=11/\e.kids.length<=e.cg.length/\fo=e.cg.take (e.kids.length - 1))->lb e (e.w e.ay e.mem e.types fo e.bM (e.kids.take (e.kids.length - 1)) G)
 |zX {e:ai} (fo G):fo=e.cg\/(e.kind=11/\fo=e.cg++[[97]])->lb e (e.w e.ay e.mem e.types fo e.bM (e.kids++[qP 1]) G)
 |F1 {e:ai} (G):e.kind=15->0<e.bM.length->lb e (e.w e.ay e.mem e.types e.cg (e.bM.take (e.bM.length - 1)) (e.kids.take (min e.bM.length e.kids.length)) G)
 |Ku {e:ai} (k s G) (h:k<e.bM.length):s.length<1000->e.kind=15->e.bM[k].ma=false->lb e (e.w e.ay e.mem e.types e.cg (e.bM.set k {e.bM[k]with case:=s}) e.kids G)
 |I2 {e:ai} (k g G) (h:k<e.bM.length):e.kind=15->e.bM[k].ma=false->lb e (e.w e.ay e.mem e.types e.cg (e.bM.set k {e.bM[k]with g:=g,names:=e.bM[k].names++[[113]]}) e.kids G)
 |JM {e:ai} (a G):a.ok->e.kind=15->lb e (e.w e.ay e.mem e.types e.cg (e.bM++[a]) (e.kids++[qP 3]) G)
 |l0 {e:ai} (i y G) (h:i<e.kids.length):lb e.kids[i] y->lb e (e.k (e.kids.set i y) G)
def lb.pre{e y:ai}{G}(h:lb (e.k e.kids G) y):lb e y:=by
 have aw:(e.k e.kids G).aA=e.aA:=by rw[ai.jD,ai.jD e];rfl
 generalize M:e.k e.kids G=x at h;cases h with
 |id G=>subst M;exact .id G|bool n D F=>subst M;exact .bool n D F|wrap x g h D F=>subst M;exact .wrap x g (h.trans aw) (λh=>D ((ai.mS (e.k e.kids G)).2 ((ai.mS e).1 h))) (F.trans ((ai.size_eq (e.k e.kids G)).trans (ai.size_eq e).symm))|ay s G br D F=>subst M;exact .ay s G br D F|op s G br D=>subst M;exact .op s G br D|mem s fo G br D F=>subst M;exact .mem s fo G br D F|JZ t G D F=>subst M;exact .JZ t G D F|Iv t G D F=>subst M;exact .Iv t G D F|wH fo G D F=>subst M;exact .wH fo G D F|zX fo G D=>subst M;exact .zX fo G D|F1 G D F=>subst M;exact .F1 G D F|Ku k s G h br D F=>subst M;exact @lb.Ku e k s G h br D F|I2 k g G h D F=>subst M;exact @lb.I2 e k g G h D F|JM a G br D=>subst M;exact .JM a G br D|l0 i y G h D=>subst M;exact @lb.l0 e i y G h D
inductive yL (x:cZ):cZ->Prop
 |id:yL x x
 |NZ (g) (h:0<x.fA.length):yL x {x with aj:=g,fA:=x.fA.drop 1}
 |N2 (s r):s∈[[98,97,115,101],[103,101,111],[97,112,112],[110,111,110,101]]->1<=r->r<=6->yL x {x with aj:=2135,fA:=x.fA++[⟨s,r⟩]}
 |Qz (i) (h:i<x.funcs.length):yL x {x with dj:=2099,funcs:=x.funcs++[x.funcs[i]]}
 |Sf (h:0<x.dn.length):yL x {x with cp:=2173,dn:=x.dn++[x.dn[0]]}
 |Dz (g) (h:0<x.dJ.length):yL x {x with an:=g,dJ:=x.dJ.drop 1}
def cZ.uz(m:cZ):cZ:={m with aj:=2135,an:=2149,aM:=2157,bs:=2165,cp:=2173,dj:=2099}
inductive vb (m:cZ):cZ->Prop
 |body (i:Nat) (h:i<m.funcs.length) (y:ai):lb m.funcs[i].body y->vb m {m.uz with funcs:=m.funcs.set i {m.funcs[i]with body:=y}}
 |fn (i:Nat) (h:i<m.funcs.length) (y:cu):tv m.funcs[i] y->vb m {m.uz with funcs:=m.funcs.set i y}
 |iy (i:Nat) (h:i<m.dJ.length) (y:dX):va m.dJ[i] y->vb m {m.uz with dJ:=m.dJ.set i y}
 |un (i:Nat) (h:i<m.d9.length) (y:dV):u2 m.d9[i] y->vb m {m.uz with d9:=m.d9.set i y}
 |ec (i:Nat) (h:i<m.e2.length) (y:eG):vD m.e2[i] y->vb m {m.uz with e2:=m.e2.set i y}
 |Is (i:Nat) (h:i<m.dn.length) (y:em):vq m.dn[i] y->vb m {m.uz with dn:=m.dn.set i y}
 |Rd (y:cZ):yL m.uz y->vb m y
def Eh:aO:=[1067,1049,1086]
structure abN(x:cZ):Prop where
 aj:x.aj=2135
 cp:x.cp=2173
 dj:x.dj=2099
 F:∀e∈Eh,cf [e] (.aH x.an (x.dJ.map dX.row))=false
 aq:∀e∈Eh,cf [e] (.aH x.aM (x.d9.map dV.row))=false
 aL:∀e∈Eh,cf [e] (.aH x.bs (x.e2.map eG.row))=false
 bO:∀e∈Eh,h7 [e] (x.dn.map em.row)=false
 cr:∀e∈Eh,h7 [e] (x.funcs.map cu.row)=false
def Va{α:Type}{X}{aJ:α->di}{x:α}:∀{l:List α},h7 X (l.map aJ)=false->x∈l->eD X (aJ x)=false
 |a::l,h,hm=>by
  simp only[gg,h7,H8]at h;rcases hS.1 hm with rfl|hm
  .exact h.1
  .exact Va h.2 hm
def yf{e g:Nat}{Q:g4}(h:h7 [e] Q=false)(bI:cn (g / 2) [e]=false):cf [e] (.aH g Q)=false:=by
 cases Q with
 |nil=>simp only[cf]|cons a l=>simp only[cf,bI,h];rfl
section
variable{C:Nat->cE}{ext:Nat->Option eS}{Q:e9}(aa:Env C ext Q)(aS:jW Q)
include aa aS
def apY{g}(gd:g / 2=3)(a:Nat)(aC:a<=Q.length)(x:cZ)(M:x.ok)(bo:abN x):bU C [1067,1049,1086] 30 [.bN 1000 0,.J (.agg x.cells)] [(1000,dD g Q a)] (qb g Q λv=>∃y:cZ,v=.agg y.cells/\yL x y):=by
 refine aa.y 30 ff rfl rfl ?_;have tm:(x.fA.map hM.row).length=x.fA.length:=bW;have er:(x.dJ.map dX.row).length=x.dJ.length:=bW;have lj:(x.dn.map em.row).length=x.dn.length:=bW;have ny:(x.funcs.map cu.row).length=x.funcs.length:=bW;have⟨ar,nv,l5,g3,e5,cH,cT,cq,cN,c9,el,eg,e0,fJ,gB⟩:=id M;have⟨aj,cp,dj,F,aq,aL,bO,cr⟩:=bo;have D:∀e,h7 [e] (x.fA.map hM.row)=false:=λe=>tn λx _=>rfl;refine N ?_;refine aW (dy aa aS a 5 aC af af) ?_;rintro v A ⟨⟨r,rfl,vC⟩,bk,cY,rfl⟩;refine N ?_;refine ch (λaP=>?_) (λaP=>?_)
 .refine N ?_;refine eh (λbr=>?_) (λbr=>?_)
  .refine N ?_;refine dU.mk _ (oF hM.row (i:=0) I) ?_;refine N ?_;refine bV.mk I ?_;refine N ?_;by_cases F:x.fA.length=1
   .refine mK.none I I I ?_;refine N ?_;refine⟨⟨{x with aj:=0,fA:=x.fA.drop 1},?_,.NZ 0 I⟩,bk,cY,rfl⟩;rw[List.drop_eq_nil_of_le I];rfl
   .refine mK.some I I ?_;refine N ?_;refine⟨⟨{x with aj:=2134,fA:=x.fA.drop 1},?_,.NZ 2134 I⟩,bk,cY,rfl⟩;rw[Dx (by rw[qK];exact fI _)];rw[<-List.map_drop,aj]
  .refine N ?_;exact⟨⟨x,rfl,.id⟩,bk,cY,rfl⟩
 refine N ?_;refine ch (λaP=>?_) (λaP=>?_)
 .refine N ?_;refine aW (dy aa aS bk 4 cY af af) ?_;rintro v A ⟨⟨n,rfl,aD⟩,bu,cy,rfl⟩;refine N ?_;refine qm.mk rfl ?_;refine N ?_;have⟨s,ib,iv⟩:=si (l:=[[98,97,115,101],[103,101,111],[97,112,112],[110,111,110,101]]) (n:=n) aD;refine bV.mk aD ?_;refine N ?_;refine kK.mk _ iv ?_;refine N ?_;refine aW (dy aa aS bu 6 cy af af) ?_;rintro v A ⟨⟨cl,rfl,kr⟩,b1,dl,rfl⟩;refine N ?_;refine qm.mk rfl ?_;refine N ?_;refine qm.mk rfl ?_;refine N ?_;refine bV.mk (by show 1<=_;omega) ?_;refine N ?_;refine(show wo _ x.aj 1067 _ _ _ _ _ _ from r9 (pc.A (ak:=1067) (aJ:=hM.row) (.inr aj) λx=>rfl) af rfl (by show(_+1)*24<=_;omega) (λh=>?_) (λh=>?_))
  .refine qm.mk (oj (D _) (jA rfl)) ?_;have Ju:cf [1067] (.aH x.aj (x.fA.map hM.row))=true:=pc.full (.inr aj) h;have f0:cf [1067] (.aH x.an (x.dJ.map dX.row))=false:=F 1067 af;have f1:cf [1067] (.aH x.aM (x.d9.map dV.row))=false:=aq 1067 af;have f2:cf [1067] (.aH x.bs (x.e2.map eG.row))=false:=aL 1067 af;have f3:cf [1067] (.aH x.cp (x.dn.map em.row))=false:=yf (bO _ af) (by rw[cp];rfl);have f4:cf [1067] (.aH x.dj (x.funcs.map cu.row))=false:=yf (cr _ af) (by rw[dj];rfl);have eI:cf [1067] (.op g Q.W)=false:=aS.cj gd rfl;show ia [1067] _ _ _ _;refine i6 ⟨jA rfl,rfl,rfl,trivial⟩ ?_;simp(disch:=first|assumption|with_unfolding_all rfl) only[gg,hq,dF,iI,iV,i1,i2,i3,i0,iY,jn,ij,ro];show nr _ _ _ _ _ _;refine N ?_;have cB:(x.fA++[(⟨s,1+cl⟩:hM)]).map hM.row=x.fA.map hM.row++[[.str s,.int 3 (1+cl)]]:=jj;exact⟨⟨{x with aj:=2135,fA:=x.fA++[⟨s,1+cl⟩]},by rw[<-cB];rfl,.N2 s (1+cl) ib I I⟩,b1,dl,rfl⟩
  .show nr _ _ _ _ _ _;refine N ?_;have sm:x.fA=[]:=List.map_eq_nil_iff.1 h;exact⟨⟨{x with aj:=2135,fA:=x.fA++[⟨s,1+cl⟩]},by rw[sm];rfl,.N2 s (1+cl) ib I I⟩,b1,dl,rfl⟩
 refine N ?_;refine ch (λaP=>?_) (λaP=>?_)
 .refine N ?_;refine eh (λbr=>?_) (λbr=>?_)
  .refine N ?_;refine aW (dy aa aS bk _ cY br I) ?_;rintro v A ⟨⟨i,rfl,aN⟩,bu,cy,rfl⟩;have jd:i<x.funcs.length:=I;have ag:=oF cu.row jd;refine N ?_;refine bV.mk aN ?_;refine N ?_;refine dU.mk _ ag ?_;refine N ?_;have yZ:eD [1049] (cu.row x.funcs[i])=false:=Va (cr _ af) (fQ jd);refine bV.mk (by show 1<=_;omega) ?_;refine N ?_;refine(show wo _ x.dj 1049 _ _ _ _ _ _ from r9 (pc.A (ak:=1049) (aJ:=cu.row) (.inr dj) λx=>rfl) af rfl (by show(_+1)*320<=_;omega) (λh=>?_) (λh=>?_))
   .refine qm.mk (oj (cr _ af) (jA yZ)) ?_;have Ju:cf [1049] (.aH x.dj (x.funcs.map cu.row))=true:=pc.full (.inr dj) h;have f0:cf [1049] (.aH x.an (x.dJ.map dX.row))=false:=F 1049 af;have f1:cf [1049] (.aH x.aM (x.d9.map dV.row))=false:=aq 1049 af;have f2:cf [1049] (.aH x.bs (x.e2.map eG.row))=false:=aL 1049 af;have f3:cf [1049] (.aH x.aj (x.fA.map hM.row))=false:=yf (D _) (by rw[aj];rfl);have f4:cf [1049] (.aH x.cp (x.dn.map em.row))=false:=yf (bO _ af) (by rw[cp];rfl);have eI:cf [1049] (.op g Q.W)=false:=aS.cj gd rfl;show ia [1049] _ _ _ _;refine i6 ⟨jA yZ,trivial⟩ ?_;simp(disch:=first|assumption|with_unfolding_all rfl) only[gg,hq,dF,iI,iV,i1,i2,i3,i0,iY,jn,ij,ro];show nr _ _ _ _ _ _;refine N ?_;have cB:(x.funcs++[x.funcs[i]]).map cu.row=x.funcs.map cu.row++[cu.row x.funcs[i]]:=jj;exact⟨⟨{x with dj:=2099,funcs:=x.funcs++[x.funcs[i]]},by rw[<-cB];rfl,.Qz i jd⟩,bu,cy,rfl⟩
   .show nr _ _ _ _ _ _;refine N ?_;have sm:x.funcs=[]:=List.map_eq_nil_iff.1 h;rw[sm]at jd;simp at jd
  .refine N ?_;exact⟨⟨x,rfl,.id⟩,bk,cY,rfl⟩
 refine N ?_;refine ch (λaP=>?_) (λaP=>?_)
 .refine N ?_;refine eh (λbr=>?_) (λbr=>?_)
  .refine N ?_;have ag:=oF em.row (l:=x.dn) (i:=0) I;refine bV.mk br ?_;refine N ?_;refine dU.mk _ ag ?_;refine N ?_;have yZ:eD [1086] (em.row (x.dn[0]' I))=false:=Va (bO _ af) (fQ _);refine bV.mk (by show 1<=_;omega) ?_;refine N ?_;refine(show wo _ x.cp 1086 _ _ _ _ _ _ from r9 (pc.A (ak:=1086) (aJ:=em.row) (.inr cp) λx=>rfl) af rfl (by show(_+1)*104<=_;omega) (λh=>?_) (λh=>?_))
   .refine qm.mk (oj (bO _ af) (jA yZ)) ?_;have Ju:cf [1086] (.aH x.cp (x.dn.map em.row))=true:=pc.full (.inr cp) h;have f0:cf [1086] (.aH x.an (x.dJ.map dX.row))=false:=F 1086 af;have f1:cf [1086] (.aH x.aM (x.d9.map dV.row))=false:=aq 1086 af;have f2:cf [1086] (.aH x.bs (x.e2.map eG.row))=false:=aL 1086 af;have f3:cf [1086] (.aH x.aj (x.fA.map hM.row))=false:=yf (D _) (by rw[aj];rfl);have f4:cf [1086] (.aH x.dj (x.funcs.map cu.row))=false:=yf (cr _ af) (by rw[dj];rfl);have eI:cf [1086] (.op g Q.W)=false:=aS.cj gd rfl;show ia [1086] _ _ _ _;refine i6 ⟨jA yZ,trivial⟩ ?_;simp(disch:=first|assumption|with_unfolding_all rfl) only[gg,hq,dF,iI,iV,i1,i2,i3,i0,iY,jn,ij,ro];show nr _ _ _ _ _ _;refine N ?_;have cB:(x.dn++[x.dn[0]' I]).map em.row=x.dn.map em.row++[em.row (x.dn[0]' I)]:=jj;exact⟨⟨{x with cp:=2173,dn:=x.dn++[x.dn[0]' I]},by rw[<-cB];rfl,.Sf I⟩,bk,cY,rfl⟩
   .show nr _ _ _ _ _ _;refine N ?_;rw[h]at br;simp at br
  .refine N ?_;exact⟨⟨x,rfl,.id⟩,bk,cY,rfl⟩
 refine N ?_;refine ch (λaP=>?_) (λaP=>?_)
 .refine N ?_;refine eh (λbr=>?_) (λbr=>?_)
  .refine N ?_;refine dU.mk _ (oF dX.row (i:=0) I) ?_;refine N ?_;refine bV.mk I ?_;refine N ?_;by_cases F:x.dJ.length=1
   .refine mK.none I I I ?_;refine N ?_;refine⟨⟨{x with an:=0,dJ:=x.dJ.drop 1},?_,.Dz 0 I⟩,bk,cY,rfl⟩;rw[List.drop_eq_nil_of_le I];rfl
   .refine mK.some I I ?_;refine N ?_;refine⟨⟨{x with an:=2*(x.an / 2),dJ:=x.dJ.drop 1},?_,.Dz _ I⟩,bk,cY,rfl⟩;rw[Dx (by rw[qK];exact fI _)];rw[<-List.map_drop]
  .refine N ?_;exact⟨⟨x,rfl,.id⟩,bk,cY,rfl⟩
 omega
end
structure SF(e:ai):Prop where
 bs:e.bs=2091
 ar:h7 [1045] (e.kids.map ai.row)=false
 au:h7 [1045] (e.types.map al.row)=false
 aC:cf [1045] (.aH e.aM (e.bM.map dI.row))=false
 aE:cf [1045] (.aH e.bL.g (e.bL.l.map al.row))=false
 z1:h7 [1045] (e.bM.map dI.row)=false
 Tr:cf [1045] (.aH e.aj (e.types.map al.row))=false
 Ig:cf [1045] (.aH e.an (e.cg.map b6))=false
section
variable{C:Nat->cE}{ext:Nat->Option eS}{Q:e9}(aa:Env C ext Q)(aS:jW Q)
include aa aS
def EP{g}(gd:g / 2=3)(a:Nat)(aC:a<=Q.length)(e:ai)(aw:e.b0)(bo:SF e)(a0:e.kind=7\/e.kind=9\/e.kind=10\/e.kind=11\/e.kind=14\/e.kind=16):bU C [1045] 66 [.bN 1000 0,.J (.agg e.cells)] [(1000,dD g Q a)] (qb g Q λv=>∃y:ai,v=.agg y.cells/\lb e y):=by
 refine aa.y 66 ff rfl rfl ?_;have er:(e.types.map al.row).length=e.types.length:=bW;have f8:(e.cg.map b6).length=e.cg.length:=bW;have jy:(e.kids.map ai.row).length=e.kids.length:=bW;have⟨c4,cl,dm,fp,h5,io,ld,jZ,il,rQ,rP⟩:=aw.one;obtain⟨bs,ar,au,D8,aE,-,-,-⟩:=bo;have eI:cf [1045] (.op g Q.W)=false:=aS.cj gd rfl;have hm:h7 [1045] (e.cg.map b6)=false:=tn λx _=>rfl;have gU:(e.cg++[[97]]).map b6=e.cg.map b6++[[.str [97]]]:=jj;have mX:(e.kids++[qP 1]).map ai.row=e.kids.map ai.row++[(ai.mk 1 [] [] 1 1 [] 1 [] 1 [] 1 [] (al.mk [] 1 []) 0).cells]:=jj
 (conv=>whnf)
 repeat(first|refine bV.mk ⟨mq e.types λx=>by rw[al.dN];rfl,I⟩ ?_|refine bV.mk ⟨mq e.cg λx=>rfl,I⟩ ?_|refine da ?_);(conv=>whnf)
 refine aW (dy aa aS a 5 aC af af) ?_;rintro v A ⟨⟨r,rfl,vC⟩,bk,cY,rfl⟩;refine N ?_;refine ch (λaP=>?_) (λaP=>?_)
 .refine N ?_;refine eQ (cQ (λa3=>?_) (λa3=>?_))
  .refine N ?_;exact⟨⟨_,rfl,.id (2087,2019,e.aM,e.bs)⟩,bk,cY,rfl⟩
  refine N ?_;refine aW (dy aa aS bk 8 cY af af) ?_;rintro v A ⟨⟨n,rfl,aD⟩,bu,cy,rfl⟩;have⟨s,ib,iv⟩:=CZ (l:=[[102,97],[102,98],[103,101,111,46,102,97],[98,97,115,101,46,102,97],[83,97],[98,97,115,101,46,83,97],[103,101,111,46,83,104,111,119],[110,111,110,101,46,102,97]]) (n:=n) aD;refine N ?_;refine bV.mk aD (dU.mk _ iv ?_);refine N ?_;exact⟨⟨_,rfl,.ay s (2087,2019,e.aM,e.bs) (nP ib rfl) I (.inr (.inr a3))⟩,bu,cy,rfl⟩
 refine N ?_;refine ch (λaP=>?_) (λaP=>?_)
 .refine N ?_;refine eh (λa3=>?_) (λa3=>?_)
  .refine N ?_;refine aW (vH aa aS bk cY) ?_;rintro v A ⟨⟨t,rfl,Uj⟩,cP,gz,rfl⟩;refine N ?_;refine bV.mk a3 ?_;refine N ?_;refine bV.mk a3 ?_;refine N ?_;exact⟨⟨_,by rw[show t.cells=t.row from(al.dN t).symm,<-List.map_set];rfl,.JZ t (2087,2019,e.aM,e.bs) Uj I⟩,cP,gz,rfl⟩
  .refine N ?_;refine ch (λcW=>?_) (λcW=>?_)
   .refine N ?_;refine aW (vH aa aS bk cY) ?_;rintro v A ⟨⟨t,rfl,Uj⟩,cP,gz,rfl⟩;refine N ?_;refine bV.mk (by show 1<=_;omega) ?_;refine bV.mk (by show(_+1)*40<=_;omega) ?_;refine N ?_;have g5:e.types=[]:=List.eq_nil_of_length_eq_zero I;exact⟨⟨_,by rw[g5,show t.cells=t.row from(al.dN t).symm];rfl,.Iv t (2087,2019,e.aM,e.bs) Uj g5⟩,cP,gz,rfl⟩
   .refine N ?_;exact⟨⟨_,rfl,.id (2087,2019,e.aM,e.bs)⟩,bk,cY,rfl⟩
 refine N ?_;refine ch (λaP=>?_) (λaP=>?_)
 .refine N ?_;refine eh (λa3=>?_) (λa3=>?_)
  .refine N ?_;have ag:=oF ai.row (l:=e.kids) (i:=0) I;rw[ai.dN]at ag;refine eQ (ch (λcW=>?_) (λcW=>?_))
   .refine N ?_;exact⟨⟨_,rfl,.id (2087,2019,e.aM,e.bs)⟩,bk,cY,rfl⟩
   .refine N ?_;refine dU.mk _ ag ?_;refine N ?_;refine bV.mk I ?_;refine N ?_;by_cases F:e.kids.length=1
    .refine mK.zero rfl I ?_;refine N ?_;have qD:e.kids.take (e.kids.length - 1)=[]:=by rw[F];rfl
     refine ch (λg5=>?_) (λg5=>?_)
     .refine N ?_;refine jQ (λmm=>?_) (λmm=>?_)
      .refine N ?_;have ct:=oF b6 (l:=e.cg) (i:=0) I;refine dU.mk _ ct ?_;refine N ?_;refine bV.mk I ?_;refine N ?_;refine mK.zero rfl I ?_;refine N ?_;exact⟨⟨_,by rw[qD,F];rfl,.wH (e.cg.take (e.kids.length - 1)) (2087,0,e.aM,0) I (.inr ⟨g5,I,rfl⟩)⟩,bk,cY,rfl⟩
      .refine N ?_;exact⟨⟨_,by rw[qD];rfl,.wH e.cg (2087,2019,e.aM,0) I (.inl rfl)⟩,bk,cY,rfl⟩
     .refine N ?_;exact⟨⟨_,by rw[qD];rfl,.wH e.cg (2087,2019,e.aM,0) I (.inl rfl)⟩,bk,cY,rfl⟩
    .refine mK.some I I ?_;refine N ?_;have qD:List.take ((e.kids.map ai.row).length - 1 - 0) (List.drop 0 (e.kids.map ai.row))=(e.kids.take (e.kids.length - 1)).map ai.row:=by rw[jy,List.map_take];rfl
     refine ch (λg5=>?_) (λg5=>?_)
     .refine N ?_;refine jQ (λmm=>?_) (λmm=>?_)
      .refine N ?_;have ct:=oF b6 (l:=e.cg) (i:=0) I;refine dU.mk _ ct ?_;refine N ?_;refine bV.mk I ?_;refine N ?_;refine mK.some I I ?_;refine N ?_;have qV:List.take ((e.kids.map ai.row).length - 1 - 0) (List.drop 0 (e.cg.map b6))=(e.cg.take (e.kids.length - 1)).map b6:=by rw[jy,List.map_take];rfl
       exact⟨⟨_,by rw[qD,qV,bs];rfl,.wH (e.cg.take (e.kids.length - 1)) (2087,2018,e.aM,2090) I (.inr ⟨g5,I,rfl⟩)⟩,bk,cY,rfl⟩
      .refine N ?_;exact⟨⟨_,by rw[qD,bs];rfl,.wH e.cg (2087,2019,e.aM,2090) I (.inl rfl)⟩,bk,cY,rfl⟩
     .refine N ?_;exact⟨⟨_,by rw[qD,bs];rfl,.wH e.cg (2087,2019,e.aM,2090) I (.inl rfl)⟩,bk,cY,rfl⟩
  .refine N ?_;exact⟨⟨_,rfl,.id (2087,2019,e.aM,e.bs)⟩,bk,cY,rfl⟩
 refine N ?_;refine ch (λaP=>?_) (λaP=>?_)
 .refine N ?_;refine ch (λa3=>?_) (λa3=>?_)
  .refine N ?_;refine bV.mk ⟨rfl,by show 1<=_;omega⟩ ?_;refine bV.mk (by show(_+1)*16<=_;omega) ?_;refine N ?_;refine eQ (ch (λcW=>absurd (a3.symm.trans cW) af) (λcW=>?_));refine N ?_;refine bn (AG aa 1) ?_;refine N ?_;refine bV.mk (by show 1<=_;omega) ?_;refine N ?_;refine(show wo [1045] e.bs 1045 11 192 1 (e.kids.map ai.row) _ _ from r9 ?_ af rfl I (λh=>?_) (λh=>?_))
   .rw[bs];by_cases br:e.kids=[]
    .exact .inl ⟨by rw[br];rfl,rfl⟩
    .have⟨x,l,M⟩:=List.exists_cons_of_ne_nil br;refine .inr ⟨rfl,by rw[M];simp,?_⟩;rw[M];show gC (ai.row x) 11=true;rw[ai.dN];rfl
   .refine qm.mk (oj ar (jA rfl)) ?_;have Ju:cf [1045] (.aH e.bs (e.kids.map ai.row))=true:=by rw[bs];exact Mu h
    show ia [1045] _ _ _ _;refine i6 ⟨jA rfl,oj hm (jA rfl),au,trivial⟩ ?_;simp(disch:=first|assumption|with_unfolding_all rfl) only[gg,hq,dF,iI,iV,i1,i2,i3,i0,iY,jn,m9,ij,ro];show nr _ _ _ _ _ _;refine N ?_;exact⟨⟨_,by rw[<-mX,<-gU];rfl,.zX (e.cg++[[97]]) (2087,2019,e.aM,2091) (.inr ⟨a3,rfl⟩)⟩,bk,cY,rfl⟩
   .show nr _ _ _ _ _ _;refine N ?_;have br:e.kids=[]:=List.map_eq_nil_iff.1 h;exact⟨⟨_,by rw[br,<-gU];rfl,.zX (e.cg++[[97]]) (2087,2019,e.aM,2091) (.inr ⟨a3,rfl⟩)⟩,bk,cY,rfl⟩
  .refine N ?_;refine eQ (ch (λcW=>?_) (λcW=>?_))
   .refine N ?_;exact⟨⟨_,rfl,.id (2087,2019,e.aM,e.bs)⟩,bk,cY,rfl⟩
   .refine N ?_;refine bn (AG aa 1) ?_;refine N ?_;refine bV.mk (by show 1<=_;omega) ?_;refine N ?_;refine(show wo [1045] e.bs 1045 11 192 1 (e.kids.map ai.row) _ _ from r9 ?_ af rfl I (λh=>?_) (λh=>?_))
    .rw[bs];by_cases br:e.kids=[]
     .exact .inl ⟨by rw[br];rfl,rfl⟩
     .have⟨x,l,M⟩:=List.exists_cons_of_ne_nil br;refine .inr ⟨rfl,by rw[M];simp,?_⟩;rw[M];show gC (ai.row x) 11=true;rw[ai.dN];rfl
    .refine qm.mk (oj ar (jA rfl)) ?_;have Ju:cf [1045] (.aH e.bs (e.kids.map ai.row))=true:=by rw[bs];exact Mu h
     show ia [1045] _ _ _ _;refine i6 ⟨jA rfl,hm,au,trivial⟩ ?_;simp(disch:=first|assumption|with_unfolding_all rfl) only[gg,hq,dF,iI,iV,i1,i2,i3,i0,iY,jn,m9,ij,ro];show nr _ _ _ _ _ _;refine N ?_;exact⟨⟨_,by rw[<-mX];rfl,.zX e.cg (2087,2019,e.aM,2091) (.inl rfl)⟩,bk,cY,rfl⟩
    .show nr _ _ _ _ _ _;refine N ?_;have br:e.kids=[]:=List.map_eq_nil_iff.1 h;exact⟨⟨_,by rw[br];rfl,.zX e.cg (2087,2019,e.aM,2091) (.inl rfl)⟩,bk,cY,rfl⟩
 refine N ?_;refine ch (λaP=>?_) (λaP=>?_)
 .refine N ?_;refine eQ (cQ (λa3=>?_) (λa3=>?_))
  .refine N ?_;refine eh (λcW=>?_) (λcW=>?_)
   .refine N ?_;refine aW (dy aa aS bk 3 cY af af) ?_;rintro v A ⟨⟨n,rfl,aD⟩,bu,cy,rfl⟩;have⟨z,ib,iv⟩:=si (l:=[[97],[98],[122]]) (n:=n) aD;refine N ?_;refine qm.mk rfl ?_;refine N ?_;refine bV.mk aD ?_;refine N ?_;refine kK.mk _ iv ?_;refine N ?_;refine bV.mk cW ?_;refine N ?_;refine bV.mk cW ?_;refine N ?_;exact⟨⟨_,by rw[show [b9.str z]=b6 z from rfl,<-List.map_set];rfl,.mem e.mem (e.cg.set 0 z) (2087,2019,e.aM,e.bs) (.inl rfl) (λ_ h=>h) (.inr ⟨z,nP ib rfl,rfl⟩)⟩,bu,cy,rfl⟩
   .refine N ?_;exact⟨⟨_,rfl,.id (2087,2019,e.aM,e.bs)⟩,bk,cY,rfl⟩
  .refine N ?_;refine aW (dy aa aS bk 5 cY af af) ?_;rintro v A ⟨⟨n,rfl,aD⟩,bu,cy,rfl⟩;have⟨s,Wf,iv⟩:=CZ (l:=[[99,97],[99,98],[115,104,111,119],[109,97,114,107],[122,122]]) (n:=n) aD;refine N ?_;refine bV.mk aD (dU.mk _ iv ?_);refine N ?_;refine eh (λcW=>?_) (λcW=>?_)
   .refine N ?_;refine aW (dy aa aS bu 3 cy af af) ?_;rintro v A ⟨⟨n,rfl,aD⟩,b1,dl,rfl⟩;have⟨z,ib,iv⟩:=si (l:=[[97],[98],[122]]) (n:=n) aD;refine N ?_;refine qm.mk rfl ?_;refine N ?_;refine bV.mk aD ?_;refine N ?_;refine kK.mk _ iv ?_;refine N ?_;refine bV.mk cW ?_;refine N ?_;refine bV.mk cW ?_;refine N ?_;exact⟨⟨_,by rw[show [b9.str z]=b6 z from rfl,<-List.map_set];rfl,.mem s (e.cg.set 0 z) (2087,2019,e.aM,e.bs) (.inr (nP Wf rfl)) (λ_ h=>absurd h a3) (.inr ⟨z,nP ib rfl,rfl⟩)⟩,b1,dl,rfl⟩
   .refine N ?_;exact⟨⟨_,rfl,.mem s e.cg (2087,2019,e.aM,e.bs) (.inr (nP Wf rfl)) (λ_ h=>absurd h a3) (.inl rfl)⟩,bu,cy,rfl⟩
 refine N ?_;exact⟨⟨_,rfl,.id (2087,2019,e.aM,e.bs)⟩,bk,cY,rfl⟩
def ag2{g}(gd:g / 2=3)(a:Nat)(aC:a<=Q.length)(e:ai)(aw:e.b0)(bo:SF e)(a0:e.kind=15)(Vl:e.kids≠[]):bU C [1045] 67 [.bN 1000 0,.J (.agg e.cells)] [(1000,dD g Q a)] (qb g Q λv=>∃y:ai,v=.agg y.cells/\lb e y):=by
 refine aa.y 67 ff rfl rfl ?_;have er:(e.bM.map dI.row).length=e.bM.length:=bW;have jy:(e.kids.map ai.row).length=e.kids.length:=bW;have⟨c4,cl,dm,fp,h5,io,ld,jZ,il,rQ,rP⟩:=aw.one;have⟨bs,ar,au,D8,aE,z1,Tr,Ig⟩:=bo;have eI:cf [1045] (.op g Q.W)=false:=aS.cj gd rfl;have ab3:List.take (min (e.bM.map dI.row).length (e.kids.map ai.row).length - 0) (List.drop 0 (e.kids.map ai.row))=(e.kids.take (min e.bM.length e.kids.length)).map ai.row:=by rw[er,jy,List.map_take];rfl
 have cB:(e.bM++[(⟨true,[],1,[]⟩:dI)]).map dI.row=e.bM.map dI.row++[[.bool true,.str [],.aH 1 []]]:=jj;have mX:(e.kids++[qP 3]).map ai.row=e.kids.map ai.row++[(ai.mk 1 [] [] 3 1 [] 1 [] 1 [] 1 [] (al.mk [] 1 []) 0).cells]:=jj;refine N ?_;refine ch (λbr=>?_) (λbr=>?_)
 .refine N ?_;exact⟨⟨e.k e.kids (e.aj,e.an,e.aM,e.bs),rfl,.id _⟩,a,aC,rfl⟩
 have D:0<e.bM.length:=I
 (conv=>whnf)
 repeat(first|refine bV.mk ⟨mq e.bM λx=>rfl,I⟩ ?_|refine da ?_);(conv=>whnf)
 refine aW (dy aa aS a _ aC I I) ?_;rintro v A ⟨⟨k,rfl,qV⟩,bk,cY,rfl⟩;refine N ?_;refine aW (dy aa aS bk 4 cY af af) ?_;rintro v A ⟨⟨r,rfl,vC⟩,bu,cy,rfl⟩;have kb:k<e.bM.length:=I;have ag:=oF dI.row kb;have ap:=sE dI.row kb;have bq:(e.bM[k].names.map b6).length<100:=by rw[ex];exact(jZ _ (fQ kb)).2.1
 unfold dI.row at ag ap;refine N ?_;refine ch (λaP=>?_) (λaP=>?_)
 .refine N ?_;refine dU.mk _ (oF dI.row D) ?_;refine N ?_;refine bV.mk I ?_;refine N ?_;have qD:0<e.kids.length:=List.length_pos_iff.2 Vl;have ct:=oF ai.row qD;rw[ai.dN]at ct;by_cases F:e.bM.length=1
  .refine mK.zero rfl I ?_;refine N ?_;refine dU.mk _ ct ?_;refine N ?_;refine bV.mk (by show min _ _<_;omega) ?_;refine N ?_;refine mK.some (by show 0<min _ _;omega) (by show min _ _<=_;omega) ?_;refine N ?_;have qD:e.bM.take (e.bM.length - 1)=[]:=by rw[F];rfl
   refine⟨⟨_,?_,.F1 (e.aj,e.an,0,2090) a0 D⟩,bu,cy,rfl⟩;rw[qD,bs];show b9.agg [_,_,_,_,_,_,_,.aH 2090 (List.take (min (e.bM.map dI.row).length (e.kids.map ai.row).length - 0) (List.drop 0 (e.kids.map ai.row))),_,_,_]=_;rw[ab3];rfl
  .refine mK.some I I ?_;refine N ?_;refine dU.mk _ ct ?_;refine N ?_;refine bV.mk (by show min _ _<_;omega) ?_;refine N ?_;refine mK.some (by show 0<min _ _;omega) (by show min _ _<=_;omega) ?_;refine N ?_;have ar0:List.take ((e.bM.map dI.row).length - 1 - 0) (List.drop 0 (e.bM.map dI.row))=(e.bM.take (e.bM.length - 1)).map dI.row:=by rw[er,List.map_take];rfl
   refine⟨⟨_,?_,.F1 (e.aj,e.an,2210,2090) a0 D⟩,bu,cy,rfl⟩;rw[ar0,bs];show b9.agg [_,_,_,_,_,_,_,.aH 2090 (List.take (min (e.bM.map dI.row).length (e.kids.map ai.row).length - 0) (List.drop 0 (e.kids.map ai.row))),_,_,_]=_;rw[ab3];rfl
 have qD:0<e.kids.length:=List.length_pos_iff.2 Vl;have ct:=oF ai.row qD;rw[ai.dN]at ct;refine N ?_;refine ch (λaP=>?_) (λaP=>?_)
 .refine N ?_;refine bV.mk qV ?_;refine N ?_;refine kK.mk _ ap ?_;refine N ?_;refine eQ (eO (λF=>?_) (λF=>?_))
  .refine N ?_;exact⟨⟨e.k e.kids (e.aj,e.an,2211,e.bs),rfl,.id _⟩,bu,cy,rfl⟩
  .refine N ?_;refine aW (dy aa aS bu 3 cy af af) ?_;rintro v A ⟨⟨n,rfl,aD⟩,b1,dl,rfl⟩;have⟨s,ib,iv⟩:=si (l:=[[99,97],[99,98],[99,122]]) (n:=n) aD;refine N ?_;refine qm.mk rfl ?_;refine N ?_;refine bV.mk aD ?_;refine N ?_;refine kK.mk _ iv ?_;refine N ?_;refine bV.mk qV ?_;refine N ?_;refine bV.mk qV (dU.mk _ ag ?_);refine N ?_;exact⟨⟨_,by rw[show [b9.bool e.bM[k].ma,b9.str s,b9.aH e.bM[k].g (List.map b6 e.bM[k].names)]=dI.row {e.bM[k]with case:=s}from rfl,<-List.map_set];rfl,.Ku k s (e.aj,e.an,2211,e.bs) kb (nP ib rfl) a0 F⟩,b1,dl,rfl⟩
 refine N ?_;refine ch (λaP=>?_) (λaP=>?_)
 .refine N ?_;refine bV.mk qV ?_;refine N ?_;refine kK.mk _ ap ?_;refine N ?_;refine eQ (eO (λF=>?_) (λF=>?_))
  .refine N ?_;exact⟨⟨e.k e.kids (e.aj,e.an,2211,e.bs),rfl,.id _⟩,bu,cy,rfl⟩
  .refine N ?_;refine bV.mk qV ?_;refine N ?_;refine kK.mk _ ap ?_;refine N ?_;refine bV.mk ⟨mq _ λy=>rfl,I⟩ ?_;refine bV.mk (by show _*16<=_;omega) ?_;refine N ?_;refine qm.mk rfl ?_;refine N ?_;refine bV.mk (by show 1<=_;omega) ?_;refine bV.mk (by show(_+1)*16<=_;omega) ?_;refine N ?_;refine bV.mk qV ?_;refine N ?_;refine bV.mk qV (dU.mk _ ag ?_);refine N ?_;have aqq:dI.row {e.bM[k]with g:=2019,names:=e.bM[k].names++[[113]]}=[.bool e.bM[k].ma,.str e.bM[k].case,.aH 2019 (e.bM[k].names.map b6++[[.str [113]]])]:=by unfold dI.row;rw[jj];rfl
   refine⟨⟨_,?_,.I2 k 2019 (e.aj,e.an,2211,e.bs) kb a0 F⟩,bu,cy,rfl⟩;show b9.agg [_,_,_,_,_,_,.aH 2211 ((List.map dI.row e.bM).set k [.bool e.bM[k].ma,.str e.bM[k].case,.aH 2019 (e.bM[k].names.map b6++[[.str [113]]])]),_,_,_,_]=_;rw[<-aqq,<-List.map_set];rfl
 refine N ?_;refine ch (λaP=>?_) (λaP=>?_)
 .refine N ?_;refine bV.mk I ?_;refine N ?_;have ant:∀i,i=e.bM.length - 1->(e.bM.map dI.row)[i]?=some (dI.row (e.bM[e.bM.length - 1]' I)):=λi h=>by subst h;exact sE dI.row I
  refine kK.mk _ (ant _ I) ?_;refine N ?_;refine eQ (eO (λF=>?_) (λF=>?_))
  .refine N ?_;exact⟨⟨e.k e.kids (e.aj,e.an,2211,e.bs),rfl,.id _⟩,bu,cy,rfl⟩
  .refine N ?_;refine bV.mk ⟨rfl,by show 1<=_;omega⟩ ?_;refine bV.mk (by show(_+1)*48<=_;omega) ?_;refine N ?_;refine bn (AG aa 3) ?_;refine N ?_;refine bV.mk (by show 1<=_;omega) ?_;refine N ?_;refine(show wo [1045] e.bs 1045 11 192 1 (e.kids.map ai.row) _ _ from .ab7 bs (by rw[ct];rfl) rfl I ?_);refine qm.mk (oj ar (jA rfl)) ?_;have Ju:cf [1045] (.aH e.bs (e.kids.map ai.row))=true:=by rw[bs];exact Mu (by simpa using Vl)
   show ia [1045] _ _ _ _;refine i6 ⟨jA rfl,oj z1 (jA rfl),trivial⟩ ?_;simp(disch:=first|assumption|with_unfolding_all rfl) only[gg,hq,dF,iI,iV,i1,i2,i3,i0,iY,jn,ij,ro];show nr _ _ _ _ _ _;refine N ?_;exact⟨⟨_,by rw[<-mX,<-cB];rfl,.JM ⟨true,[],1,[]⟩ (e.aj,e.an,2211,2091) ⟨af,af,λ_ h=>by cases h⟩ a0⟩,bu,cy,rfl⟩
 omega
end
end Go.Tx
