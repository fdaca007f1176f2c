/- A part. -/
import Derived.Test.YtkjmpcfikenlbaaGreatDoorG4
set_option linter.all false
namespace Go.Tx
open Go Go.Ev
set_option maxRecDepth 100000
set_option maxHeartbeats 8000000
attribute [local irreducible] eo eA bU eE eJ eN cU eX
section
variable{C:Nat->cE}{ext:Nat->Option eS}{Q:e9}(aa:Env C ext Q)
include aa
variable{g:Nat}
attribute [local irreducible] cf eD h7
theorem akt(x)(M:iN x)(n9:pc 86 x.cp x.dn)(mC:pc 49 x.dj x.funcs)(aS:jW Q)(gd:g / 2=3)(a)(ec:bj)(t)(k)(au:GT k t)(hN)(G)(bI:hJ 132 hN G)(oz:∀x∈G,n3 x)(f:bj)(aD:x.dn.length<30)(kr:x.funcs.length<30):bU C [86,49] 61 [.bN 1000 0,.J (.str ec),.J (.agg t.cells),.J (.aH hN (G.map c3.row)),.J (.str f)] [(1000,jr x),(1001,dD g Q a)] λv A=>A=[(1000,jr {x with cp:=173,dn:=x.dn++[⟨ec,hN,G,t,294,[⟨[115,104,111,119],f⟩]⟩],dj:=99,funcs:=x.funcs++[⟨0,false,false,f,hN,G,268,[⟨[120],t,false,ai.nil⟩],al.mk [73,110,116] 1 [],true,ai.nil⟩]}),(1001,dD g Q a)]:=by
 refine aa.z 61 ff rfl rfl ?_;have h5:(x.dn.map em.row).length=x.dn.length:=bW;have io:(x.funcs.map cu.row).length=x.funcs.length:=bW;have f1:∀X,cj X [43,9,132]->eD X [.str ec,.aH hN (G.map c3.row),.str t.ay,.aH t.g (t.l.map al.row)]=false:=λX h=>by simp only[eD,lq,uc bI oz (h.sub af),au.cj (h.sub af),Bool.or_false]
 have f2:∀X,cn 147 X=false->cf X (.aH (2*147+false.toNat) [[.str [115,104,111,119],.str f]])=false:=λX h=>Y2 h (by simp only[eD,lq,Bool.or_false]);have f3:∀X,cj X [43,9,132,147]->eD X [.str ec,.aH hN (G.map c3.row),.str t.ay,.aH t.g (t.l.map al.row),.aH (2*147+false.toNat) [[.str [115,104,111,119],.str f]]]=false:=λX h=>O8 (f1 X (h.sub af)) (tV (f2 X (h 147 af)) BX);have f4:∀X,cj X [43]->eD X [.str [120],.str t.ay,.aH t.g (t.l.map al.row),.bool false,.int 3 0,.str [],.str [],.int 3 0,.aH 1 [],.aH 1 [],.aH 1 [],.aH 1 [],.str [],.aH 1 [],.int 3 0]=false:=λX h=>by simp only[eD,lq,nH,oB,Bb,au.cj h,Bool.or_false]
 have f5:∀X,cj X [43]->cf X (.agg t.cells)=false:=λX h=>B7 (Ga.cj h au);have rf:∀X,cj X [43,9,132,134]->eD X [.int 3 0,.bool false,.bool false,.str f,.aH hN (G.map c3.row),.aH (2*134+false.toNat) [[.str [120],.str t.ay,.aH t.g (t.l.map al.row),.bool false,.int 3 0,.str [],.str [],.int 3 0,.aH 1 [],.aH 1 [],.aH 1 [],.aH 1 [],.str [],.aH 1 [],.int 3 0]],.str [73,110,116],.aH 1 [],.bool true,.int 3 0,.str [],.str [],.int 3 0,.aH 1 [],.aH 1 [],.aH 1 [],.aH 1 [],.str [],.aH 1 [],.int 3 0]=false:=λX h=>by have D:cf X (.aH (2*134+false.toNat) [[.str [120],.str t.ay,.aH t.g (t.l.map al.row),.bool false,.int 3 0,.str [],.str [],.int 3 0,.aH 1 [],.aH 1 [],.aH 1 [],.aH 1 [],.str [],.aH 1 [],.int 3 0]])=false:=Y2 (h 134 af) (f4 X (h.sub af));simp only[eD,lq,nH,oB,Bb,D,uc bI oz (h.sub af),Bool.or_false]
 have bk:=aS.cj gd (X:=[86]) rfl;have bu:cf [86] (.aH hN (G.map c3.row))=false:=uc bI oz af;have b1:cf [86] (.aH t.g (t.l.map al.row))=false:=au.cj af;have cP:=M.nw (X:=[86]);have dO:=M.cK (X:=[86]) af;have eb:=M.tc (X:=[86]) af;have eY:=M.ka (X:=[86]) af;have mN:=M.kn (X:=[86]) af;have cD:=aS.cj gd (X:=[49]) rfl;have dp:cf [49] (.aH hN (G.map c3.row))=false:=uc bI oz af;have ga:cf [49] (.aH t.g (t.l.map al.row))=false:=au.cj af;have fX:=M.nw (X:=[49]);have hO:=M.cK (X:=[49]) af;have kd:=M.tc (X:=[49]) af;have nE:=M.ka (X:=[49]) af;have CK:=M.uZ (X:=[49]) af;refine bw ?_;refine r9 (n9.A λx=>rfl) af af (by simp only[List.length_cons,List.length_nil];omega) (λbO=>?_) (λbO=>?_);case' refine_1=>refine⟨oj (M.Mn af) (jA (f3 _ af)),?_⟩;show ia [86] _ _ _ _;refine i6 ⟨jA (f3 _ af),trivial⟩ ?_;simp only[List.map_cons,List.map_nil,dF,iI,iV,i1,i2,i3,i0,iY,ij,ro (n9.full bO),Bb,lq,bk,bu,b1,cP,dO,eb,eY,mN,f2 [86] rfl,f5 [86] af,lv]
 all_goals
  refine bw ?_
  refine hZ (ky aa _) ?_
  (conv=>whnf)
  refine⟨jA (f4 _ af),?_⟩
  refine bw ?_
  refine r9 (mC.A λx=>rfl) af af (by simp only[List.length_cons,List.length_nil];omega) (λcr=>?_) (λcr=>?_)
  case' refine_1=>refine⟨oj (M.i9 af) (jA (rf _ af)),?_⟩;show ia [49] _ _ _ _;refine i6 ⟨jA (rf _ af),by first|exact jA (f3 _ af)|exact oj (M.Mn af) (jA (f3 _ af)),jA (f3 _ af),trivial⟩ ?_;simp only[List.map_cons,List.map_nil,dF,iI,iV,i1,i2,i3,i0,iY,ij,ro (mC.full cr),Bb,lq,cD,dp,ga,fX,hO,kd,nE,CK,f5 [49] af,lv]
  all_goals
   refine bw ?_
   simp only[jr,cZ.cells,List.map_append]
   first|rfl|(rw[cr];rfl)|(rw[bO];rfl)|(rw[bO,cr];rfl)
end
section
variable{C:Nat->cE}{ext:Nat->Option eS}{Q:e9}(aa:Env C ext Q)
include aa
variable{g:Nat}
attribute [local irreducible] cf eD h7
abbrev Yc(x:cZ)(g:Nat)(Q:e9)(v:b9)(A:bf):Prop:=∃(y:cZ)(a:Nat),A=[(1000,jr y),(1001,dD g Q a)]/\a<=Q.length/\iO y/\vY x y/\y.dn.length<=x.dn.length+1/\y.funcs.length<=x.funcs.length+1
omit aa in
def ag8{f}{hN}{G}{t}{u:bj}(a1:f.length<=100)(bI:hJ 132 hN G)(v7:G.length<=1)(oz:∀x∈G,n3 x)(au:GT 5 t):mT ⟨0,false,false,f,hN,G,268,[⟨[120],t,false,ai.nil⟩],al.mk [73,110,116] 1 [],true,ai.nil⟩:=
 ⟨qG _,a1,v7,oz,bI,by show 1<=5;decide,λa aC=>by rw[ji.1 aC];exact⟨by show 1<=100;decide,au,q5.mono af⟩,.inr (af:268 / 2=134),GT.nil af af af,q5.mono af⟩
def Rh(x)(M:iO x)(aS:jW Q)(gd:g / 2=3)(a)(aC:a<=Q.length)(ec:bj)(DT:ec.length<=300)(t)(au:GT 5 t)(hN)(G)(bI:hJ 132 hN G)(v7:G.length<=1)(oz:∀x∈G,n3 x)(Io:G≠[]->(46:UInt8)∈t.ay)(f:bj)(a1:f.length<=100)(aD:x.dn.length<30)(kr:x.funcs.length<30):bU C [86,49] 61 [.bN 1000 0,.J (.str ec),.J (.agg t.cells),.J (.aH hN (G.map c3.row)),.J (.str f)] [(1000,jr x),(1001,dD g Q a)] (Yc x g Q):=by refine(akt aa x M.ck M.n9 M.mC aS gd a ec t 5 au hN G bI oz f aD kr).imp ?_;rintro v A rfl;refine⟨_,a,rfl,aC,(M.Is (s:=⟨ec,hN,G,t,294,[⟨[115,104,111,119],f⟩]⟩) ⟨DT,v7,oz,bI,au,Io,by show 1<=5;decide,λb aB=>by rw[ji.1 aB];exact⟨by show 4<=100;decide,a1⟩,.inr (af:294 / 2=147)⟩ aD).fn (ag8 (u:=[]) a1 bI v7 oz au) kr,⟨_,_,_,_,rfl⟩,by simp,by simp⟩
theorem adb(x)(M:iO x)(aS:jW Q)(gd:g / 2=3)(a)(aC:a<=Q.length)(ec:bj)(DT:ec.length<=300)(ay:bj)(l5:ay.length<=100)(MQ)(c7:List bj)(bq:c7.length<=1)(o4:∀s∈c7,s.length<=100/\(46:UInt8)∉s/\s≠[65,114,114,97,121])(f:bj)(a1:f.length<=100)(aD:x.dn.length<30)(kr:x.funcs.length<30):bU C [86,49] 62 [.bN 1000 0,.J (.str ec),.J (.str ay),.J (.aH MQ (c7.map b6)),.J (.str f)] [(1000,jr x),(1001,dD g Q a)] (Yc x g Q):=by
 refine aa.z 62 (vd [(0,⟨[7,8,12,13],[],[⟨false,6,0,900,132,2⟩,⟨true,10,1,901,43,2⟩],[10,900,901,1000,1001]⟩)]) rfl rfl ?_;have yi:=M.ck.ay;have er:(c7.map b6).length=c7.length:=bW
 (conv=>whnf)
 repeat refine da ?_;(conv=>whnf)
 refine hs b6 c7 11 (λ_ (_:List al×List c3×Nat)=>[(6,.bD 900)]) (λ_ b=>[(10,.box 43 2 (.bS [.J (.str (x.ay++[46]++ay)),.bD 901])),(900,.bF 132 2 (b.2.1.map c3.row) true),(901,.bF 43 2 (b.1.map al.row) true),(1000,jr x),(1001,dD g Q b.2.2)]) (λd b=>b.1.length=d.length/\(∀t∈b.1,GT 1 t)/\b.2.1.length=d.length/\(∀x∈b.2.1,n3 x)/\b.2.2<=Q.length) ⟨([],[],a),⟨rfl,(λ_ h=>by cases h),rfl,(λ_ h=>by cases h),aC⟩,by kernel_rfl⟩ (λd b z b3 ba aw ft ct a7 bt=>?_) (λb ba a7=>?_)
 .have⟨bX,CQ,bk⟩:=b;have⟨dR,du,gq,fN,kF⟩:=a7;simp only at dR du gq fN kF bt ⊢;have vu:d.length<c7.length:=I;have bC:(bX.map al.row).length=bX.length:=bW;have aX:(CQ.map c3.row).length=CQ.length:=bW;have cA:=o4 z (by simp[aw]);have be:=ft;have ag:=ct;unfold b6 at ag
  (conv=>whnf)
  repeat((first|refine .yes (dg.2 be) ?_|refine⟨be,⟨_,ag,?_⟩⟩|refine da ?_);(conv=>whnf))
  refine aW (ky aa _) ?_;rintro v A ⟨rfl,rfl⟩
  (conv=>whnf)
  repeat' ((first|(refine aW (dy aa aS _ 2 (by assumption) af af) ?_;rintro v A ⟨⟨r,rfl,ag⟩,bu,cy,rfl⟩)|refine da ?_|((with_reducible first|apply eh|apply jQ|apply ch|apply cQ|apply eQ|apply mr|apply mD|apply eO)<;>intros))<;>(conv=>whnf))
  .exact bt (bX++[.mk z 1 []],CQ++[⟨z,18,[ec]⟩],bu) _ _ ⟨by simp[dR],qf du (GT.nil I cA.2.2 af),by simp[gq],qf fN ⟨cA.1,cA.2.1,cA.2.2,by show 1<=10;decide,λs ap=>by rw[List.mem_singleton.1 ap];exact DT,.inr (af:18 / 2=9)⟩,cy⟩ (by rw[List.map_append,List.map_append,List.map_singleton,List.map_singleton,al.dN];kernel_rfl)
  .exact bt (bX++[.mk z 1 []],CQ++[⟨z,1,[]⟩],bu) _ _ ⟨by simp[dR],qf du (GT.nil I cA.2.2 af),by simp[gq],qf fN ⟨cA.1,cA.2.1,cA.2.2,by show 0<=10;decide,(λs ap=>by cases ap),.inl rfl⟩,cy⟩ (by rw[List.map_append,List.map_append,List.map_singleton,List.map_singleton,al.dN];kernel_rfl)
 .have⟨bX,CQ,bk⟩:=b;have⟨dR,du,gq,fN,kF⟩:=a7;simp only at dR du gq fN kF ⊢;have Io:(46:UInt8)∈x.ay++[46]++ay:=by simp
  have au:GT 5 (al.mk (x.ay++[46]++ay) 87 bX):=⟨by simp only[al.ay,List.length_append,List.length_cons,List.length_nil];omega,by show bX.length<=1;omega,.inr (af:87 / 2=43),λe=>by have e:x.ay++[46]++ay=[65,114,114,97,121]:=e;rw[e]at Io;exact absurd Io af,λt h=>(du t h).mono af⟩;refine dd ?_;refine aW (Rh aa x M aS gd bk kF ec DT (al.mk (x.ay++[46]++ay) 87 bX) au 265 CQ (.inr af) I fN (λ_=>Io) f a1 aD kr) ?_;rintro v A ⟨y,bu,rfl,cy,aE,gG,Y⟩;show ia [86,49] _ _ _ _;refine i6 trivial ?_;have f1:cf [86,49] (.aH (2*43+true.toNat) (bX.map al.row))=false:=kk (ak:=43) (.inr rfl) rfl λt au=>(du t au).zE af;have f2:cf [86,49] (.aH (2*132+true.toNat) (CQ.map c3.row))=false:=uc (.inr rfl) fN af;simp only[List.map_cons,List.map_nil,dF,iI,iV,i1,i2,i3,i0,iY,jn,nZ,m9,ij,Bb,lq,f1,f2];refine N ?_;exact⟨y,bu,rfl,cy,aE,gG,Y⟩
end
section
variable{C:Nat->cE}{ext:Nat->Option eS}{Q:e9}(aa:Env C ext Q)
include aa
variable{g:Nat}
attribute [local irreducible] cf eD h7
theorem aio(x)(M:iO x)(aS:jW Q)(gd:g / 2=3)(n)(aD:x.funcs.length+n+1<=30)(a)(aC:a<=Q.length):bU C [49] 20 [.bN 1000 0,.J (.int 3 n)] [(1000,jr x),(1001,dD g Q a)] λv A=>∃(y:cZ)(a:Nat),A=[(1000,jr y),(1001,dD g Q a)]/\a<=Q.length/\iO y/\A7 x y/\y.funcs.length<=x.funcs.length+n+1/\x.funcs.length+n<=y.funcs.length:=by
 refine aa.z 20 (vd [(0,⟨[3,4,5,6,7,8,9,10,11,12,13,14,15,16,17,18,19,20],[189],[],[1000,1001]⟩),(2,⟨[5,6,14,15,16,17,18,19],[],[⟨true,6,1,900,9,1⟩],[5,6,900,1000,1001]⟩),(4,⟨[6,18,19],[],[⟨true,6,1,900,9,1⟩],[5,6,8,900,1000,1001]⟩),(6,⟨[20],[147],[⟨true,5,5,901,134,15⟩],[5,901,1000,1001]⟩)]) rfl rfl ?_;refine N ?_;refine qU (α:=Nat×cZ×Nat) (λb=>[(2,.J (.int 3 b.1))]) (λb=>[(1000,jr b.2.1),(1001,dD g Q b.2.2)]) (λb=>n - b.1) (λb=>b.1<=n/\iO b.2.1/\A7 x b.2.1/\b.2.1.funcs.length=x.funcs.length+b.1/\b.2.2<=Q.length) ⟨(0,x,a),⟨Nat.zero_le _,M,⟨_,_,rfl⟩,rfl,aC⟩,by kernel_rfl⟩ (λb ba a7 bt=>?_);obtain⟨i,y,bk⟩:=b;obtain⟨dR,aE,gG,gq,fN⟩:=a7;simp only at dR aE gG gq fN bt ⊢;have yi:=aE.ck.ay;have atM:=aE.ck.rel;refine bw ?_;refine eh (λaN=>?_) (λaN=>?_)
 .refine bw ?_;refine aW (xX aa [102] i af I) ?_;rintro v A ⟨rfl,la,rfl,AS,kR⟩;refine bw ?_;refine ch (λqV=>?_) (λqV=>?_);case' refine_1=>
   have nv:=aE.m0 qV;refine bw ?_;refine aW (dy aa aS _ _ fN af af) ?_;rintro v A ⟨⟨r,rfl,ag⟩,bu,cy,rfl⟩;refine N ?_;generalize Nat.blt r 4=dr;cases dr;case' false=>
    (conv=>whnf)
    repeat(first|refine .no rfl ?_|refine bZ ?_);(conv=>whnf)
    obtain⟨jb,xA,ib⟩:∃s:Nat,s=0/\s<=1000:=⟨_,rfl,I⟩;obtain⟨n0,GR⟩:∃b:Bool,b=false:=⟨_,rfl⟩;obtain⟨eB,Fa⟩:∃b:Bool,b=false:=⟨_,rfl⟩
   case' true=>
    (conv=>whnf)
    repeat(first|refine .yes rfl ?_|(refine aW (dy aa aS bu 3 cy af af) ?_;rintro v A ⟨⟨b3,rfl,ct⟩,b1,dl,rfl⟩)|refine bZ ?_);(conv=>whnf)
    refine N ?_;generalize Nat.beq b3 0=inl;refine aW (wQ aa aS b1 5 dl af af) ?_;rintro v A ⟨⟨dk,rfl⟩,dO,np,rfl⟩;cases dk;case' false=>
     (conv=>whnf)
     repeat(first|refine .no rfl ?_|refine bZ ?_);(conv=>whnf)
     obtain⟨jb,xA,ib⟩:∃s:Nat,s=0/\s<=1000:=⟨_,rfl,I⟩;obtain⟨n0,GR⟩:∃b:Bool,b=true:=⟨_,rfl⟩;obtain⟨eB,Fa⟩:∃b:Bool,b=inl:=⟨_,rfl⟩
    case' true=>
     (conv=>whnf)
     repeat(first|refine .yes rfl ?_|(refine aW (dy aa aS dO y.rel np nv I) ?_;rintro v A ⟨⟨iQ,rfl,iv⟩,eb,qS,rfl⟩)|refine bZ ?_);(conv=>whnf)
     obtain⟨jb,xA,ib⟩:∃s:Nat,s=1+iQ/\s<=1000:=⟨_,rfl,I⟩;obtain⟨n0,GR⟩:∃b:Bool,b=true:=⟨_,rfl⟩;obtain⟨eB,Fa⟩:∃b:Bool,b=inl:=⟨_,rfl⟩
  case' refine_2=>refine N ?_;obtain⟨jb,xA,ib⟩:∃s:Nat,s=0/\s<=1000:=⟨_,rfl,I⟩;obtain⟨n0,GR⟩:∃b:Bool,b=false:=⟨_,rfl⟩;obtain⟨eB,Fa⟩:∃b:Bool,b=false:=⟨_,rfl⟩
  all_goals
   refine aW (wQ aa aS _ 3 (by assumption) af af) ?_
   rintro v A ⟨⟨asg,rfl⟩,eY,s0,rfl⟩
   cases asg
   case' true=>
    (conv=>whnf)
    repeat(first|refine .yes rfl ?_|refine bZ ?_);(conv=>whnf)
    refine aW (Tv aa y 1 [] _) ?_;rintro v A ⟨rfl,iD,rfl,A4⟩
    (conv=>whnf)
    repeat(first|refine bV.mk (MW (X:=[60,64]) A4 af (aE.ck.cj af)) ?_|refine bZ ?_);(conv=>whnf)
    refine hs cZ.cells [y] 13 (λ_ (_:List bj×Nat)=>[]) (λ_ b=>[(5,.box 49 20 (.bS [.J (.int 3 jb),.J (.bool n0),.J (.bool eB),.J (.str ([102]++[la])),.bx,.bx,.J (.str []),.bx,.J (.bool true),.J (.int 3 0),.J (.str []),.J (.str []),.J (.int 3 0),.bx,.bx,.bx,.bx,.J (.str []),.bx,.J (.int 3 0)])),(6,.box 132 2 (.bS [.J (.str [84]),.bD 900])),(900,.bF 9 1 (b.1.map b6) true),(1000,jr y),(1001,dD g Q b.2)]) (λd b=>b.1.length<=1/\(∀s∈b.1,s.length<=300)/\b.2<=Q.length) ⟨([],eY),⟨Nat.zero_le _,(λ_ h=>by cases h),s0⟩,by subst xA GR Fa;kernel_rfl⟩ (λd b w ZK gl aw ft JO dq fj=>?_) (λb gl dq=>?_)
    .obtain⟨bX,mN⟩:=b;obtain⟨t1,j5,rW⟩:=dq;simp only at t1 j5 rW fj ⊢;obtain⟨rfl,rfl⟩:d=[]/\w=y:=by
      cases d with
      |nil=>simp at aw;exact⟨rfl,aw.1.symm⟩|cons a l=>simp at aw
     have fp:(w.e2.map eG.row).length=w.e2.length:=bW;have j3:=aE.ck.c9;have be:=ft;have ag:fT [w.cells] 0=w.cells:=rfl
     (conv=>whnf)
     repeat((first|refine .nice ⟨by decide,by show 1<9223372036854775808;decide⟩ ?_|refine .yes rfl ?_|refine⟨be,⟨_,ag,?_⟩⟩|refine bZ ?_);(conv=>whnf))
     refine hs eG.row w.e2 17 (λ_ (_:List bj×Nat)=>[]) (λ_ b=>[(5,.box 49 20 (.bS [.J (.int 3 jb),.J (.bool n0),.J (.bool eB),.J (.str ([102]++[la])),.bx,.bx,.J (.str []),.bx,.J (.bool true),.J (.int 3 0),.J (.str []),.J (.str []),.J (.int 3 0),.bx,.bx,.bx,.bx,.J (.str []),.bx,.J (.int 3 0)])),(6,.box 132 2 (.bS [.J (.str [84]),.bD 900])),(8,.box 34 9 (.cb w.cells)),(900,.bF 9 1 (b.1.map b6) true),(1000,jr w),(1001,dD g Q b.2)]) (λd b=>b.1.length<=1/\(∀s∈b.1,s.length<=300)/\b.2<=Q.length) ⟨(bX,mN),⟨t1,j5,rW⟩,by kernel_rfl⟩ (λd4 fX ec my wR Dv ym qx n8 qC=>?_) (λfX wR n8=>?_)
     .obtain⟨ww,gZ⟩:=fX;obtain⟨rv,vl,wN⟩:=n8;simp only at rv vl wN qC ⊢;have auW:d4.length<w.e2.length:=I;have DT:=aE.ck.el ec (by simp[Dv]);have asF:=DT.ay;have bC:(ww.map b6).length=ww.length:=bW;have be:=ym;have ag:=qx;unfold eG.row at ag
      (conv=>whnf)
      repeat((first|refine cQ (λ_=>?_) (λh=>absurd rfl h)|refine .yes (dg.2 be) ?_|refine⟨be,⟨_,ag,?_⟩⟩|refine da ?_);(conv=>whnf))
      (conv=>whnf)
      repeat' ((first|refine bZ ?_|((with_reducible first|apply eh|apply jQ|apply ch|apply cQ|apply eQ|apply mr|apply mD|apply eO)<;>intros))<;>(conv=>whnf))
      all_goals first
      |refine aW (dy aa aS gZ 2 wN af af) ?_
      |exact qC (ww,gZ) _ _ ⟨rv,vl,wN⟩ (by kernel_rfl)
      all_goals
       rintro v A ⟨⟨asj,rfl,atC⟩,pM,Jd,rfl⟩
       (conv=>whnf)
       repeat refine bZ ?_;(conv=>whnf)
       refine ch (λa0=>?_) (λa0=>?_)
       ·(conv=>whnf)
        repeat(refine da ?_;conv=>whnf)
        exact qC (ww++[w.ay++[46]++ec.ay],pM) _ _ ⟨by simp only[List.length_append,List.length_singleton];omega,qf vl y5,Jd⟩ (by rw[List.map_append];kernel_rfl)
       ·(conv=>whnf)
        repeat refine bZ ?_;(conv=>whnf)
        exact qC (ww,pM) _ _ ⟨rv,vl,Jd⟩ (by kernel_rfl)
     .obtain⟨ww,gZ⟩:=fX;obtain⟨rv,vl,wN⟩:=n8;simp only at rv vl wN ⊢
      (conv=>whnf)
      repeat(first|refine .nice af ?_|refine .no (pe _) ?_|refine bZ ?_);(conv=>whnf)
      exact fj (ww,gZ) _ _ ⟨rv,vl,wN⟩ (by kernel_rfl)
    .obtain⟨bX,mN⟩:=b;obtain⟨t1,j5,rW⟩:=dq;simp only at t1 j5 rW ⊢
     (conv=>whnf)
     repeat((first|refine .nice ⟨by show 1<9223372036854775808;decide,by show 1<9223372036854775808;decide⟩ ?_|refine .no rfl ?_|refine da ?_);(conv=>whnf))
     have zf:∀x∈([⟨[84],19,bX⟩]:List c3),n3 x:=λx h=>by rw[List.mem_singleton.1 h];exact⟨by show 1<=100;decide,(af:(46:UInt8)∉[84]),(af:([84]:bj)≠[65,114,114,97,121]),by show bX.length<=10;omega,j5,.inr (af:19 / 2=9)⟩
     have y8:hJ 132 265 ([⟨[84],19,bX⟩]:List c3):=.inr af;have Fq:([⟨[84],19,bX⟩]:List c3).length<=1:=by show 1<=1;decide
     refine aW (dy aa aS mN 4 rW af af) ?_;rintro v A ⟨⟨r,rfl,ag⟩,gZ,jp,rfl⟩;refine bw ?_;refine qU (α:=Nat×List cG×Nat) (λb=>[(7,.J (.int 3 b.1))]) (λb=>[(5,.box 49 20 (.bS [.J (.int 3 jb),.J (.bool n0),.J (.bool eB),.J (.str ([102]++[la])),.J (.aH 265 [[.str [84],.aH 19 (bX.map b6)]]),.bD 901,.J (.str []),.bx,.J (.bool true),.J (.int 3 0),.J (.str []),.J (.str []),.J (.int 3 0),.bx,.bx,.bx,.bx,.J (.str []),.bx,.J (.int 3 0)])),(901,.bF 134 15 (b.2.1.map cG.row) true),(1000,jr y),(1001,dD g Q b.2.2)]) (λb=>b.1) (λb=>b.2.1.length+b.1<=3/\(∀t∈b.2.1,rS t)/\b.2.2<=Q.length) ⟨(r,[],gZ),⟨by show 0+r<=3;omega,(λ_ h=>by cases h),jp⟩,by subst xA GR Fa;kernel_rfl⟩ (λga zK ng qe=>?_);obtain⟨j,jI,pM⟩:=ga;obtain⟨cH,cq,c9⟩:=ng;simp only at cH cq c9 qe ⊢;have aX:(jI.map cG.row).length=jI.length:=bW;refine bw ?_;refine eh (λbl=>?_) (λbl=>?_)
     .refine bw ?_;refine aW (xX aa [120] (jI.map cG.row).length af I) ?_;rintro v A ⟨rfl,rG,rfl,Bh,Pf⟩;refine bw ?_;refine aW (BI aa aS y aE.ck 1 [] af n0 265 [⟨[84],19,bX⟩] I zf _ c9) ?_;rintro v A ⟨⟨oE,yM,rfl⟩,t,rfl,au⟩;refine bw ?_;exact qe (j - 1,jI++[⟨[120]++[rG],t,false,ai.nil⟩],oE) _ _ (by show j - 1<j;omega) ⟨by simp only[List.length_append,List.length_singleton];omega,qf cq ⟨by show 1+1<=100;decide,au.mono af,q5.mono af⟩,yM⟩ (by rw[List.map_append];kernel_rfl)
     .refine bw ?_;refine aW (BI aa aS y aE.ck 1 [] af n0 265 [⟨[84],19,bX⟩] I zf _ c9) ?_;rintro v A ⟨⟨oE,yM,rfl⟩,t,rfl,au⟩;have io:(y.funcs.map cu.row).length=y.funcs.length:=bW;have aj:mT ⟨jb,n0,eB,[102]++[la],265,[⟨[84],19,bX⟩],269,jI,t,true,ai.nil⟩:=⟨ib,by show 1+1<=100;decide,Fq,zf,y8,by show jI.length<=5;omega,cq,.inr (af:269 / 2=134),au.mono af,q5.mono af⟩;have u7:eD [49] (cu.row ⟨jb,n0,eB,[102]++[la],265,[⟨[84],19,bX⟩],269,jI,t,true,ai.nil⟩)=false:=aj.cj af;refine bw ?_;refine r9 (aE.mC.A λx=>rfl) af af (by simp only[List.length_cons,List.length_nil];omega) (λcr=>?_) (λcr=>?_);case' refine_1=>refine⟨oj (aE.ck.i9 af) (jA u7),?_⟩;show ia [49] _ _ _ _;refine i6 ⟨jA u7,trivial⟩ ?_;have cD:=aS.cj gd (X:=[49]) rfl;have fX:=aE.ck.nw (X:=[49]);have hO:=aE.ck.cK (X:=[49]) af;have kd:=aE.ck.tc (X:=[49]) af;have nE:=aE.ck.ka (X:=[49]) af;have CK:=aE.ck.uZ (X:=[49]) af;have f2:cf [49] (.aH (2*134+true.toNat) (jI.map cG.row))=false:=kk (.inr rfl) rfl λf a1=>(cq f a1).cj af;have f3:cf [49] (.aH 265 (([⟨[84],19,bX⟩]:List c3).map c3.row))=false:=uc y8 zf af;have f4:cf [49] (.aH t.g (t.l.map al.row))=false:=au.cj af;have f5:cf [49] (.agg t.cells)=false:=B7 (Ga.cj af au);simp(disch:=first|assumption|with_unfolding_all rfl) only[List.map_cons,List.map_nil,dF,iI,iV,i1,i2,i3,i0,iY,jn,nZ,m9,pL,ij,lv,ro (aE.mC.full cr)]
      all_goals
       refine bw ?_
       exact bt (i+1,_,oE) _ _ (by show n - (i+1)<n - i;omega) ⟨aN,aE.fn aj I,gG.fn,by rw[List.length_append];show y.funcs.length+1=x.funcs.length+(i+1);omega,yM⟩ (by simp only[jr,cZ.cells,List.map_append];first|(rw[cr];kernel_rfl)|kernel_rfl)
   case' false=>
    (conv=>whnf)
    repeat(first|refine .no rfl ?_|refine bZ ?_);(conv=>whnf)
    have zf:∀x∈([]:List c3),n3 x:=λ_ h=>by cases h
    have y8:hJ 132 1 ([]:List c3):=.inl rfl;have Fq:([]:List c3).length<=1:=af;refine aW (dy aa aS eY 4 s0 af af) ?_;rintro v A ⟨⟨r,rfl,ag⟩,gZ,jp,rfl⟩;refine bw ?_;refine qU (α:=Nat×List cG×Nat) (λb=>[(7,.J (.int 3 b.1))]) (λb=>[(5,.box 49 20 (.bS [.J (.int 3 jb),.J (.bool n0),.J (.bool eB),.J (.str ([102]++[la])),.bx,.bD 901,.J (.str []),.bx,.J (.bool true),.J (.int 3 0),.J (.str []),.J (.str []),.J (.int 3 0),.bx,.bx,.bx,.bx,.J (.str []),.bx,.J (.int 3 0)])),(901,.bF 134 15 (b.2.1.map cG.row) true),(1000,jr y),(1001,dD g Q b.2.2)]) (λb=>b.1) (λb=>b.2.1.length+b.1<=3/\(∀t∈b.2.1,rS t)/\b.2.2<=Q.length) ⟨(r,[],gZ),⟨by show 0+r<=3;omega,(λ_ h=>by cases h),jp⟩,by subst xA GR Fa;kernel_rfl⟩ (λga zK ng qe=>?_);obtain⟨j,jI,pM⟩:=ga;obtain⟨cH,cq,c9⟩:=ng;simp only at cH cq c9 qe ⊢;have aX:(jI.map cG.row).length=jI.length:=bW;refine bw ?_;refine eh (λbl=>?_) (λbl=>?_)
    .refine bw ?_;refine aW (xX aa [120] (jI.map cG.row).length af I) ?_;rintro v A ⟨rfl,rG,rfl,Bh,Pf⟩;refine bw ?_;refine aW (BI aa aS y aE.ck 1 [] af n0 1 [] I zf _ c9) ?_;rintro v A ⟨⟨oE,yM,rfl⟩,t,rfl,au⟩;refine bw ?_;exact qe (j - 1,jI++[⟨[120]++[rG],t,false,ai.nil⟩],oE) _ _ (by show j - 1<j;omega) ⟨by simp only[List.length_append,List.length_singleton];omega,qf cq ⟨by show 1+1<=100;decide,au.mono af,q5.mono af⟩,yM⟩ (by rw[List.map_append];kernel_rfl)
    .refine bw ?_;refine aW (BI aa aS y aE.ck 1 [] af n0 1 [] I zf _ c9) ?_;rintro v A ⟨⟨oE,yM,rfl⟩,t,rfl,au⟩;have io:(y.funcs.map cu.row).length=y.funcs.length:=bW;have aj:mT ⟨jb,n0,eB,[102]++[la],1,[],269,jI,t,true,ai.nil⟩:=⟨ib,by show 1+1<=100;decide,Fq,zf,y8,by show jI.length<=5;omega,cq,.inr (af:269 / 2=134),au.mono af,q5.mono af⟩;have u7:eD [49] (cu.row ⟨jb,n0,eB,[102]++[la],1,[],269,jI,t,true,ai.nil⟩)=false:=aj.cj af;refine bw ?_;refine r9 (aE.mC.A λx=>rfl) af af (by simp only[List.length_cons,List.length_nil];omega) (λcr=>?_) (λcr=>?_);case' refine_1=>refine⟨oj (aE.ck.i9 af) (jA u7),?_⟩;show ia [49] _ _ _ _;refine i6 ⟨jA u7,trivial⟩ ?_;have cD:=aS.cj gd (X:=[49]) rfl;have fX:=aE.ck.nw (X:=[49]);have hO:=aE.ck.cK (X:=[49]) af;have kd:=aE.ck.tc (X:=[49]) af;have nE:=aE.ck.ka (X:=[49]) af;have CK:=aE.ck.uZ (X:=[49]) af;have f2:cf [49] (.aH (2*134+true.toNat) (jI.map cG.row))=false:=kk (.inr rfl) rfl λf a1=>(cq f a1).cj af;have f3:cf [49] (.aH 1 (([]:List c3).map c3.row))=false:=uc y8 zf af;have f4:cf [49] (.aH t.g (t.l.map al.row))=false:=au.cj af;have f5:cf [49] (.agg t.cells)=false:=B7 (Ga.cj af au);simp(disch:=first|assumption|with_unfolding_all rfl) only[List.map_cons,List.map_nil,dF,iI,iV,i1,i2,i3,i0,iY,jn,nZ,m9,pL,ij,lv,ro (aE.mC.full cr)]
     all_goals
      refine bw ?_
      exact bt (i+1,_,oE) _ _ (by show n - (i+1)<n - i;omega) ⟨aN,aE.fn aj I,gG.fn,by rw[List.length_append];show y.funcs.length+1=x.funcs.length+(i+1);omega,yM⟩ (by simp only[jr,cZ.cells,List.map_append];first|(rw[cr];kernel_rfl)|kernel_rfl)
 .refine bw ?_;refine ch (λkb=>?_) (λkb=>?_)
  .refine bw ?_;refine aW (BI aa aS y aE.ck 1 [] af false 1 [] af (λ_ h=>by cases h) bk fN) ?_;rintro v A ⟨⟨oE,yM,rfl⟩,t,rfl,au⟩;have io:(y.funcs.map cu.row).length=y.funcs.length:=bW;have aj:mT ⟨0,false,false,[109,97,105,110],1,[],1,[],t,true,ai.nil⟩:=⟨Nat.zero_le _,by show 4<=100;decide,Nat.zero_le _,(λ_ h=>by cases h),.inl rfl,Nat.zero_le _,(λ_ h=>by cases h),.inl rfl,au.mono af,q5.mono af⟩;have u7:eD [49] (cu.row ⟨0,false,false,[109,97,105,110],1,[],1,[],t,true,ai.nil⟩)=false:=aj.cj af;refine bw ?_;refine r9 (aE.mC.A λx=>rfl) af af (by simp only[List.length_cons,List.length_nil];omega) (λcr=>?_) (λcr=>?_);case' refine_1=>refine⟨oj (aE.ck.i9 af) (jA u7),?_⟩;show ia [49] _ _ _ _;refine i6 ⟨jA u7,trivial⟩ ?_;have cD:=aS.cj gd (X:=[49]) rfl;have fX:=aE.ck.nw (X:=[49]);have hO:=aE.ck.cK (X:=[49]) af;have kd:=aE.ck.tc (X:=[49]) af;have nE:=aE.ck.ka (X:=[49]) af;have CK:=aE.ck.uZ (X:=[49]) af;have f4:cf [49] (.aH t.g (t.l.map al.row))=false:=au.cj af;have f5:cf [49] (.agg t.cells)=false:=B7 (Ga.cj af au);simp(disch:=first|assumption|with_unfolding_all rfl) only[List.map_cons,List.map_nil,dF,iI,iV,i1,i2,i3,i0,iY,jn,nZ,m9,pL,ij,lv,ro (aE.mC.full cr)]
   all_goals
    refine bw ?_
    refine⟨_,oE,?_,yM,aE.fn aj I,gG.fn,by rw[List.length_append];show y.funcs.length+1<=x.funcs.length+n+1;omega,by rw[List.length_append];show x.funcs.length+n<=y.funcs.length+1;omega⟩
    simp only[jr,cZ.cells,List.map_append]
    first|(rw[cr];kernel_rfl)|kernel_rfl
  .refine bw ?_;exact⟨y,bk,rfl,fN,aE,gG,I,I⟩
end
def uV(r:di)(aR:Nat)(c:di):di:=r.take aR++(c++r.drop (aR+c.length))
section
variable(ak aR:Nat)(c:di)
mutual
def ix:b9->b9->Prop
 |.aH g Q,a6=>∃gw,a6=.aH g gw/\mU (g / 2) Q gw|.hy g aJ B,a6=>∃dC,hg aJ dC/\(a6=.hy g dC B\/(g / 4=ak/\a6=.hy g (uV dC aR c) B))|.fn f b5 cV,a6=>∃iT AM,a6=.fn f iT AM/\hg b5 iT/\hg cV AM|.agg l,a6=>∃aK,a6=.agg aK/\hg l aK|.gy l,a6=>∃aK,a6=.gy aK/\hg l aK|t,a6=>a6=t
def hg:di->di->Prop
 |[],l=>l=[]|t::bX,l=>∃a6 aK,l=a6::aK/\ix t a6/\hg bX aK
def mU(e:Nat):g4->g4->Prop
 |[],l=>l=[]|r::ax,l=>∃dC aK,hg r dC/\(l=dC::aK\/(e=ak/\l=uV dC aR c::aK))/\mU e ax aK
end
def Ir:a2->a2->Prop
 |.J t,b7=>∃a6,b7=.J a6/\ix ak aR c t a6|e,b7=>b7=e
def qr:bK->bK->Prop
 |[],l=>l=[]|e::es,l=>∃b7 aK,l=b7::aK/\Ir ak aR c e b7/\qr es aK
def IP:bf->bf->Prop
 |(s,.box e z (.bS r))::l,cq=>∃eH aK,cq=(s,.box e z (.bS eH))::aK/\qr ak aR c r eH/\IP l aK|(s,.box e z (.cb r))::l,cq=>∃eH aK,cq=(s,.box e z (.cb eH))::aK/\hg ak aR c r eH/\IP l aK|(s,.bF e z r u)::l,cq=>∃aK,cq=(s,.bF e z r u)::aK/\IP l aK|[],cq=>cq=[]
end
def boxes:bf->Bool
 |(_,.box _ _ _)::l=>boxes l|(_,.bF _ _ _ _)::_=>false|[]=>true
section
variable{ak aR:Nat}{c:di}
def hg.len:∀{l aK},hg ak aR c l aK->aK.length=l.length
 |[],_,h=>by simp_all[hg]
 |_::_,_,h=>by obtain⟨a6,aK,rfl,_,h⟩:=h;simp[hg.len h]
mutual
def ix.refl:∀t:b9,ix ak aR c t t
 |.undef|.bool _|.int _ _|.str _|.nil _|.op _ _=>by simp only[ix]
 |.aH g Q=>by simp_all[ix,mU.refl]
 |.hy g aJ B=>by exact⟨aJ,hg.refl aJ,.inl rfl⟩
 |.fn _ b5 cV=>by exact⟨b5,cV,rfl,hg.refl b5,hg.refl cV⟩
 |.agg l=>by simp_all[ix,hg.refl]
 |.gy l=>by simp_all[ix,hg.refl]
def hg.refl:∀l:di,hg ak aR c l l
 |[]=>by simp[hg]
 |t::l=>by exact⟨t,l,rfl,ix.refl t,hg.refl l⟩
def mU.refl(e:Nat):∀l:g4,mU ak aR c e l l
 |[]=>by simp[mU]
 |r::l=>by exact⟨r,l,hg.refl r,.inl rfl,mU.refl e l⟩
end
mutual
def ix.no:∀{t a6:b9},cf [ak] t=false->ix ak aR c t a6->a6=t
 |.undef,_,_,h|.bool _,_,_,h|.int _ _,_,_,h|.str _,_,_,h|.nil _,_,_,h|.op _ _,_,_,h=>by simpa only[ix]using h
 |.aH g Q,a6,M,h=>by
  obtain⟨gw,rfl,h⟩:=h;cases Q with
  |nil=>rw[h]
  |cons r l=>have⟨fc,gv⟩:=sX M;rw[mU.no (λe=>by simp_all[cn]) gv h]
 |.hy g aJ B,a6,M,h=>by
  simp only[cf]at M;have⟨fc,gv⟩:=sX M;simp only[ix]at h;have⟨dC,D,F⟩:=h;rw[hg.no gv D]at F;rcases F with F|⟨F,_⟩
  .grind
  simp_all[cn]
 |.fn _ b5 cV,a6,M,h=>by have⟨fc,gv⟩:=sX M;obtain⟨iT,AM,rfl,D,F⟩:=h;rw[hg.no fc D,hg.no gv F]
 |.agg l,a6,M,h=>by obtain⟨aK,rfl,h⟩:=h;rw[hg.no M h]
 |.gy l,a6,M,h=>by obtain⟨aK,rfl,h⟩:=h;rw[hg.no M h]
def hg.no:∀{l aK:di},eD [ak] l=false->hg ak aR c l aK->aK=l
 |[],_,_,h=>by simpa only[hg]using h
 |t::l,_,M,h=>by have⟨fc,gv⟩:=sX M;obtain⟨a6,aK,rfl,D,F⟩:=h;rw[ix.no fc D,hg.no gv F]
def mU.no{e}(aw:e≠ak):∀{l aK:g4},h7 [ak] l=false->mU ak aR c e l aK->aK=l
 |[],_,_,h=>by simpa only[mU]using h
 |r::l,_,M,h=>by
  simp only[h7]at M;have⟨fc,gv⟩:=sX M;simp only[mU]at h;have⟨dC,aK,D,F,aq⟩:=h;rw[hg.no fc D]at F;rcases F with rfl|⟨F,_⟩
  .rw[mU.no aw gv aq]
  simp_all
end
def aaE{r}(h:aR+c.length<=r.length):(uV r aR c).length=r.length:=by unfold uV;grind
variable{U bm:ek}{a fC n z:Nat}{ax:Ev.Rows}{u ee:Bool}{jM:cx}
structure tf(ak aR:Nat)(c:di)(U bm:ek)(a fC n z:Nat)(ax:Ev.Rows)(u ee:Bool)(jM:cx):Prop where
 YN:U a=some (.cells ax n z ak u ee)
 is:bm=λb=>if b=a then some (.cells (ax.nl fC ((ax.row fC).take aR++(jM++(ax.row fC).drop (aR+jM.length)))) n z ak u ee)else U b
 lt:fC<n
 cap:n<=ax.cap
 len:aR+c.length<=z
 ec:c5 bm c jM
def tf.ne{b}(h:tf ak aR c U bm a fC n z ax u ee jM)(aB:b≠a):bm b=U b:=by rw[h.is];simp_all
def tf.eq(h:tf ak aR c U bm a fC n z ax u ee jM):bm a=some (.cells (ax.nl fC ((ax.row fC).take aR++(jM++(ax.row fC).drop (aR+jM.length)))) n z ak u ee):=by rw[h.is];simp_all
def tf.row{j dC}(h:tf ak aR c U bm a fC n z ax u ee jM)(bl:j<n)(ag:c5 bm dC (ax.row j)):c5 bm dC ((ax.nl fC ((ax.row fC).take aR++(jM++(ax.row fC).drop (aR+jM.length)))).row j)\/c5 bm (uV dC aR c) ((ax.nl fC ((ax.row fC).take aR++(jM++(ax.row fC).drop (aR+jM.length)))).row j):=by
 have:=h.lt;have:=h.cap;rw[Rows.DJ _ _ _ _ I I];by_cases e:j=fC
 .rw[ev e];subst e;refine .inr ((ag.take aR).append (h.ec.append ?_));rw[h.ec.length];exact ag.drop _
 simp_all
mutual
def bR.wr(h:tf ak aR c U bm a fC n z ax u ee jM):∀(t:b9)(v:bp),bR U t v->∃a6,ix ak aR c t a6/\bR bm a6 v
 |.undef,v,g=>⟨.undef,by simp only[ix],by simp only[bR]⟩
 |.bool b,v,g=>⟨.bool b,by simp only[ix],by simp only[bR]at g ⊢;exact g⟩
 |.int k b,v,g=>⟨.int k b,by simp only[ix],by simp only[bR]at g ⊢;exact g⟩
 |.str b,v,g=>⟨.str b,by simp only[ix],by simp only[bR]at g ⊢;exact g⟩
 |.nil b,v,g=>⟨.nil b,by simp only[ix],by simp only[bR]at g ⊢;exact g⟩
 |.op b fF,v,g=>⟨.op b fF,by simp only[ix],by simp only[bR]at g ⊢;exact g⟩
 |.aH g Q,v,hN=>by
  simp only[bR]at hN;rcases hN with⟨rfl,AI⟩|⟨b,i,jq,rv,gV,qs,c4,TH,fY,SZ,aj,an,aM,bs,dj,cp,ip,ms⟩
  .exact⟨.aH g [],by simp only[ix];exact⟨[],rfl,by simp only[mU]⟩,by simp only[bR];exact .inl ⟨trivial,AI⟩⟩
  .by_cases e:a=b
   .subst e;rw[h.YN]at an;cases an;have⟨gw,ef,fO,j3⟩:=TF h z ax (ax.nl fC ((ax.row fC).take aR++(jM++(ax.row fC).drop (aR+jM.length)))) (g / 2) i Q (λj dC dR du Y ag=>by
     rcases h.row (I:j<n) ag with q|q
     .exact .inl q
     .exact .inr ⟨ip.symm,by rw[aaE (by rw[Y];exact h.len),Y],q⟩) cp
    refine⟨.aH g gw,by simp only[ix];exact⟨gw,rfl,ef⟩,?_⟩;simp only[bR];refine .inr ⟨a,i,jq,rv,z,_,n,ak,u,ee,by rw[fO];exact aj,h.eq,by rw[fO];exact aM,by rw[Rows.vr];exact bs,by rw[fO];exact dj,j3,ip,λq=>?_⟩;have⟨bC,aX⟩:=ms q;refine⟨λe=>bC ?_,by rw[fO];exact aX⟩;rw[e]at fO;exact List.eq_nil_of_length_eq_zero fO.symm
   .have⟨gw,ef,fO,j3⟩:=TF h gV qs qs (g / 2) i Q (λj dC dR du Y ag=>.inl ag) cp;refine⟨.aH g gw,by simp only[ix];exact⟨gw,rfl,ef⟩,?_⟩;simp only[bR];refine .inr ⟨b,i,jq,rv,gV,qs,c4,TH,fY,SZ,by rw[fO];exact aj,by rw[h.ne (λq=>e q.symm)];exact an,by rw[fO];exact aM,bs,by rw[fO];exact dj,j3,ip,λq=>?_⟩;have⟨bC,aX⟩:=ms q;refine⟨λe=>bC ?_,by rw[fO];exact aX⟩;rw[e]at fO;exact List.eq_nil_of_length_eq_zero fO.symm
 |.hy g aJ B,v,hN=>by
  simp only[bR]at hN;have⟨b,r,gV,qs,c4,TH,rv,SZ,aj,an,aM,bs,cp,dj,ip,ms⟩:=hN;have⟨dC,ef,fO⟩:=c5.wr h aJ _ dj;have Y:=ef.len;by_cases e:a=b
  .subst e;rw[h.YN]at an;cases an;rcases h.row aM fO with q|q
   .refine⟨.hy g dC B,by simp only[ix];exact⟨dC,ef,.inl rfl⟩,?_⟩;simp only[bR];exact⟨a,r,z,_,n,ak,u,ee,aj,h.eq,aM,by rw[Rows.vr];exact bs,by rw[Y];exact cp,q,ip,ms⟩
   .refine⟨.hy g (uV dC aR c) B,by simp only[ix];exact⟨dC,ef,.inr ⟨ip.symm,rfl⟩⟩,?_⟩;simp only[bR];exact⟨a,r,z,_,n,ak,u,ee,aj,h.eq,aM,by rw[Rows.vr];exact bs,by rw[aaE (by rw[Y,cp];exact h.len),Y];exact cp,q,ip,ms⟩
  .refine⟨.hy g dC B,by simp only[ix];exact⟨dC,ef,.inl rfl⟩,?_⟩;simp only[bR];exact⟨b,r,gV,qs,c4,TH,rv,SZ,aj,by rw[h.ne (λq=>e q.symm)];exact an,aM,bs,by rw[Y];exact cp,fO,ip,ms⟩
 |.fn f b5 cV,v,g=>by simp only[bR]at g;have⟨dw,cQ,aj,an,aM⟩:=g;have⟨iT,ef,fO⟩:=c5.wr h b5 _ an;have⟨AM,j3,lz⟩:=c5.wr h cV _ aM;exact⟨.fn f iT AM,by simp only[ix];exact⟨iT,AM,rfl,ef,j3⟩,by simp only[bR];exact⟨dw,cQ,aj,fO,lz⟩⟩
 |.agg l,v,g=>by simp only[bR]at g;have⟨aK,aj,an⟩:=g;have⟨iT,ef,fO⟩:=c5.wr h l _ an;exact⟨.agg iT,by simp only[ix];exact⟨iT,rfl,ef⟩,by simp only[bR];exact⟨aK,by rw[ef.len];exact aj,fO⟩⟩
 |.gy l,v,g=>by simp only[bR]at g;have⟨aK,aj,an⟩:=g;have⟨iT,ef,fO⟩:=c5.wr h l _ an;exact⟨.gy iT,by simp only[ix];exact⟨iT,rfl,ef⟩,by simp only[bR];exact⟨aK,aj,fO⟩⟩
def c5.wr(h:tf ak aR c U bm a fC n z ax u ee jM):∀(t:di)(v:cx),c5 U t v->∃a6,hg ak aR c t a6/\c5 bm a6 v
 |[],_,g=>⟨[],by simp only[hg],by simpa only[c5]using g⟩
 |t::bX,_,g=>by simp only[c5]at g;obtain⟨v,aK,rfl,an,aM⟩:=g;have⟨a6,ef,fO⟩:=bR.wr h t _ an;have⟨nI,j3,lz⟩:=c5.wr h bX _ aM;exact⟨a6::nI,by simp only[hg];grind,.cons fO lz⟩
def TF(h:tf ak aR c U bm a fC n z ax u ee jM)(gV:Nat)(qs yY:Ev.Rows)(e:Nat):∀(i:Nat)(Q:g4),(∀j dC,i<=j->j<i+Q.length->dC.length=gV->c5 bm dC (qs.row j)->c5 bm dC (yY.row j)\/(e=ak/\(uV dC aR c).length=gV/\c5 bm (uV dC aR c) (yY.row j)))->gY U gV qs i Q->∃gw,mU ak aR c e Q gw/\gw.length=Q.length/\gY bm gV yY i gw
 |i,[],_,_=>⟨[],by simp[mU],rfl,by simp[gY]⟩
 |i,r::Q,bo,g=>by
  have⟨aj,an,aM⟩:=g;have⟨dC,ef,fO⟩:=c5.wr h r _ an;have⟨gw,j3,lz,n9⟩:=TF h gV qs yY e (i+1) Q (λj dC dR du Y ag=>bo j dC I (by grind) Y ag) aM;have Y:dC.length=gV:=ef.len.trans aj;rcases bo i dC (fI _) (by simp) Y fO with q|⟨bC,aX,b4⟩
  .exact⟨dC::gw,by exact⟨dC,gw,ef,.inl rfl,j3⟩,by grind,by simp_all[gY]⟩
  .exact⟨uV dC aR c::gw,by exact⟨dC,gw,ef,.inr ⟨bC,rfl⟩,j3⟩,by grind,by simp_all[gY]⟩
end
end
section
variable{ak aR:Nat}{c:di}{U bm:ek}{a fC n z:Nat}{ax:Ev.Rows}{u ee:Bool}{jM:cx}{Z:Nat->Nat}{A:bf}
def dE.wr(h:tf ak aR c U bm a fC n z ax u ee jM):∀(e)(v),dE U Z A e v->∃b7,Ir ak aR c e b7/\dE bm Z A b7 v
 |.J t,v,g=>by have⟨a6,ef,fO⟩:=bR.wr h t v g;exact⟨.J a6,⟨a6,rfl,ef⟩,fO⟩
 |.bx,v,g=>⟨.bx,rfl,g⟩|.i4,v,g=>⟨.i4,rfl,g⟩|.bN s B,v,g=>⟨.bN s B,rfl,g⟩|.bD s,v,g=>⟨.bD s,rfl,g⟩|.fU s r B,v,g=>⟨.fU s r B,rfl,g⟩|.agg _,_,g=>g.elim|.fn _ _ _,_,g=>g.elim
def gc.wr(h:tf ak aR c U bm a fC n z ax u ee jM):∀(l)(v),gc U Z A l v->∃aK,qr ak aR c l aK/\gc bm Z A aK v
 |[],v,g=>⟨[],rfl,g⟩
 |e::l,_,g=>by obtain⟨v,g3,rfl,aj,an⟩:=g;have⟨b7,ef,fO⟩:=dE.wr h e v aj;have⟨aK,j3,lz⟩:=gc.wr h l g3 an;exact⟨b7::aK,⟨b7,aK,rfl,ef,j3⟩,v,g3,rfl,fO,lz⟩
def Ir.refl(e):Ir ak aR c e e:=by
 cases e with
 |J t=>exact⟨t,rfl,ix.refl t⟩|_=>rfl
def qr.refl:∀l,qr ak aR c l l
 |[]=>rfl|e::l=>⟨e,l,rfl,Ir.refl e,qr.refl l⟩
def qr.len:∀{l aK},qr ak aR c l aK->aK.length=l.length
 |[],_,h=>by cases h;rfl
 |_::_,_,h=>by obtain⟨b7,aK,rfl,_,h⟩:=h;simp[qr.len h]
def aae(h:tf ak aR c U bm a fC n z ax u ee jM)(zv:Nat->cx):∀ej,boxes ej->∃kL,IP ak aR c ej kL/\∀s bH,look kL s=some bH->∃b7 cJ aJ gj,look ej s=some (.box b7 cJ aJ)/\bH=.box b7 cJ gj/\(nG U Z A cJ aJ (zv s)->nG bm Z A cJ gj (zv s))
 |[],_=>⟨[],rfl,λs bH h=>by cases h⟩
 |(t,.bF _ _ _ _)::l,aB=>by cases aB
 |(t,.box aP gV aJ)::l,aB=>by
  have⟨kL,ef,fO⟩:=aae h zv l aB;have jh:∀gj,(nG U Z A gV aJ (zv t)->nG bm Z A gV gj (zv t))->∀s bH,look ((t,fB.box aP gV gj)::kL) s=some bH->∃b7 cJ mf ab1,look ((t,fB.box aP gV aJ)::l) s=some (.box b7 cJ mf)/\bH=.box b7 cJ ab1/\(nG U Z A cJ mf (zv s)->nG bm Z A cJ ab1 (zv s)):=by
   intro gj ag s bH Y;simp only[look]at Y ⊢;cases q:Nat.beq t s with
   |true=>rw[q]at Y;cases Y;have:=dA.1 q;grind
   |false=>simp_all
  cases aJ with
  |cb r=>
   by_cases q:c5 U r (zv t)
   .have⟨eH,j3,lz⟩:=c5.wr h r _ q;exact⟨_,⟨eH,kL,rfl,j3,ef⟩,jh _ λg=>⟨j3.len.trans g.1,lz⟩⟩
   .exact⟨_,⟨r,kL,rfl,hg.refl r,ef⟩,jh _ λg=>absurd g.2 q⟩
  |bS r=>
   by_cases q:gc U Z A r (zv t)
   .have⟨eH,j3,lz⟩:=gc.wr h r _ q;exact⟨_,⟨eH,kL,rfl,j3,ef⟩,jh _ λg=>⟨j3.len.trans g.1,lz⟩⟩
   .exact⟨_,⟨r,kL,rfl,qr.refl r,ef⟩,jh _ λg=>absurd g.2 q⟩
end
variable{n:Nat}
def SK(h:0<n):fq [n]=[n]:=by cases n with|zero=>omega|succ n=>rfl
def ajK{s B}(h:0<n):hr [n] s B=false:=by cases B with|bF=>rfl|box=>(cases n with|zero=>omega|succ n=>rfl)
def RO{P m g v c aR ej bX b8 aJ}{t}(ap:fy P t=some (m+1))(bI:g % 2=1)(Fm:0<g / 4)(aQ:(v=.agg c/\c.length=m+1)\/(c=[v]/\m=0/\oN v))(M:eD [g / 4] c=false)(JV:aR+(m+1)<=aJ.length)(ed:m+1≠aJ.length)(aB:boxes ej)(I8:∀nI kL,hg (g / 4) aR c bX nI->IP (g / 4) aR c ej kL->b8 nI kL):Gg P t (.hy g aJ aR) v bX ej b8:=by
 intro U Z H lg l4 xw a4 bq aI DC;obtain⟨a,r,z,ax,n,ak,u,ee,rfl,hF,oa,uR,H0,aj7,aq3,kt,atP⟩:=bq;have amO:=kt bI;subst amO;subst aq3;have⟨f1,f2⟩:=a4.e6 _ _ hF;have pi:c.length=m+1:=by
  grind
 obtain⟨jM,en,gI⟩:∃jM,(∀k,kD l4 (m+1) k=k jM)/\c5 U c jM:=by
  rcases aQ with⟨rfl,h⟩|⟨rfl,rfl,h⟩
  .obtain⟨aK,rfl,an⟩:=aI;exact⟨aK,λk=>by simp_all[AN],an⟩
  .refine⟨[l4],λk=>?_,.cons aI .nil⟩;unfold kD;rw[GY h aI];rfl
 have apD:=gI.length;obtain⟨bm,abn⟩:∃bm:ek,bm=λb=>if b=a then some (.cells (ax.nl r ((ax.row r).take aR++(jM++(ax.row r).drop (aR+jM.length)))) n z (g / 4) u false)else U b:=⟨_,rfl⟩
 have hle:U.jz [g / 4] bm:=λb B aV M=>by
  rw[abn];by_cases e:b=a
  .rw[e,hF]at aV;cases aV;simp_all[mQ,cn]
  simp_all
 have W:tf (g / 4) aR c U bm a r n z ax u false jM:=⟨hF,abn,oa,uR,I,c5.jz hle c jM M gI⟩;have nv:(ax.row r).length=z:=aj7.length.trans H0;have ah6:∀s B,look ej s=some B->B.real=true->Z s≠a:=λs B Y ag e=>by have:=(a4.lt s B Y ag).2;simp_all
 have⟨kL,t1,j5⟩:=aae (Z:=Z) (A:=ej) W (λs=>match H.get (Z s)with|.cells ax _ _ _ _ _=>ax.row 0|_=>[]) ej aB;have⟨nI,gx,s2⟩:=c5.wr W bX xw DC;have TL:Shape ej kL:=⟨λs b7 cJ aJ h=>by
  grind,λs b7 cJ Q u h=>by
  grind⟩
 refine⟨nI,kL,H.put a (.cells (ax.nl r ((ax.row r).take aR++(jM++(ax.row r).drop (aR+jM.length)))) n z (FQ u (g / 4)) u false),bm,Z,I8 _ _ gx t1,λk=>?_,⟨λb B aV=>?_,λs B Y ag=>?_,λs dx B bH Y iJ ag f7 e=>?_,λs B Y=>?_⟩,⟨λb B aV M=>hle b B aV (by rw[<-SK Fm];exact M),fI _,λb UC xA aqE=>bg.sh gp gp λe=>?_,λb B aV=>?_,λs B Y ag=>?_⟩,λ_ _ _=>rfl,s2⟩
 .rw[show jM.length=m+1 from apD.trans pi];exact RZ ap rfl f1 oa uR en I nv I k
 .by_cases e:b=a
  .subst e;rw[W.eq]at aV;cases aV;exact⟨bg.IZ gp,f2⟩
  .rw[W.ne e]at aV;have⟨bC,aX⟩:=a4.e6 b B aV;simp_all[bg.sh]
 .have⟨a3,gA,b3,NF,bC,aX,_⟩:=j5 s _ Y;have:=a4.lt s _ bC rfl;exact⟨this.1,by grind⟩
 .have⟨a3,gA,b3,NF,bC,aX,_⟩:=j5 s _ Y;have⟨cW,yj,iQ,asA,dc,eC,_⟩:=j5 dx _ iJ;exact a4.inj s dx _ _ bC dc rfl rfl e
 .obtain⟨a3,gA,b3,NF,bC,rfl,b4⟩:=j5 s _ Y;have⟨yY,cL,dP,fW,gi⟩:=a4.obj s _ bC;rw[cL]at b4;have b4:=b4 gi;refine⟨yY,by rw[bg.sh gp gp (ah6 s _ bC rfl),cL],dP,fW,?_⟩;cases NF with
  |cb l=>exact b4|bS l=>exact⟨b4.1,TL.qo b4.2⟩
 .have:=aqE _ (by rw[e];omega);have this:cn (g / 4) (fq [g / 4])=false:=this;simp_all[SK,cn]
 .by_cases e:b=a
  .exact .inr (.inr (.inr ⟨_,by rw[e];omega,by show cn (g / 4) (fq [g / 4])=true;simp_all[SK,cn]⟩))
  simp_all
 .have⟨a3,gA,b3,NF,bC,aX,_⟩:=j5 s _ Y;exact .inr ⟨s,_,bC,rfl,rfl,λh=>absurd h (by show ¬hr [g / 4] s _=true;rw[ajK Fm];grind)⟩
end Go.Tx
