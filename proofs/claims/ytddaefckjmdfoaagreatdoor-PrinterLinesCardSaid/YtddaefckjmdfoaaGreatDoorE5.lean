/- Part of the proof of PrinterLines. -/
import Derived.Test.YtddaefckjmdfoaaGreatDoorE4
set_option linter.all false
namespace Go.Ev
open Go
section
variable{P:Program}
def Rows.iJ(am:Rows):ql->Nat->Rows
 |[],_=>am
 |r::l,i=>(am.mT i r).iJ l (i+1)
def sR:∀(l:ql)(am)(i)(k),uB l am i k=k (am.iJ l i)
 |[],_,_,_=>rfl
 |r::l,am,i,k=>by rw[amY,BJ];exact sR l _ (i+1) k
def Rows.tH:∀(l)(am:Rows)(i),(am.iJ l i).cap=am.cap
 |[],_,_=>rfl
 |r::l,am,i=>by show((am.mT i r).iJ l (i+1)).cap=_;rw[Rows.tH l _ (i+1),Rows.wf]
def Rows.Gk:∀(l)(am:Rows)(i M),i+l.length<=am.cap->M<am.cap->(am.iJ l i).row M=if i<=M/\M<i+l.length then l.getD (M - i) [] else am.row M
 |[],am,i,M,h,bb=>by rw[bA (λq=>by have:=q.2;simp at this;omega)];rfl
 |r::l,am,i,M,h,bb=>by
  show((am.mT i r).iJ l (i+1)).row M=_;simp only[nD] at h ⊢;rw[Rows.Gk l _ (i+1) M (by rw[Rows.wf];omega) (by rw[Rows.wf];exact bb),Rows.F5 _ _ _ _ Y bb];by_cases B:M=i
  .subst B;rw[bA Y,b3 rfl,b3 Y];simp
  .by_cases F:i+1<=M/\M<i+1+l.length
   .rw[b3 F,b3 Y];have:M - i=(M - (i+1))+1:=Y;rw[this];rfl
   .rw[bA F,bA B,bA Y]
def kW(aa:cE)(z:Nat):ql->uQ->Prop
 |[],L=>L=[]
 |r::l,L=>∃X fX,L=X::fX/\cK aa r X/\r.length=z/\(∀x∈r,x.lw=true)/\kW aa z l fX
variable{c:Array Value}{k:Ev.Rows->Bool}{n z:Nat}{am:Ev.Rows}{aa:cE}
def kW.mono{bD}(h:aa.le bD):∀{l}{L},kW aa z l L->kW bD z l L
 |[],_,r=>r
 |_::_,_,⟨X,fX,e,B,F,ah,aE⟩=>⟨X,fX,e,cK.mono h _ _ B,F,ah,aE.mono h⟩
def kW.length:∀{l}{L},kW aa z l L->L.length=l.length
 |[],_,r=>by cases r;rfl
 |_::_,_,⟨X,fX,e,_,_,_,aE⟩=>by subst e;simp [aE.length]
def kW.append:∀{l aM}{L fX},kW aa z l L->kW aa z aM fX->kW aa z (l++aM) (L++fX)
 |[],_,_,_,r,gC=>by cases r;exact gC
 |_::_,_,_,_,⟨X,fX,e,B,F,ah,aE⟩,gC=>by subst e;exact⟨X,_,rfl,B,F,ah,aE.append gC⟩
def kW.yL:∀{l}{L},kW aa z l L->L.flatten.length=l.length*z
 |[],_,r=>by cases r;simp
 |_::l,_,⟨X,fX,e,B,F,ah,aE⟩=>by subst e;simp only[wK,gP,nD,aE.yL,B.length,F,lE];omega
def kW.Az:∀{l}{L},kW aa z l L->∀v∈L.flatten,v.oneCell'
 |[],_,r,v,au=>by cases r;simp at au
 |_::l,_,⟨X,fX,e,B,F,ah,aE⟩,v,au=>by
  subst e;rw[wK] at au;rcases jD.1 au with h|h
  .exact B.Az ah v h
  .exact aE.Az v h
def kW.get:∀{l}{L}{i},kW aa z l L->i<l.length->∃X,cK aa (l.getD i []) X/\(l.getD i []).length=z/\(∀x∈l.getD i [],x.lw)/\∀M,M<z->L.flatten[i*z+M]?=X[M]?
 |[],_,_,_,h=>by simp at h
 |r::l,_,0,⟨X,fX,e,B,F,ah,aE⟩,h=>by subst e;refine⟨X,B,F,ah,λM bb=>?_⟩;simp only[Aw,jq,wK];rw[uX (by rw[B.length,F];exact bb)]
 |r::l,_,i+1,⟨X,fX,e,B,F,ah,aE⟩,h=>by subst e;have⟨er,g1,g2,g3,g4⟩:=aE.get (i:=i) (by simpa using h);refine⟨er,g1,g2,g3,λM bb=>?_⟩;simp only[wK];rw[wb (by rw[B.length,F,lE];omega),<-g4 M bb,B.length,F];congr 1;rw[lE];omega
def kA.iJ{l L cx i fo}(h:kA aa am n z c)(K:kW aa z l L)(lK:cx<=am.cap)(aH:i+l.length<=cx)(aB:∀r,r<cx->r<n\/(i<=r/\r<i+l.length))(ajb:∀k,k<l.length*z->fo[i*z+k]?=L.flatten[k]?)(akl:∀r M,r<n->M<z->(r<i\/i+l.length<=r)->fo[r*z+M]?=c[r*z+M]?):kA aa (am.iJ l i) cx z fo:=by
 intro r ad;rw[Rows.Gk _ _ _ _ Y Y];by_cases e:i<=r/\r<i+l.length
 .rw[b3 e];have⟨X,B,F,ah,aE⟩:=K.get (i:=r - i) Y;refine⟨X,B,F,ah,λM bb=>?_⟩;rw[<-aE M bb];have aV:(r - i)*z+M<l.length*z:=Fa bb Y;have ax:=ajb ((r - i)*z+M) aV;have ar:i*z+((r - i)*z+M)=r*z+M:=by rw[<-tI,<-lE];congr 2;omega
  rw[ar] at ax;exact ax
 .rw[bA e];rcases aB r ad with fN|fN
  .have⟨X,B,F,ah,aE⟩:=h r fN;exact⟨X,B,F,ah,λM bb=>by rw[akl r M fN bb Y];exact aE M bb⟩
  .exact absurd fN e
def kA.none:kA aa am 0 z c:=λi aH=>Y
def Oj(h:AE n=some am):n<=am.cap:=by
 unfold AE at h;split at h
 .rename_i q;cases h;exact dn.1 q
 .split at h
  .rename_i q;cases h;exact dn.1 q
  .split at h
   .rename_i q;cases h;exact dn.1 q
   .split at h
    .rename_i q;cases h;exact dn.1 q
    .cases h;exact ez _
def aae(h:yv n k):∃am,n<=am.cap/\k am:=by
 unfold yv at h;split at h
 .rename_i am rE;exact⟨am,Oj rE,h⟩
 .exact bS h
def aqi(aB:n<=512)(h:yv n k):∃am,n<=am.cap/\am.cap<=512/\k am:=by
 unfold yv at h;split at h
 .rename_i am rE;refine⟨am,Oj rE,?_,h⟩;unfold AE at rE;split at rE
  .cases rE;simp [Rows.cap]
  .split at rE
   .cases rE;simp [Rows.cap]
   .split at rE
    .cases rE;simp [Rows.cap]
    .split at rE
     .cases rE;simp [Rows.cap]
     .cases rE;exact aB
 .exact bS h
def Mu{a b:Nat}(q:Nat.ble a b=false):b<a:=by
 have:¬a<=b:=λhle=>by rw[dn.2 hle] at q;cases q
 omega
def ZM(i)(t:cS cv):(n0 i).g1 t=(Rows.dc t).row i:=oN _ _
def V4(i)(t:cS (cS cv)):(n0 i).g2 t=(Rows.cl t).row i:=by change(bQ (dG (i % 8))).s ((bQ (dG (i / 8 % 8))).s t)=_;rw[oN,oN];rfl
def aed(i)(t:cS (cS (cS cv))):(n0 i).g3 t=(Rows.hD t).row i:=by change(bQ (dG (i % 8))).s ((bQ (dG (i / 8 % 8))).s ((bQ (dG (i / 64 % 8))).s t))=_;rw[oN,oN,oN];rfl
def X2(h:grow am n k):∃oQ,k oQ/\n<=oQ.cap/\am.cap<=oQ.cap/\∀i,i<am.cap->oQ.row i=am.row i:=by
 unfold grow at h;cases am with
 |fG r=>
  change a7 (Nat.ble n 1) (k (.fG r)) (a7 (Nat.ble n 8) (k (.dc ⟨r,[],[],[],[],[],[],[]⟩)) (a7 (Nat.ble n 64) (k (.cl ⟨⟨r,[],[],[],[],[],[],[]⟩,aZ,aZ,aZ,aZ,aZ,aZ,aZ⟩))
   (a7 (Nat.ble n 512) (k (.hD ⟨⟨⟨r,[],[],[],[],[],[],[]⟩,aZ,aZ,aZ,aZ,aZ,aZ,aZ⟩,aN,aN,aN,aN,aN,aN,aN⟩)) (k (.j3 (λ_=>r) n)))))=true at h
  have one:∀i,i<(Rows.fG r).cap->i=0:=λi aH=>by simp [Rows.cap] at aH;exact aH
  rcases ic h with⟨q,h⟩|⟨_,h⟩
  .exact⟨_,h,dn.1 q,ez _,λ_ _=>rfl⟩
  .rcases ic h with⟨q,h⟩|⟨_,h⟩
   .exact⟨_,h,dn.1 q,by simp [Rows.cap],λi aH=>by rw[one i aH];rfl⟩
   .rcases ic h with⟨q,h⟩|⟨_,h⟩
    .exact⟨_,h,dn.1 q,by simp [Rows.cap],λi aH=>by rw[one i aH];rfl⟩
    .rcases ic h with⟨q,h⟩|⟨q,h⟩
     .exact⟨_,h,dn.1 q,by simp [Rows.cap],λi aH=>by rw[one i aH];rfl⟩
     .exact⟨_,h,ez _,by have:=Mu q;simp only[Rows.cap];omega,λi aH=>rfl⟩
 |dc t=>
  change a7 (Nat.ble n 8) (k (.dc t)) (a7 (Nat.ble n 64) (k (.cl ⟨t,aZ,aZ,aZ,aZ,aZ,aZ,aZ⟩))
   (a7 (Nat.ble n 512) (k (.hD ⟨⟨t,aZ,aZ,aZ,aZ,aZ,aZ,aZ⟩,aN,aN,aN,aN,aN,aN,aN⟩)) (k (.j3 (λi=>(n0 i).g1 t) n))))=true at h
  have I0:∀i,i<(Rows.dc t).cap->i / 8 % 8=0/\i / 64 % 8=0:=λi aH=>by simp [Rows.cap] at aH;omega
  rcases ic h with⟨q,h⟩|⟨_,h⟩
  .exact⟨_,h,dn.1 q,ez _,λ_ _=>rfl⟩
  .rcases ic h with⟨q,h⟩|⟨_,h⟩
   .exact⟨_,h,dn.1 q,by simp [Rows.cap],λi aH=>by simp only[Rows.row,(I0 i aH).1];rfl⟩
   .rcases ic h with⟨q,h⟩|⟨q,h⟩
    .exact⟨_,h,dn.1 q,by simp [Rows.cap],λi aH=>by simp only[Rows.row,(I0 i aH).1,(I0 i aH).2];rfl⟩
    .exact⟨_,h,ez _,by have:=Mu q;simp only[Rows.cap];omega,λi aH=>ZM i t⟩
 |cl t=>
  change a7 (Nat.ble n 64) (k (.cl t)) (a7 (Nat.ble n 512) (k (.hD ⟨t,aN,aN,aN,aN,aN,aN,aN⟩)) (k (.j3 (λi=>(n0 i).g2 t) n)))=true at h;have I0:∀i,i<(Rows.cl t).cap->i / 64 % 8=0:=λi aH=>by simp [Rows.cap] at aH;omega
  rcases ic h with⟨q,h⟩|⟨_,h⟩
  .exact⟨_,h,dn.1 q,ez _,λ_ _=>rfl⟩
  .rcases ic h with⟨q,h⟩|⟨q,h⟩
   .exact⟨_,h,dn.1 q,by simp [Rows.cap],λi aH=>by simp only[Rows.row,I0 i aH];rfl⟩
   .exact⟨_,h,ez _,by have:=Mu q;simp only[Rows.cap];omega,λi aH=>V4 i t⟩
 |hD t=>
  change a7 (Nat.ble n 512) (k (.hD t)) (k (.j3 (λi=>(n0 i).g3 t) n))=true at h;rcases ic h with⟨q,h⟩|⟨q,h⟩
  .exact⟨_,h,dn.1 q,ez _,λ_ _=>rfl⟩
  .exact⟨_,h,ez _,by have:=Mu q;simp only[Rows.cap];omega,λi aH=>aed i t⟩
 |j3 g c=>
  change a7 (Nat.ble n c) (k (.j3 g c)) (k (.j3 g n))=true at h;rcases ic h with⟨q,h⟩|⟨q,h⟩
  .exact⟨_,h,dn.1 q,ez _,λ_ _=>rfl⟩
  .refine⟨_,h,ez _,?_,λ_ _=>rfl⟩;have:¬n<=c:=λhle=>by rw[dn.2 hle] at q;cases q
   simp only[Rows.cap];omega
def Rows.range(am:Rows):Nat->Nat->ql
 |0,_=>[]
 |m+1,i=>am.row i::am.range m (i+1)
def Tq:∀{m}{am}{i}{k:ql->Bool},ya am m i k->k (am.range m i)
 |0,_,_,_,h=>h
 |m+1,am,i,k,h=>by rw[aew] at h;have B:=SO h;exact Tq (k:=λl=>k (am.row i::l)) B
def Rows.Dz(am:Rows):∀(m i),(am.range m i).length=m
 |0,_=>rfl
 |m+1,i=>by simp [Rows.range,Rows.Dz am m]
def kA.range(h:kA aa am n z c):∀(m i),i+m<=n->∃L,kW aa z (am.range m i) L/\∀k,k<m*z->c[i*z+k]?=L.flatten[k]?
 |0,i,_=>⟨[],rfl,λk az=>Y⟩
 |m+1,i,aH=>by
  have⟨X,B,F,ah,aE⟩:=h i Y;have⟨L,g1,g2⟩:=h.range m (i+1) Y;refine⟨X::L,⟨X,L,rfl,B,F,ah,g1⟩,λk az=>?_⟩;have ch:X.length=z:=by rw[B.length,F]
  simp only[wK];by_cases bO:k<z
  .rw[uX Y];exact aE k bO
  .rw[wb Y,ch,<-g2 (k - z) (by rw[lE] at az;omega)];congr 1;rw[lE];omega
end
section
variable{P:Program}
def CU(aa:cE)(bH:gB)(obj:Obj)(ca:Nat)(gb:Nat->bl)(p2:Nat->Value):Prop:=
 ∀(bD:cE)(w:World)(b B2:Nat),aa.le bD->bD B2=some (b,ca)->w.heap[b]?=some obj->ng bD w B2 bH/\bk bD (gb B2) (p2 b)
def Ps{aa:cE}{H:bd}{w a8:World}(R:Rel aa H w)(aB:eR H.next){b ca:Nat}{bH:gB}(gL:w.heap.size<=a8.heap.size)(av:w.heap.size<=b\/¬kI aa H b)(az:∀k,k<w.heap.size->kI aa H k->a8.heap[k]?=w.heap[k]?)(ay:ng (aa.set H.next (b,ca)) a8 H.next bH):Rel (aa.set H.next (b,ca)) {(H.put H.next bH) with next:=H.next+1} a8:=by
 have rH:aa H.next=none:=by
  cases h:aa H.next with
  |none=>rfl
  |some x=>exact absurd (R.pH _ _ h) (EK _)
 have hle:=cE.CC (b,ca) rH;have v6:∀a,eR a->({(H.put H.next bH) with next:=H.next+1}:bd).get a=if a=H.next then bH else H.get a:=λa aD=>bd.nG H H.next a bH aB aD
 have kK:∀a dA fs,eR a->a≠H.next->(H.get a).live=true->(aa.set H.next (b,ca)) a=some (dA,fs)->dA<w.heap.size/\kI aa H dA:=by intro a dA fs aD dB K ad;rw[cE.rf _ _ dB] at ad;have⟨cw,sT,B,F⟩:=(R.obj a aD).block K;rw[ad] at B;cases B;exact⟨F,a,aD,K,fs,ad⟩
 refine⟨eN,?_,?_,?_⟩
 .intro a x I;show a<H.next+1;by_cases e:a=H.next
  .omega
  .rw[cE.rf _ _ e] at I;have:=R.pH a x I;omega
 .intro a aD;rw[v6 a aD];by_cases e:a=H.next
  .rw[b3 e,e];exact ay
  .rw[bA e];refine(R.obj a aD).mono hle λdA fs K ad=>az dA ?_ ?_
   .exact R.Oo ⟨a,aD,K,fs,ad⟩
   .exact⟨a,aD,K,fs,ad⟩
 .intro bN a2 B F df cH dA sT sM dc cl;rw[v6 bN B] at df;rw[v6 a2 F] at cH;by_cases aZ:bN=H.next<;>by_cases aN:a2=H.next
  .rw[aZ,aN]
  .rw[bA aN] at cH;have:=kK a2 dA sM F aN cH cl;rw[aZ,cE.Df] at dc;cases dc;rcases av with av|av
   .omega
   .exact absurd this.2 av
  .rw[bA aZ] at df;have:=kK bN dA sT B aZ df dc;rw[aN,cE.Df] at cl;cases cl;rcases av with av|av
   .omega
   .exact absurd this.2 av
  .rw[bA aZ] at df;rw[bA aN] at cH;rw[cE.rf _ _ aZ] at dc;rw[cE.rf _ _ aN] at cl;exact R.inj bN a2 B F df cH dA sT sM dc cl
def XZ{aa:cE}{H:bd}{w a8:World}(R:Rel aa H w)(aB:eR H.next){b ca:Nat}{bH:gB}(gL:w.heap.size<=a8.heap.size)(av:w.heap.size<=b\/kI aa H b)(az:∀k,k<w.heap.size->¬kI aa H k->a8.heap[k]?=w.heap[k]?)(al:a8.tape=w.tape)(vd:a8.os=w.os)(x0:a8.output=w.output):Step aa H w (aa.set H.next (b,ca)) {(H.put H.next bH) with next:=H.next+1} a8:=by
 have rH:aa H.next=none:=by
  cases h:aa H.next with
  |none=>rfl
  |some x=>exact absurd (R.pH _ _ h) (EK _)
 refine⟨cE.CC _ rH,λa aD=>cE.rf _ _ Y,by show H.next<=H.next+1;omega,gL,az,?_,λx I aJ=>by
  have v6:({(H.put H.next bH) with next:=H.next+1}:bd).get x=if x=H.next then bH else H.get x:=bd.nG H H.next x bH aB eN
  rw[v6,bA Y];exact aJ,al,vd,x0⟩
 rintro dA ⟨a,aD,K,fs,ad⟩;have v6:({(H.put H.next bH) with next:=H.next+1}:bd).get a=if a=H.next then bH else H.get a:=bd.nG H H.next a bH aB aD
 rw[v6] at K;by_cases e:a=H.next
 .rw[e,cE.Df] at ad;cases ad;exact av
 .rw[bA e] at K;rw[cE.rf _ _ e] at ad;exact .inr ⟨a,aD,K,fs,ad⟩
variable{aa:cE}
def aaU{H w bH obj ca gb p2 k}(R:Rel aa H w)(aB:CU aa bH obj ca gb p2)(h:sJ H bH k):∃bD aq,k H.next aq/\bk bD (gb H.next) (p2 w.heap.size)/\Rel bD aq (w.alloc obj)/\Step aa H w bD aq (w.alloc obj):=by
 have⟨B,F⟩:=RG h;have rH:aa H.next=none:=by
  cases h:aa H.next with
  |none=>rfl
  |some x=>exact absurd (R.pH _ _ h) (EK _)
 have⟨g1,g2⟩:=aB (aa.set H.next (w.heap.size,ca)) (w.alloc obj) w.heap.size H.next (cE.CC _ rH) (cE.Df _ _ _) (JH w obj);have gL:w.heap.size<=(w.alloc obj).heap.size:=by rw[Mb];omega
 exact⟨aa.set H.next (w.heap.size,ca),_,F,g2,Ps R B gL (.inl (ez _)) (λk az _=>Dm w obj az) g1,
  XZ R B gL (.inl (ez _)) (λk az _=>Dm w obj az) rfl rfl rfl⟩
def Xy{z aF L el}(bO:0<z)(au:cK aa aF L)(K:aF.length=z)(aw:∀x∈aF,x.lw):CU aa (FM el z aF) (.cells (List.toArray L) el) 0 (λa=>.ptr a 0 0 z) (λb=>.pointer (some ⟨b,0,none⟩)):=by
 intro bD w b B2 hle ad bx;refine⟨⟨b,0,_,(0,0),ad,bx,λ_=>rfl,bO,ez _,?_,?_⟩,by simp only[bk];exact⟨b,0,ad,by simp⟩⟩
 .intro i aH;have:i=0:=Y;subst this;exact⟨L,cK.mono hle _ _ au,K,aw,λM bb=>by simp⟩
 .simp [<-au.length.symm▸K,au.length]
def V9{aa}{el z n m}{am:Rows}{l}{L}(bO:0<z)(K:kW aa z l L)(aB:l.length=n)(lK:n<=am.cap)(vZ:m<=n)(av:n<=2147483647):CU aa (.cells (am.iJ l 0) n z el false false) (.cells (List.toArray L.flatten) el) 0 (λa=>.slice a 0 m n false z) (λb=>.slice (some ⟨b,0,none⟩) m n):=by
 intro bD w b B2 hle ad bx;refine⟨⟨b,0,_,(0,0),ad,bx,λ_=>rfl,bO,by rw[Rows.tH];exact lK,?_,?_⟩,by simp only[bk];exact⟨b,0,ad,by simp,Y,by simpa using vZ,by simpa using av⟩⟩
 .refine kA.iJ (n:=0) (c:= #[]) kA.none (K.mono hle) lK Y (λr ad=>.inr Y) (λk az=>?_) (λr M ad=>Y);simp
 .simp only[n1,md,mN,K.yL,aB]
def Zk{aa}{z}{r}{X}(au:cK aa r X)(K:r.length=z)(aw:∀x∈r,x.lw):∀n,kW aa z (List.replicate n r) (List.replicate n X)
 |0=>rfl
 |n+1=>⟨X,List.replicate n X,rfl,au,K,aw,Zk au K aw n⟩
def aa7{X:lh}:∀{n}{i},i<n*X.length->(List.replicate n X).flatten[i]?=X[i % X.length]?
 |0,i,h=>Y
 |n+1,i,h=>by
  simp only[List.replicate_succ,wK];by_cases aH:i<X.length
  .rw[uX aH,mZ aH]
  .rw[wb Y,aa7 (by rw[lE] at h;omega)];congr 1;rw[<-Nat.mod_eq_sub_mod Y]
def apC{X:lh}{n}(ch:0<X.length):(Array.range (n*X.length)).map (λi=>(List.toArray X)[i % X.length]!)=List.toArray (List.replicate n X).flatten:=by
 apply Array.ext_getElem?;intro i;by_cases aH:i<n*X.length
 .have hm:i % X.length<X.length:=nb _ ch;rw[Array.getElem?_map,Array.getElem?_range,b3 aH,wi,aa7 aH];simp [hm]
 .rw[CO (by simp;omega),CO (by simp [List.length_flatten];omega)]
end
section
variable{P:Program}{es:aO}{ae:dv}{L:cv}{T:b4}
def UV{l}{t}(h:sV P t=some l):∃(i:TypeInfo)(gq:Value)(em:lh),P.info? t=some i/\i.zero=some gq/\gq.cells=List.toArray em/\(∀aa,cK aa l em)/\(∀x∈l,x.lw)/\∀w,(zeroValue t).run P w=.ok gq w:=by
 unfold sV at h;have dC:∀v,p4 P t=some v->v≠.undef->l=v.cells->∃(i:TypeInfo)(gq:Value)(em:lh),P.info? t=some i/\i.zero=some gq/\gq.cells=List.toArray em/\
  (∀aa,cK aa l em)/\(∀x∈l,x.lw=true)/\∀w,(zeroValue t).run P w=.ok gq w:=by
  intro v au dB K
  have⟨i,gq,B,F,ah⟩:=XM au
  have⟨em,g1,g2,g3⟩:=U6 (aa:=λ_=>none) ah dB
  subst K
  refine⟨i,gq,em,B,F,g1,λaa=>?_,g3,λw=>by simp [zeroValue,typeInfo,B,F]⟩
  have⟨aiO,qi,ah0,_⟩:=U6 (aa:=aa) ah dB
  rw[g1] at qi
  have:em=aiO:=by simpa using qi
  rw[this];exact ah0
 split at h
 .cases h
 .rename_i n aM bO;cases h;exact dC _ bO (by simp) rfl
 .rename_i v B F bO;cases h;exact dC v bO (λe=>B e) (by cases v<;>first|rfl|(exact absurd rfl (F _ _)))
 .cases h
def Cq(el)(c)(w):(newRow el c).run P w=.ok ⟨w.heap.size,0,none⟩ (w.alloc (.cells c el)):=rfl
def aa8:∀{l}{i},(∀N∈l,N.1≠i)->nP i l=none
 |[],_,_=>rfl
 |(M,v)::l,i,h=>by simp only[nP,aa8 (l:=l) (i:=i) λN hp=>h N (by simp [hp])];rw[bA (λe=>h (M,v) (by simp) e.symm)]
def aby:∀{l}{i},(∀(M)(N),l[M]?=some N->N.1=i+M)->∀(M)(N),l[M]?=some N->nP (i+M) l=some N.2
 |[],i,h,M,N,bb=>by simp at bb
 |(tR,v)::l,i,h,M,N,bb=>by
  have cb:tR=i:=by simpa using h 0 (tR,v) rfl
  subst cb;have al:∀(M:Nat)(N:Nat×Value),l[M]?=some N->N.1=(tR+1)+M:=λM N hp=>by have:=h (M+1) N (by simpa using hp);omega
  cases M with
  |zero=>
   simp at bb;subst bb;have:nP tR l=none:=aa8 λq ax e=>by have⟨n,aB⟩:=List.getElem?_of_mem ax;have:=al n q aB;omega
   simp only[nP,sb,this,nI]
  |succ M=>simp only[s1] at bb;have:=aby al M N bb;have e:tR+1+M=tR+(M+1):=Y;rw[e] at this;simp only[nP,this]
def chunks(z):∀(n)(c:lh),c.length=n*z->∃fH:uQ,fH.flatten=c/\fH.map List.length=List.replicate n z
 |0,c,h=>⟨[],by have:c=[]:=xH.1 Y;simp [this],rfl⟩
 |n+1,c,h=>by
  have b5:z+n*z=c.length:=by rw[h,lE];omega
  have⟨fH,B,F⟩:=chunks z n (c.drop z) (by rw[lu];omega);refine⟨c.take z::fH,by simp [B],?_⟩;simp only[fA,F,List.replicate_succ,jC];congr 1;omega
def apw(z n i)(h:i<=n):wE (List.replicate n z) i=i*z:=by unfold wE;rw[List.take_replicate,ws h,List.sum_replicate_nat]
def aaw{s}:∀{cg}{i}{r}{k},BD s i (qb es ae cg)=some r->r.f L T k->∃ab,k ab/\ab.length=cg.length/\(∀(M)(N),cg[M]?=some N->N.1=i+M)/\∀(aa)(a),(∀N∈cg,i1 aa es ae L T a N.2)->kW aa s ab (cg.map λN=>(a.eval N.2).cells.toList)
 |[],i,r,k,ad,h=>by simp only[qb,BD,Option.some.injEq] at ad;subst ad;exact⟨[],h,rfl,by simp,λ_ _ _=>rfl⟩
 |(M,x)::cg,i,r,k,ad,h=>by
  simp only[qb] at ad;unfold BD at ad;split at ad
  .rename_i gC av rx;cases ad;have av:=cF.1 av;change jR ((db es ae x).g L T) s (λc=>gC L T λq=>k (c::q))=true at h;have⟨c,B,_,F⟩:=UK h;have⟨ab,ah,aE,bt,b1⟩:=aaw rx B;refine⟨c::ab,ah,by simp [aE],?_,λaa a dT=>?_⟩
   .intro n N hp;cases n with
    |zero=>simp at hp;subst hp;simp [av]
    |succ n=>have:=bt n N (by simpa using hp);omega
   .have⟨em,g1,g2,g3,g4⟩:=F aa _ (dT (M,x) (by simp));exact⟨em,_,by simp [g1],g2,g3,g4,b1 aa a λN hp=>dT N (by simp [hp])⟩
  .cases ad
def agt{aa z ab em n parts c}(mM:kW aa z ab em)(OO:em=parts.map λN=>N.2.cells.toList)(aB:parts.length=n)(aH:∀(M:Nat)(N:Nat×Value),parts[M]?=some N->N.1=M)(aw:c.size=n*z):Instr.fill (λi=>some (i*z,z)) c parts=some (List.toArray em.flatten):=by
 have⟨fH,eK,s2⟩:=chunks z n c.toList (by simpa using aw);have gL:∀N∈parts,N.2.cells.size=z/\N.1<n:=by
  intro N hp;have⟨M,bb⟩:=List.getElem?_of_mem hp;have aV:M<parts.length:=(jb.1 bb).1;refine⟨?_,by rw[aH M N bb];omega⟩;have ard:M<ab.length:=by rw[<-mM.length,OO,dt];exact aV
  have:∀{ab:ql}{em:uQ}{M:Nat}{X:lh},kW aa z ab em->em[M]?=some X->X.length=z:=by
   intro ab;induction ab with
   |nil=>intro em M X h ch;cases h;simp at ch
   |cons r l bB=>
    rintro em M X ⟨er,fX,rfl,B,F,ah,aE⟩ ch;cases M with
    |zero=>simp at ch;subst ch;rw[B.length,F]
    |succ M=>exact bB aE (by simpa using ch)
  have:=this (M:=M) (X:=N.2.cells.toList) mM (by rw[OO,t7,bb];rfl);simpa using this
 have s0:c=List.toArray fH.flatten:=by rw[eK]
 have vD:fH.length=n:=by have:=mJ List.length s2;simpa using this
 rw[s0,RQ (λi=>some (i*z,z)) (List.replicate n z) (λi s ak=>?_) parts fH s2 (λN hp=>?_)]
 .congr 2;have:xP fH parts=em:=by
   apply IL;intro M;by_cases bb:M<n
   .rw[TX M parts fH Y];have Xe:parts[M]?=some parts[M]:=na Y;have:=aby (i:=0) (λM N hp=>by rw[aH M N hp];omega) M _ Xe;rw[jq] at this;rw[this,OO,t7,Xe];rfl
   .rw[qU (by rw[YH];omega),qU (by rw[OO,dt];omega)]
  rw[this]
 .have aV:=(jb.1 ak).1;rw[vW] at aV;rw[apw z n i Y];rw[List.getElem?_replicate,b3 aV] at ak;cases ak;rfl
 .rw[List.getElem?_replicate,b3 (gL N hp).2,(gL N hp).1]
def acE{k D}(h:(xz P es ae D.op).f L T k):∃bH gb,k bH gb/\bH.live/\∀(aa)(a),(∀x∈D.op.operands.toList,i1 aa es ae L T a x)->∃obj ca p2,CU aa bH obj ca gb p2/\∀w,(execOp a.eval D).run P w=.ok (.value (p2 w.heap.size)) (w.alloc obj):=by
 have⟨pU,op,bK,pos,abI,VW⟩:=D;simp only at h ⊢;unfold xz at h;split at h
 .rename_i el;split at h
  .rename_i z n bO ak;split at h
   .rename_i K;have K:=cF.1 K;have⟨i,gq,em,B,F,ah,aE,bt,b1⟩:=UV bO;refine⟨_,_,h,rfl,λaa a dT=>⟨_,0,_,Xy (zz n) (aE aa) K bt,λw=>?_⟩⟩;simp only[execOp,eU,Instr.alloc,b1,ff,newVar,ah,Cq,eB]
   .exact bS h
  .exact bS h
 .rename_i el x;split at h
  .rename_i g n br ak;change jR (g L T) (n+1) (λc=>k (FM el (n+1) c) λa=>bl.ptr a 0 0 (n+1))=true at h;have⟨c,B,_,F⟩:=UK h;refine⟨_,_,B,rfl,λaa a dT=>?_⟩;have I:=dT x (by simp [Op.operands]);unfold i1 at I;rw[br] at I;have⟨em,g1,g2,g3,g4⟩:=F aa _ I;refine⟨_,0,_,Xy (zz n) g2 g3 g4,λw=>?_⟩;simp only[execOp,eU,Instr.box,newVar,g1,Cq,ff,eB]
  .exact bS h
 .rename_i t n cg;split at h
  .rename_i e hu;split at h
   .rename_i s am ak rE;split at h
    .rename_i r aW ad;simp only[c6] at aW;have⟨⟨cQ,eL⟩,jU⟩:=aW;have cQ:=cF.1 cQ;rw[dn] at eL;have⟨ab,B,F,ah,aE⟩:=aaw ad h;rw[sR] at B;have aB:ab.length=n:=by rw[F];exact cQ
     refine⟨_,_,B,rfl,λaa a dT=>?_⟩;have mM:=aE aa a λN hp=>dT N.2 (by simp only[Op.operands,re];exact⟨N,hp,rfl⟩);have lK:=Oj rE;have kY:n<=2147483647:=by have:n*1<=n*(s+1):=Pc n Y;omega
     refine⟨_,0,_,V9 (zz s) mM aB lK (ez n) kY,λw=>?_⟩;have⟨asw,JB⟩:=Option.isSome_iff_exists.1 jU;have⟨gq,uY,jN⟩:=Sr JB;have MU:∀c:Array Value,c.size=n*(s+1)->Instr.fill (λi=>some (i*(s+1),s+1)) c ((cg.map λN=>(N.1,a.eval N.2)):Array (Nat×Value)).toList=
      some (List.toArray (cg.toList.map λN=>(a.eval N.2).cells.toList).flatten):=by
      intro c aw
      refine agt mM ?_ ?_ ?_ aw
      .simp
      .simp only[Array.toList_map,dt];exact cQ
      .intro M N hp;rw[Array.toList_map,t7] at hp;cases ax:cg.toList[M]? with
       |none=>rw[ax] at hp;cases hp
       |some q=>rw[ax] at hp;cases hp;have:=ah M q ax;simpa using this
     have oq:eV P e=some (s+1):=ak;simp only[execOp,Instr.buildSlice,eU,hE hu,ff,rj oq];rw[bA Y];by_cases ax:n*(s+1)=0
     .rw[b3 ax];simp only[eU,eB,ff];rw[MU _ (by simp)];simp only[eU,Cq,ff,eB]
     .rw[bA ax];simp only[eU,jN,eB,ff];rw[MU _ (by simp)];simp only[eU,Cq,ff,eB]
    .exact bS h
   .exact bS h
  .exact bS h
 .rename_i t l c;split at h
  .rename_i e hu;split at h
   .rename_i s z b gl tK ak bO av akd alz;split at h
    .rename_i aW;simp only[c6] at aW;have⟨cQ,eL⟩:=aW;have cQ:=cF.1 cQ;rw[dn] at eL;have⟨dz,dl,aZ,g1⟩:=n9 h;have⟨cw,g2⟩:=eH g1;have⟨c7,g3⟩:=eH g2;have⟨gg,cB,aN,g4⟩:=n9 g3;have⟨fu,g5⟩:=eH g4;have⟨fh,g6⟩:=eH g5;have⟨hC,gA⟩:=eH g6;rw[dn] at cw fu hC;rw[cZ] at c7 fh;have⟨am,lK,j4⟩:=aae gA;rw[sR] at j4;have⟨i,gq,em,B,F,ah,aE,bt,b1⟩:=UV bO;refine⟨_,_,j4,rfl,λaa a dT=>?_⟩;have Hs:em.length=s+1:=by rw[(aE aa).length,cQ]
     refine⟨_,0,_,V9 (zz s) (Zk (aE aa) cQ bt cB) (by simp) lK hC Y,λw=>?_⟩;have val:∀(x:Operand)(g:cv->b4->bl)(c n:Nat),db es ae x=⟨g⟩->g L T=.int c n->n<513->3<=c->i1 aa es ae L T a x->a.eval x=.int (jh c) n:=by intro x g c n br ar aB aw I;unfold i1 at I;rw[br] at I;simp only[ar,bk] at I;have⟨bq,aS,bU⟩:=I;rw[bU,ke];rcases tn bq with⟨_,e,ci⟩|⟨_,e,ci⟩|⟨_,e,ci⟩|⟨_,e,ci⟩|⟨_,e,ci⟩|⟨_,e,ci⟩|⟨_,e,ci⟩|⟨_,e,ci⟩<;>omega
     have v1:=val l gl dz dl akd aZ c7 cw (dT l (by simp [Op.operands]));have v2:=val c tK gg cB alz aN fh fu (dT c (by simp [Op.operands]));have ajw:i.bytes=b:=by unfold va at av;rw[EC,B] at av;simpa using av
     have wr:∀n:Nat,n<513->IntKind.i64.wrap (n:Int)=n:=by intro n aB;have:=tB (c:=3) (r:=n) ag (by show n<18446744073709551616;omega) (x:=(n:Int)) (uP Y (by show(n:Int)<((18446744073709551616:Nat):Int);omega));rw[ke (by show n<9223372036854775808;omega)] at this;exact this
     have MZ:∀n:Nat,n<513->¬(((b:Int)*(n:Int))>2 ^ 48):=by intro n aB;have:b*n<=1000*513:=Nat.mul_le_mul eL Y;rw[<-Int.natCast_mul];omega
     have oq:eV P e=some (s+1):=ak;simp only[execOp,v1,v2,Instr.makeSlice,eU,hE hu,ff,asInt,Fk,eB,typeInfo,run_program,B,ajw];rw[wr dl c7,wr cB fh];have ah7:¬(((decide ((cB:Int)<0)||decide ((b:Int)*(cB:Int)>2 ^ 48))||decide ((dl:Int)<0)||decide ((dl:Int)>(cB:Int)))=true):=by have:=MZ cB fh;simp only[qC,oI];omega
     rw[bA ah7];simp only[eU,run_askRoom,ff,rj oq,zr];by_cases ax:cB*(s+1)=0
     .have ajP:cB=0:=by rcases Nat.mul_eq_zero.1 ax with h|h<;>omega
      rw[b3 ax];simp only[eU,Cq,ff,eB];rw[ax,ajP,show Array.range 0= #[] from rfl];simp
     .rw[bA ax];have:=apC (X:=em) (n:=cB) Y;rw[Hs] at this;simp only[eU,b1,Cq,ff,eB,ah,mN,Hs,this]
    .exact bS h
   .exact bS h
  .exact bS h
 .rename_i t;split at h
  .refine⟨_,_,h,rfl,λaa a dT=>⟨.map #[] 0,0,λb=>.map (some b),?_,λw=>?_⟩⟩
   .intro bD w b B2 hle ad bx;exact⟨⟨b,0,#[],ad,bx,rfl⟩,by simp only[bk];exact⟨b,0,ad,rfl⟩⟩
   .simp only[execOp,Instr.makeMap,eU,Option.map_none,run_newObj,ff,eB];rfl
  .exact bS h
 .exact bS h
end
section
variable{P:Program}{es:aO}{ae:dv}{L:cv}{T:b4}
def sd(P:Program)(aa:cE)(H:bd)(w:World)(s:Sem Next)(k:bl->bd->Bool):Prop:=
 ∃bD aq v V a8,k v aq=true/\bk bD v V/\Rel bD aq a8/\Step aa H w bD aq a8/\(s.run P w=.ok (.value V) a8\/(s.run P w=.ok .skip a8/\V=undef))
def E5(P:Program)(aa:cE)(H:bd)(w:World)(s:Sem Value)(k:bl->bd->Bool):Prop:=
 ∃bD aq v V a8,k v aq=true/\bk bD v V/\Rel bD aq a8/\Step aa H w bD aq a8/\s.run P w=.ok V a8
def E5.op{aa}{H}{w}{s:Sem Value}{k}(h:E5 P aa H w s k):sd P aa H w (do pure (.value (<-s))) k:=by have⟨bD,aq,v,V,a8,B,F,ah,aE,bt⟩:=h;exact⟨bD,aq,v,V,a8,B,F,ah,aE,.inl (by rw[eU,bt];rfl)⟩
variable{H:bd}{k:bl->bd->Bool}{w:World}{aa:cE}
def sd.congr{s cP}(h:sd P aa H w s k)(e:cP.run P w=s.run P w):sd P aa H w cP k:=by unfold sd at*;rw[e];exact h
structure E6(P:Program)(w:World)(size:Nat)(er:Value)(m:Nat)(Dp:lh):Prop where
 len:∀a8,(Builtin.lenOf er).run P a8=.ok m a8
 cells:∀a8,a8.heap=w.heap->(Builtin.firstCells size m er).run P a8=.ok (List.toArray Dp) a8
def PD{Bc v k}(h:r6 Bc v H k):∃m l,k m l/\l.length=m/\∀(aa)(w)(V),bk aa v V->Rel aa H w->∃em,kW aa Bc l em/\m<=2147483647/\E6 P w Bc V m em.flatten/\∃a n c,V=.slice a n c:=by
 unfold r6 at h;rcases Le h with⟨e,B⟩|⟨a,i,l,c,u,z,e,B⟩
 .refine⟨0,[],B,rfl,λaa w V eZ R=>⟨[],rfl,Y,?_,?_⟩⟩;all_goals
   rw[e] at eZ
   simp only[bk,iB] at eZ
   subst eZ
  .exact⟨λa8=>rfl,λa8 _=>rfl⟩
  .exact⟨_,_,_,rfl⟩
 .rcases ic B with⟨ma,B⟩|⟨_,B⟩
  .have ma:=cF.1 ma;subst ma;refine⟨0,[],B,rfl,λaa w V eZ R=>⟨[],rfl,Y,?_,?_⟩⟩;all_goals
    rw[e] at eZ
    simp only[bk] at eZ
    obtain⟨b,ca,v1,rfl,v2,tJ,Bd⟩:=eZ
   .exact⟨λa8=>rfl,λa8 bx=>MM a8 Bc 0 _ 0 _ [] (by simp) λM x I=>by simp at I⟩
   .exact⟨_,_,_,rfl⟩
  have⟨bq,F⟩:=eH B;have bq:=cF.1 bq;rw[pN] at F;have⟨am,n,cI,el,fa,dK,qB,ah⟩:=J8 F;have⟨aS,aE⟩:=eH ah;have⟨bU,bt⟩:=eH aE;have⟨eI,bt⟩:=eH bt;rw[dn] at aS eI;have bU:=cF.1 bU;have b1:=Tq bt;refine⟨l,_,b1,Rows.Dz _ _ _,λaa w V eZ R=>?_⟩;rw[e] at eZ;simp only[bk] at eZ;obtain⟨b,ca,v1,rfl,v2,tJ,Bd⟩:=eZ;have ay:=R.obj a (bk.lt R v1);rw[qB] at ay;have⟨dA,fs,hY,bS,cQ,eL,jU,nR,qR,qJ,mU⟩:=ay;rw[v1] at cQ;cases cQ;have⟨em,g1,g2⟩:=qJ.range l i aS;rw[<-bU,bq] at g1;have arS:i+l<=n:=aS;refine⟨em,g1,Y,⟨λa8=>rfl,λa8 bx=>?_⟩,_,_,_,rfl⟩;have K:em.flatten.length=l*Bc:=by rw[g1.yL,Rows.Dz]
  refine MM a8 Bc l _ l _ em.flatten K λM x I=>?_;rw[vF,cell_of_row a8 b _ hY el bS (by rw[bx];exact eL)];have bb:M<l*cI:=by have:=(jb.1 I).1;rw[K] at this;rw[<-bU,bq];exact this
  rw[bU,g2 M bb];exact I
def SI{aa}:∀(l n),kW aa 1 (vJ l n) ((cL l n).map λb=>[Value.int .u8 b.toNat])
 |0,_=>rfl
 |l+1,n=>by
  refine⟨[Value.int .u8 (UInt8.ofNat (n % 256)).toNat],_,rfl,cK.cons ?_ cK.nil,rfl,by simp [bl.lw],SI l (n / 256)⟩;have av:n % 256<256:=nb _ ag;have:=pm (aa:=aa) (c:=4) (r:=n % 256) ag (by simpa [cp] using av);rw[ke (by simpa [dL] using av)] at this;have e:(UInt8.ofNat (n % 256)).toNat=n % 256:=by simp only[AX];exact mZ av
  rw[e];exact this
def G4:∀(l n),(vJ l n).length=l
 |0,_=>rfl
 |l+1,n=>by simp [vJ,G4 l]
def SA{α gd:Type}(f:α->gd):∀l:List α,(l.map λb=>[f b]).flatten=l.map f
 |[]=>rfl
 |a::l=>by simp [SA f l]
def aim(w)(l n):E6 P w 1 (.string ⟨(cL l n).toArray⟩) l (((cL l n).map λb=>[Value.int .u8 b.toNat]).flatten):=by refine⟨λa8=>by simp [Builtin.lenOf,BU,pP],λa8 _=>?_⟩;rw[SA];simp only[Builtin.firstCells,eB,aaW];congr 1;have h:List.take l (cL l n)=cL l n:=Uh (by rw[pP];exact ez _);simp [h]
def PG{t a6 bK e:TypeId}{jx:TypeDesc}{size:Nat}(al:P.underlying t=some (.slice e))(hS:P.underlying a6=some jx)(aJ:∀k,jx≠.int k)(ak:eV P e=some size){base:Option Addr}{mn m8 m:Nat}{er:Value}{Dp:lh}{w:World}(i0:E6 P w size er m Dp)(DH:mn+m<=m8):(Builtin.append_ #[t,a6] bK #[.slice base mn m8,er]).run P w=match base with
 |some a=>((storeCells (a.add (mn*size)) Dp).run P w).andThen λ_ a8=>.ok (.slice (some a) (mn+m) m8) a8
 |none=>.ok (.slice none (mn+m) m8) w:=by
 cases base with
 |none=>simp [Builtin.append_,hE al,hE hS,rj ak,i0.len,DH,i0.cells w rfl]
 |some a=>simp [Builtin.append_,hE al,hE hS,rj ak,i0.len,DH,i0.cells w rfl]
def Vf{t a6 bK e:TypeId}{jx:TypeDesc}{i:TypeInfo}{z er m Dp mn base m8 Tj}(al:P.underlying t=some (.slice e))(hS:P.underlying a6=some jx)(aJ:∀k,jx≠.int k)(aH:P.info? e=some i)(bO:i.zero=some z)(i0:E6 P w i.size er m Dp)(KJ:∀a8,a8.heap=w.heap->(Builtin.firstCells i.size mn (.slice base mn m8)).run P a8=.ok (List.toArray Tj) a8)(DH:m8<mn+m)(arB:((mn+m:Nat):Int)<=9223372036854775807)(vz:Builtin.nextslicecap (mn+m) m8*i.bytes<=281474976710656):(Builtin.append_ #[t,a6] bK #[.slice base mn m8,er]).run P w=.ok (.slice (some ⟨w.heap.size,0,none⟩) (mn+m) (grownCap w (mn+m) m8 e)) (w.drew.alloc (.cells (List.toArray (Tj++Dp)++Builtin.zeroCells z.cells (grownCap w (mn+m) m8 e - (mn+m))) e)):=by have aB:¬(mn+m<=m8):=Y;have ai6:¬(9223372036854775807<((mn:Int)+(m:Int))):=Y;have agK:¬(281474976710656<Builtin.nextslicecap (mn+m) m8*i.bytes):=Y;simp [Builtin.append_,hE al,hE hS,sizeOf,typeInfo,zeroValue,aH,bO,i0.len,aB,ai6,agK,Question.forced,i0.cells w.drew rfl,KJ w.drew rfl,newRow,grownCap];congr 2;apply Array.ext';simp [BH]
def XA{z l em n ca e V iO}(R:Rel aa H w)(bO:0<z)(K:kW aa z l em)(aB:l.length=n)(av:n<=2147483647)(abz:n<=ca)(gL:iO.size=(ca - n)*z)(h:Au e z n l H k)(eZ:V=.slice (some ⟨w.heap.size,0,none⟩) n ca):∃bD aq v,k v aq/\bk bD v V/\Rel bD aq (w.drew.alloc (.cells (List.toArray em.flatten++iO) e))/\Step aa H w bD aq (w.drew.alloc (.cells (List.toArray em.flatten++iO) e)):=by
 unfold Au at h;have⟨am,lK,B⟩:=aae h;rw[sR] at B;have pK:CU aa (.cells (am.iJ l 0) n z e true false) (.cells (List.toArray em.flatten++iO) e) ca (λa=>.slice a 0 n 0 true z) (λb=>.slice (some ⟨b,0,none⟩) n ca):=by
  intro bD w b B2 hle ad bx;have kN:em.flatten.length=n*z:=by rw[K.yL,aB]
  refine⟨⟨b,ca,_,(0,0),ad,bx,λ_=>rfl,bO,by rw[Rows.tH];exact lK,?_,?_⟩,by simp only[bk];exact⟨b,ca,ad,by simp,av,by simpa using abz,by simp⟩⟩
  .refine kA.iJ (n:=0) (c:= #[]) kA.none (K.mono hle) lK Y (λr ad=>.inr Y) (λk az=>?_) (λr M ad=>Y);rw[Aw,jq,Ig (by simp only[mN];rw[K.yL];exact az)];simp
  .have ak:(List.toArray em.flatten++iO).size=ca*z:=by simp only[Kj,mN,kN,gL,<-lE];congr 1;omega
   rw[b3 rfl,ak];exact⟨rfl,p0 z abz⟩
 have⟨bD,aq,g1,g2,g3,g4⟩:=aaU R.drew pK B;subst eZ;exact⟨bD,aq,_,g1,g2,g3,(Step.drew aa H w).trans g4⟩
end
end Go.Ev
