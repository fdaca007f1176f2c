/- Part of the proof of PrinterLines. -/
import Derived.Test.YtddaefckjmdfoaaGreatDoorProg
import Derived.Test.YtddaefckjmdfoaaGreatDoorT5
set_option linter.all false
namespace Go.Tx
open Go Go.Ev
section
variable{C:Nat->cG}{P:dy}{es:aO}{ae:dv}{S:c5}{bf:Hint}{d:Nat}{X:aO}
def WF{U}:∀{ab:gF}{l}{s},uz ab=some s->pW U 1 ab l->∃n,(∀k,B3 l k=k s.length n)/\cL s.length n=s
 |[],l,s,h,K=>by cases h;have:l=[]:=xH.1 K.1;subst this;exact⟨0,λ_=>rfl,rfl⟩
 |r::ab,[],s,h,K=>by cases K.1
 |r::ab,c::l,s,h,K=>by
  unfold uz at h;split at h
  .cases ‹_=[]›
  .rename_i n aM e;cases e;cases q:Nat.blt n 256 with
   |false=>rw[q] at h;cases h
   |true=>
    rw[q] at h;have⟨cP,B,F⟩:=i9 h;cases F;have ax:n<256:=Mz q;have⟨m,g1,g2⟩:=WF (l:=l) B ⟨by have:=K.1;simpa using this,λM aF bb=>by have:=K.2 (M+1) aF (by simpa using bb);simpa using this⟩;obtain⟨-,fo,aZ,aN⟩:=K.2 0 _ rfl;cases aZ;obtain⟨v,ab5,rfl,c9,hB⟩:=aN;simp only[bp] at c9;subst c9;refine⟨n+256*m,λk=>?_,?_⟩
    .show a7 (Nat.beq 4 4) (B3 l λlen num=>e5 (Nat.add n (Nat.mul 256 num)) λnum=>k (Nat.succ len) num) false=_;rw[show Nat.beq 4 4=true from rfl,fz,g1,gT];rfl
    .show cL (cP.length+1) (n+256*m)=_;simp only[cL];rw[show(n+256*m) / 256=m by omega,g2];congr 1;first
      |rw[show(n+256*m) % 256=n by omega]
      |(apply HN.1;simp;done)
      |(apply HN.1;simp;omega)
  .cases h
def amX{x k}{s t}(h:q4 (dq C) bf P es ae d (.convert s t x) S k):qw C X d es (oi P es ae (.convert s t x)).f S k:=by
 unfold q4 at h;simp only at h;split at h
 .rename_i e ak al;split at h
  .rename_i ar bO;have⟨str,B,F⟩:=kk h;have⟨ab,ah,aE⟩:=i9 B;intro U Z H L T aW cn bR;have⟨l,g1,g2⟩:=adz aW ah (kD (ae:=ae) cn bR x);have⟨n,g3,g4⟩:=WF aE g2;refine⟨_,_,.str str.length n,H,U,Z,F,⟨0,λm _ k aU=>?_⟩,fx.refl aW,⟨n,rfl,g4⟩⟩;have aw:lN P (.convert s t x)=.wr:=by simp only[lN,ak]
   unfold oi;rw[aw];simp only[hN,GQ];generalize db es ae x=g at g1;have⟨g⟩:=g;simp only[ak,al,ar,bO];rw[g1,g3]
  .exact h.elim
 .exact h.elim
end
section
variable{C:Nat->cG}{P:dy}{es:aO}{ae:dv}{S:c5}{bf:Hint}{d:Nat}{X:aO}
def Ob:∀s,(hG s).length=s.length
 |[]=>rfl
 |_::s=>by simp only[hG,nD,Ob s]
def ab6{U}:∀(l n),pW U 1 (hG (cL l n)) (vJ l n)
 |0,n=>⟨rfl,λM aF h=>by simp [cL,hG] at h⟩
 |l+1,n=>by
  have bB:=ab6 (U:=U) l (n / 256);refine⟨by have:=bB.1;simp only[cL,hG,vJ,nD] at this ⊢;exact mJ (· +1) this,λM aF h=>?_⟩;cases M with
  |zero=>simp only[cL,hG,NT,Option.some.injEq] at h;subst h;refine⟨rfl,_,rfl,_,_,rfl,?_,rfl⟩;have e:n % 256<256:=nb _ Y;show bl.int 4 (n % 256)=bl.int 4 (UInt8.ofNat (n % 256)).toNat;rw[AX];congr 1;omega
  |succ M=>simp only[cL,hG,s1] at h;exact bB.2 M aF h
def age{e z b x ab r}(h:yX X S d e z (b+1) x ab=some r):ab.length<=2147483647:=by
 have dC:∀m,(m+ab.length)*(b+1)<=sn->ab.length<=2147483647:=λm h=>by have F:(m+ab.length)*1<=(m+ab.length)*(b+1):=Pc _ Y;have ah:(m+ab.length)*(b+1)<=2147483647:=h;omega
 unfold yX at h;split at h
 .split at h
  .rename_i q;simp only[c6] at q;exact dC _ (dn.1 q.2)
  .split at h
   .rename_i q;simp only[c6] at q;exact dC 0 (by rw[jq];exact dn.1 q.2)
   .cases h
 .obtain⟨q,-⟩:=gJ h;have:=dn.1 q;exact dC 0 (by rw[jq];exact this)
 .split at h
  .obtain⟨q,-⟩:=gJ h;simp only[c6] at q;exact dC _ (dn.1 q.2)
  .obtain⟨q,-⟩:=gJ h;simp only[c6] at q;exact dC _ (dn.1 q.1.1.2)
  .cases h
 .cases h
def Zg{e s b}{X9}{f:cG->cv->b4->bd->(bl->bd->Bool)->(bl->bd->Bool)->Bool}{ab:gF}{k}{r}{sv:cv->b4->bl}(I:∀(U)(Z)(L)(T),eW U Z S.A S.L L->gp U Z S.A es.length S.E T->cd U Z S.A X9 (sv L T))(h:yX X S d e (s+1) b X9 ab=some r)(az:k r.1 r.2)(aI:∀(U)(Z)(H)(L)(T),bL U Z S.A H->eW U Z S.A S.L L->gp U Z S.A es.length S.E T->∃l,pW U (s+1) ab l/\∀c k aU,f c L T H k aU=sz e (s+1) b (sv L T) ab.length l H k):qw C X d es f S k:=by intro U Z H L T aW cn bR;have⟨l,B,F⟩:=aI U Z H L T aW cn bR;have⟨v,aq,bh,bV,g1,g2,g3⟩:=amy aW h (I U Z L T cn bR) B Y;exact⟨_,_,v,aq,bh,bV,az,⟨0,λm _ k aU=>by rw[F,g1]⟩,g2,g3⟩
end
section
variable{C:Nat->cG}{P:dy}{es:aO}{ae:dv}{S:c5}{bf:Hint}{d:Nat}
variable{k:a1->c5->Prop}{op:Op}
def WD(aw:lN P op=.wr)(h:q4 (dq C) bf P es ae d op S k):qw C bf.du d es (oi P es ae op).f S k:=by
 have xG:qw C bf.du d es (hN P es ae op).f S k->qw C bf.du d es (oi P es ae op).f S k:=by intro g;unfold oi;rw[aw];exact g
 cases op with
 |load t x=>exact xG (ajr h)
 |store t x y=>exact xG (ajd h)
 |convert s t x=>exact amX h
 |call c=>
  unfold q4 at h;simp only at h;cases ay:bf.own d with
  |true=>
   rw[ay] at h;simp only at h;split at h
   .rename_i f kU;have:(hN P es ae (.call c))=q3 es ae f c.args.toList:=by simp only[hN,kU]
    rw[this] at xG;exact xG (Wl h).1
   .exact h.elim
  |false=>
  rw[ay] at h;simp only at h;split at h
  .rename_i f kU;have:(hN P es ae (.call c))=q3 es ae f c.args.toList:=by simp only[hN,kU]
   rw[this] at xG;exact xG (an8 h)
  .rename_i kU;split at h
   .rename_i t a6 x y al I;have:(hN P es ae (.call c))=xk P t a6 (db es ae x) (db es ae y):=by simp only[hN,kU,al,I]
    rw[this] at xG;apply xG;clear xG this;split at h
    .rename_i e ar;split at h
     .rename_i s b q ak av ax;split at h
      .rename_i u RP hu;split at h
       .rename_i z6;have⟨r,B,F⟩:=kk h;have⟨ab,ah,aE⟩:=i9 B;refine Zg (sv:=(db es ae x).g) (λU Z L T cn bR=>kD (ae:=ae) cn bR x) aE F λU Z H L T aW cn bR=>?_;have⟨l,g1,g2⟩:=adz aW ah (kD (ae:=ae) cn bR y);refine⟨l,g2,λc k aU=>?_⟩;unfold xk;generalize db es ae x=ce;generalize db es ae y=ee at g1;have⟨ce⟩:=ce;have⟨ee⟩:=ee;simp only[ar,ak,av,ax,RP,hu,z6];rw[g1]
       .exact h.elim
      .rename_i RP hu;split at h
       .rename_i HH;have⟨r,B,F⟩:=kk h;have⟨str,ah,aE⟩:=i9 B;refine Zg (sv:=(db es ae x).g) (λU Z L T cn bR=>kD (ae:=ae) cn bR x) aE F λU Z H L T aW cn bR=>?_;have⟨n,g1,g2⟩:=Jg ah (kD (ae:=ae) cn bR y);have fy:=age aE;rw[Ob] at fy;have bt:=ab6 (U:=U) str.length n;rw[g2] at bt;refine⟨_,bt,λc k aU=>?_⟩;unfold xk;generalize db es ae x=ce;generalize db es ae y=ee at g1;have⟨ce⟩:=ce;have⟨ee⟩:=ee;simp only at g1;simp only[ar,ak,av,ax,RP,hu,HH,g1];rw[Ob];show a7 (Nat.ble str.length 2147483647) _ false=_;rw[show Nat.ble str.length 2147483647=true from dn.2 Y,fz]
       .exact h.elim
      .exact h.elim
     .exact h.elim
    .exact h.elim
   .exact h.elim
  .exact h.elim
 |_=>exact h.elim
def aho(h:It (dq C) bf P es ae d op S k):qw C bf.du d es (oi P es ae op).f S k:=by
 unfold It at h;cases aw:lN P op with
 |pure=>rw[aw] at h;exact ano aw h
 |sf=>rw[aw] at h;exact aje aw h
 |wr=>rw[aw] at h;exact WD aw h
end
def af5:List aO:=[[],[],[],[0,2,3,4,5,6,7,9,11,13,15,16,17,20,38,75,76,77,78,88,89,90,91,101,102,103,104,114,115,116,117,129,135],[0,2],[0,1,3,4,5,6,8,9,10],[0,2],[0,1,2,3,4,10,11,13,14,24,29,30,31,32,42,46,75,95],[0,1,4,7],[0,1,2,3,4,7,10,20],[0,1,2,4,6,8,10,12,52,54,55,56,57,69,72,73,74,75,93,95,96,97,98,110,114,115,116,117,135,137,138,139,140,152],[0,2,3,4,5,6,7,15,20],[0,1,2,3,6],[0,1,4],[0,1,4,5,6,7,8,11,49],[0,1,4,5,6,7,9,10,11,12,15,58,59,60,61,78,99,111],[0,2,3,4,5,6,7,8,9,43,103,104,105,106,115,130,131,132,133,142],[0,1,4,5,6,8,10,11,14,53,70,73,74,75,76,80,81,82,83,129,155,198],[0,2,3,4,5,6,12,13,14,54,83,87],[0,2],[0,1,4,6,11],[0,1,2,3,4],[0,1,2,3,4,6,13,19,26,33,34,35,36],[0,2,3,4,5,6,7,8,9,10,13,19,35,52],[0,2,3,20,24,38],[0,2],[0,1,2,3,6],[0,2],[0,2,4,5,6,7,8,13],[0,1,2,4,8,9],[0,2,4,5,6,7,8,13],[0,1,2,4,6,8,9,10,11,23,25,26,27,28,57],[0,1,2,4,6,8,9,10,11,29,31,32,33,34,46],[0,1,2,4,6,8,9,10,11,56,58,59,60,61,90],[0,1,4,5,6,7,8,16,31],[0,2,3,9,34,63],[0,1,4,5,6,15,24],[0,1,2],[0,1,2,3,4,6,7,12,18,22,41,63,78,88,96,115,127,147,161,172,187,203,214],[0,1,4],[0,2,3,9],[0,1,2,6],[0,2],[0,1,2,3,4,7],[0,1,2,3,4,10,11,13,14,24,25,26,27,44],[0,2],[0,1,4,6,7,8,9,10,15],[0,1,2,3,5,8,9,10,11,12,13,14,15,16,17,18,19,20,21,22,46,55,56,65,67,91,113,130,136,144,156,158,168,170,180,182,192,194,201,216,230],[0,1,2,3,5,7,9,10,11,12,16,17,18,19,24,32],[0,1,2],[0,1,2,3,4],[0,1,2,3,4,48,81,100,102,103,113,120,131],[0,1,2,3,22,41],[0,1,2,3,4,27],[0,1,3,4],[0,1,2,3,5,7,9,11,13,15,17,19,21,23,24,25,26,30,31,32,33,44,45,46,47,51,52,53,54,64,65,66,67,71,72,73,74,88,89,90,91,101,102,103,104,108,109,110,111],[0,1,2],[0,1,3,4],[0,2],[0,1,4,5,7,8,9,10,11],[0,1,2,3,5,23,24,25,26],[0,1,4,5,7,8,9,10,11],[0,1,2,3,5,23,24,25,26],[0,1,4,5,7,8,9,10,11],[0,1,2,3,5,19,20,21,22],[0,1,4,5,7,8,9,10,11],[0,1,2,3,5,20,21,22,23],[0,1,4,5,7,8,9,10,11],[0,1,2,3,4,32],[0,1,4,8,10,18],[0,1,4,5,6,10,16,22,35],[0,2],[0,2],[0,2,4,5,6,7,8,13],[0,2],[0,1,2,4,6,8,10,12,14,16,18,20,22,23,24,25,29,30,31,32,38,42,43,44,45,49,50,51,52,57,61,62,63,64,68,69,70,71,82,86,87,88,89,95,98,99,100,101,112,114,115,116,117,128],[0,1,2,4,6,8,10,12,14,16,18,20,54,56,57,58,59,71,73,74,75,76,82,86,87,88,89,101,103,104,105,106,118,122,123,124,125,131,133,134,135,136,154,158,159,160,161,179,182,183,184,185,209,211,212,213,214,226],[0,2,3,7,13],[0,2,4,6,7,8,9,10,16,18,19,20,21,26],[0,1,2,4,7,9,10,11,12,17],[0,1,2],[0,1,2,3,4,5,11],[0,2],[0],[0,2],[0,1,4,7],[0,2,3,8],[0,1,7],[0,2,3,4,10],[0,1,2],[0,1,2,3,5,7,8,9,10],[0,1,2],[0,1,2],[0,1,2],[0,1,2,3,5,7,8,9,10],[0,1,2,3,4,9,10,15,19],[0,1,2],[0,1,4],[0,2],[0,1,2],[0,2,5],[0,2],[0,1,2,4,5,9,12,15,16,19],[0,1,2,4,8],[0,1,2],[0,1,4,5,6,7,8,9,10,11],[0,1,2,3,6,28],[0,1,4,5,6,7,8,9,10,11,20],[0,1,4,6],[0,2,3,4,6,8,10,12],[0,1,2,3,8,9,10,11,12,20,26,34,47,69,70,71,73],[0,1,2,3,8,9,11,13,15,16,17,18,19,32,34,35,36,37,51,68,69,70,71,85],[0,1,3,4],[0,1,2,3,5,8,9,10,11,12,14,15,16,17,19,20,21,37,40,41,49,57,67,85,87,88,89,90,96,127,134,135,136,137,173],[0,1,2,5,6,7,8,14],[0,2],[0,2],[0,1,2,5,6],[0,1,2,4],[0,2,4,5,12],[0,1,2,3,5,8,9,10,12,14,15,17,18,19,20,21,23,24,25,27,29,33,34,35,36,55,57,58,59,60,79,81,82,83,84,107,116,118,119,120,121,126,127,128,129,151,167,190,191,192,193],[0,1,2,3,5,8,9,10,11,12,14,15,16,17,18,20,21,22,24,25,26,27,28,29,43,56,76,103,104,105,106,118,124,125,126,127,167],[0,1,2,3,5,8,9,11,12,13,15,16,17,18,20,21,22,23,24,39,40,41,42,76,99,100,101,102,126],[0,1,2,3,5,8,9,11,13,15,16,17,19,23,24,25,26,45,47,48,49,50,54,55,56,57,85,104,122,135,136,137,138],[0,1,4],[0,1,2,3,5,7,8,9,10],[0,1,2,3,5,8,9,10,11,12,13,14,15,16,17,19,21,22,23,24,25,27,29,30,36,46,53,84,90,120,148,164,175,176,177,192,205,232,233,234,235,243,271,272,273,274,292,333,352,353,354,355],[0,1,2],[0,1,4],[0,1,2,3],[0,2,3,4,5,9,12,15,18,23,26,29,32,35,38,41,44,47,50,53,58],[0,1,4,5,6,10,14],[0,2],[0,2],[0,1,3,4],[0,2,3,4,5,6,7,8,13,29,39],[0,1,2],[0,2,3,4,5],[0,1,3,4],[0,1,2],[0,1,3,4],[0,1,2],[0,1,4],[0,1,3,4],[0,1,2],[0,1,3,4],[0,1,2],[0,1,3,4],[0,1,2],[0,1,3,4],[0,1,2],[0,1,3,4],[0,1,2],[0,1,3,4],[0,1,2,3],[0,1,3,4],[0,1,3,4],[0,1,2],[0,1,3,4],[0,1,2,3],[0,1,3,4],[0,1,2],[0,2],[0,1,2],[0,2],[0,1,2,3],[0,1,2,3],[0,1,2,3],[0,1,2,3],[0,1,2],[0,1,2,3,4],[0,1,2,3],[0,1,4],[0,1,2,3],[0,2],[0,1,2,3],[0,2],[0,1,4,5],[0,2],[0,1,2,3,8,9,11,16,19],[0,2],[0,1,4,5,7,8,9,10,11],[0,2],[0,1,4,5,7,8,9,10,11],[0,1,2,3,11,22],[0,1,4],[0,1,2,6,17],[0,2],[0,2],[0,2],[0,2],[0,1,4],[0],[0,1,2,3,5,7,8,9,10],[0,2,4,5,6,7,8,13],[0,1,2],[0,1,2],[0,2,4,5,6,7,8,13],[0,2,4,5,6,7,8,14],[0,1,2],[0,1,2,3,4,11,46,97,113,114,124,130,135,141,155,171,186],[0,1,4,16],[0,1,4],[0,1,2],[0,2,3,4,10],[0,1,4,5,24],[0,1,2,4,5,6],[0,1,2,3,5,7,8,9,10],[0,1,3,4],[0,1,2],[0,1,2],[0,1,4,5,6,7,9,11,17,23,34],[0,2,3],[0,1,4,5,7,8,9,10,11],[0,1,4,5,7,8,10,12,13,15,22,29,39,40,41,42,49,63,64,65,66],[0,1,4],[0,2],[0,1,4,5,6,7,8,10,12,19,20,21,22,26,27,28,29,44],[0,1,4,5,6,7,8,10,12,19,20,21,22,26,27,28,29,44],[0,1,4,5],[0,1,2,3,6,7],[0,1,3,4,5,7,8,9,10,11,17],[0,1,2,3,4,5,12],[0,1,2,3,4,6,7,8,9,10,11,13,14,15,16,17,25,39,40,41,42,43,47],[0,1,2,3,4],[0,1,2,3,6,8,9,10,11,12,14,29,41,42,43,44,49,50,51,52,64],[0,1,4,5,6,7,8,10,12,19,20,21,22,26,27,28,29,44],[0,1,2,3,4,5,12,13,14,15,16,18,19,20,21,22,28,29,30,31,48],[0,1,2,6,7,12,13,21,34],[0,2],[0,1,4,5,7,8,9,16],[0,1,4],[0,2],[0,1,4],[0,1,3],[0,1,4,5,6],[0,1,4],[0,1,2,3],[0,1,4],[0,1,2,3],[0,1,4],[0,1,2,3],[0,1,4],[0,1,2,3],[0,1,4],[0,1,2,3],[0,1,4],[0,1,2,3],[0,1,4],[0,1,2,3],[0,1,4],[0,1,2,3],[0,1,4],[0,1,2,3],[0,1,4],[0,1,2,3],[0,1,4],[0,1,2,3],[0,1,4],[0,1,2,3],[0,1,4,5,7,8,9,16],[0,6,19],[0,1,4,5,7,8,9,10,11],[0,1,2],[0,1,4],[0,1,4],[0,1,2,3,5,7,8,9,10],[0,1,2,4,7,9,10,11,12,16],[0,1,2,3,5,7,8,9,10],[0,1,2,3,5,7,29,34,35,39,40,43,44,47,49,50,51,52,58,61,62,63,64,69],[0,2,3,4,5,9,12,15,18,23,26,29,32,35,38,41,44,47,50,53,58],[0,2],[0,2,3,4,5,6,7,8,12,33],[0,2,3,4,10],[0,1,4],[0,1,2,3],[0,2,4],[0,2,3],[0,1,4,5,6,7,8,9,10,11,12,13,14,15,16,20,99,139,161],[0,1,2,3,4,10,11,12,13,14,15,16,17,18,28,30,34,46,68,89,94],[0,1,7,21],[0,1,4],[0,2,3,4,5,21,25],[0,1,2,3,6,7,8,9,10,15,17,18,19,20,28,43],[0,1,4,6,7,8,9,10,15],[0,1,2,3,4,5,6,10,11,12,24,28,56,61,78],[0,1,2,3,4],[0,1,2,3,6,8,9,10,11,12,13,14,15,16,18,21,22,23,24,25,33,42,43,44,45,50,51,52,53,77,82,83,84,85],[0,1,4,5,7,8,9,16],[0,1,4,5,7,8,9,16],[0,1,4,5,6,7,12],[0,1,4,5,7,8,9,16],[0,1,4,5,7,8,9,16],[0,1,4,5,7,8,9,16],[0,1,4,5,7,8,9,16],[0,1,4,5,7,8,9,16],[0,1,4,5,7,8,9,16],[0,1,4,5,7,8,9,16],[0,1,4,5,7,8,9,16],[0,1,4,5,7,8,9,16],[0,1,4,5,7,8,9,16],[0,1,4,5,7,8,9,16],[0,1,4,5,7,8,9,16],[],[],[0,2,3,4,8,18,31],[0,1,4,5,7,8,9,16],[0,2],[0,2,4,8,14],[0,2,3],[0,2],[0,2],[0,1,4],[0,1,4,5,6,7,8,9,10,11,12,13,16,24,31,36,59,64,73,93,107,114,132,139],[0,2,3,4,8,14],[0,1,2,3,5,7,8,9,10],[0,1,2,3,6,7,8,10,22,28,29,30,31,41],[0,1,2,3,6,7,8,10,22,32,33,34,35],[0,1,4,5,6,7,8,9,10,16],[0,1,2,3,5,10,11,12,13],[0,1,2,3,4],[0,2],[0,1,4,6,7,8,9,10,15],[0,2,3,4,5,9,19,32,37,41,46],[0,1],[0,2,4],[0,2,4],[],[],[0,2],[0,1,4,5,6,7,8,9,10,20,39,44,77],[0,1,4,5,10,14,26],[0,2],[0,2,3,4,5,12,17],[0,1,4,22,27,40],[0,1,23,44,51,67,72],[0,1,6,18,32,63,79,95,106,117,128,139,150],[0,2,3,4,5,6,7,8,12,25,30],[0,2,3,4,10],[0,1,4,5,14],[0,1,4,5,10],[0,1,2,5],[0,1,2],[0,2,3,6],[0,1,4,5,14],[0,2,3,7],[0,2,3,7],[0,2,3],[0,2,3,4,14],[0,1,2,6,7,8,9,18],[0,1,4,5,10],[0,1,4,5,10],[0,1,2,6,7,8,9,10,11,12,13,15,16,17,19,25,32,37,40,52,64,77,83,85,90,92,99,100,101,102,106,112,121,137,141,159,169],[0,1,2,3,4,10,11,12,19,26,34],[0,2],[0,2,3,4,5,18,46,54,83,87,89,91],[0,1,4],[0,1,4],[0,1,2,6],[0,1,2,6],[0,2,3,6],[0,2],[],[],[],[],[],[],[],[],[],[],[],[],[],[],[],[],[],[],[],[],[]]
noncomputable def iZ:Nat->aO:=ajm af5
def DO:∀(E:bG)(i)(v),(iT E i v).length=E.length
 |[],_,_=>rfl
 |_::_,0,_=>rfl
 |_::l,n+1,v=>by simp only[iT,nD,DO l n v]
def I3:∀(E:bG)(i M)(v),i<E.length->i5 (iT E i v) M=if M=i then v else i5 E M
 |[],_,_,_,h=>by cases h
 |a::l,0,0,v,_=>rfl
 |a::l,0,M+1,v,_=>by simp [iT,i5]
 |a::l,n+1,0,v,_=>by simp [iT,i5]
 |a::l,n+1,M+1,v,h=>by simp only[iT,i5,I3 l n M v (by simpa using h),Nat.add_right_cancel_iff]
variable{E l:bG}{L r:cv}{S:c5}{T:b4}{d el i M n s t x z:Nat}{ae:dv}{e:a1}{g:a1->a1}{k:a1->c5->Prop}{A bw:be}{v:bl}{U:dO}{Z:Nat->Nat}
def gp.set(h:gp U Z A n E T)(aH:i<n)(au:cd U Z A e v):gp U Z A n (iT E i e) (T.zP i v):=by
 refine⟨h.1,by rw[DO];exact h.2.1,λM bb=>?_⟩;have asI:=h.1;rw[I3 E i M e (by rw[h.2.1];exact aH),b4.OC T i M v Y Y];by_cases q:M=i
 .rw[b3 q,b3 q];exact au
 .rw[bA q,bA q];exact h.2.2 M bb
section
variable{C:Nat->cG}{P:dy}{es:aO}{bf:Hint}{aP:Nat}
def Jd(C:Nat->cG)(X:aO)(es:aO)(f:cG->cv->b4->bd->(b4->bd->Bool)->(b4->bl->bd->Bool)->Bool)(S:c5)(k:c5->Prop):Prop:=
 ∀(U:dO)(Z:Nat->Nat)(H:bd)(L:cv)(T:b4),bL U Z S.A H->eW U Z S.A S.L L->gp U Z S.A es.length S.E T->
  ∃dM cO aq bh bV,k dM/\(∃cy,∀m,cy<=m->∀k aU,f (C m) L T H k aU=k cO aq)/\bL bh bV dM.A aq/\eQ X U Z S.A H bh bV dM.A aq/\gp bh bV dM.A es.length dM.E cO/\cO.ae=T.ae/\∀s,1000<=s->bV s=Z s
def OR(C:Nat->cG)(X:aO)(d:Nat)(es:aO)(f:cG->cv->b4->bd->(bl->bd->Bool)->(bl->bd->Bool)->Bool)(S:c5)(k:a1->c5->Prop):Prop:=
 ∀(U:dO)(Z:Nat->Nat)(H:bd)(L:cv)(T:b4),bL U Z S.A H->eW U Z S.A S.L L->gp U Z S.A es.length S.E T->
  ∃e dM v aq bh bV,k e dM/\(∃cy,∀m,cy<=m->∀k aU,f (C m) L T H k aU=k v aq)/\(bL bh bV dM.A aq/\eQ X U Z S.A H bh bV dM.A aq/\(∀s,s≠d->bV s=Z s)/\eW bh bV dM.A dM.L L/\gp bh bV dM.A es.length dM.E T)/\cd bh bV dM.A e v
def qw.w{X}{d}{f}{S}{k}(h:qw C X d es f S k):OR C X d es f S k:=λU Z H L T aW cn bR=>by have⟨e,dM,v,aq,bh,bV,B,F,ah,aE⟩:=h U Z H L T aW cn bR;exact⟨e,dM,v,aq,bh,bV,B,F,⟨ah.ok,ah.hZ,ah.aH,ah.sy _ cn,ah.rq _ _ bR⟩,aE⟩
def gp.aiX(h:gp U Z A n E T)(au:i<n->cd U Z A e (T.slot i)):gp U Z A n (iT E i e) T:=by
 refine⟨h.1,by rw[DO];exact h.2.1,λM bb=>?_⟩;rcases l7 i n with aH|aH
 .rw[I3 E i M e (by rw[h.2.1];exact aH)];by_cases q:M=i
  .rw[b3 q,q];exact au aH
  .rw[bA q];exact h.2.2 M bb
 .rw[adx (by rw[h.2.1];exact aH)];exact h.2.2 M bb
 where adx:∀{E:bG}{i:Nat}{v:a1},E.length<=i->iT E i v=E
  |[],_,_,_=>rfl
  |_::_,0,_,h=>by simp at h
  |a::l,n+1,v,h=>by simp only[iT,adx (by simpa using h)]
def ND(T:b4)(n:Nat):aO->cv
 |[]=>[]
 |s::l=>(if s<n then T.slot s else .any)::ND T n l
def Y8(h:gp U Z A n E T):∀l,cJ U (J2 E l) (ND T n l)
 |[]=>.nil
 |s::l=>by
  refine .cons ?_ (Y8 h l);split
  .rename_i t al;by_cases q:s<n
   .rw[b3 q];have:=h.2.2 s q;rw[al] at this;exact this
   .have F:∀(E:bG)(s:Nat),E.length<=s->i5 E s=.J .undef:=by
     intro E;induction E with
     |nil=>intro s _;rfl
     |cons a l bB=>intro s ak;cases s with
      |zero=>simp at ak
      |succ s=>exact bB s (by simpa using ak)
    rw[F E s (by rw[h.2.1];omega)] at al;cases al;simp only[bp]
  .simp only[bp]
def aeo:∀(l)(bX){E},gp U Z A n E T->cJ U bX (ND T n l)->gp U Z A n (Dg E l bX) T
 |[],_,_,h,_=>by unfold Dg;exact h
 |_::_,[],_,h,_=>h
 |s::l,t::r,E,h,g=>by have⟨v,aM,aZ,g1,g2⟩:=g.inv;simp only[ND,List.cons.injEq] at aZ;obtain⟨rfl,rfl⟩:=aZ;refine aeo l r (h.aiX λq=>?_) g2;rw[b3 q] at g1;exact g1
def agT{x y}{t}(h:CY (dq C) bf P t S (dN es ae S x) (dN es ae S y) k):OR C bf.du d es (hN P es ae (.store t x y)).f S k:=by
 unfold CY at h;split at h
 .rename_i N v hp au;split at h
  .rename_i q;simp only[c6] at q;obtain⟨⟨⟨⟨_,_⟩,bU⟩,aS⟩,_⟩:=q;have⟨dP,F,ak⟩:=kk h;intro U Z H L T aW cn bR;have g1:=kD (ae:=ae) cn bR x;have g2:=kD (ae:=ae) cn bR y;rw[hp] at g1;rw[au] at g2;have Cc:=OY aW F aS;have⟨mI,jX,aq,bh,bV,gX,dr,c3,dY,f9,xU⟩:=ak U _ H _ _ _ Cc g1 g2 (Y8 bR bf.i4);have⟨H7,ah,b1⟩:=kk gX;rw[Pn] at ah b1;have eI:∀x,cr x (ev [nJ N / 4])=true->cr x (ev bf.du)=true:=λx I=>by have:=wJ.1 (JA I);simp only[iF] at this;rw[this];exact bU
   have⟨cw,c7,fu,fh⟩:=UF (er:=bf.du) (λ_ h=>JA h) eI (abB bU) aW F aS c3 dY f9 ah;exact⟨_,_,.undef,aq,bh,Z,b1,adQ dr,⟨cw,c7,λ_ _=>rfl,fu.o8 cn,aeo _ _ (fu.wh bR) xU⟩,by simp only[cd,cN,bp]⟩
  .exact h.elim
 .split at h
  .exact h.elim
  .rename_i cb;exact(VU cb h).w
def W0{op}(h:Cf (dq C) bf P es ae d op S k):OR C bf.du d es (oi P es ae op).f S k:=by
 unfold Cf at h;split at h
 .rename_i t x y aw;have:=agT (d:=d) h;unfold oi;rw[aw];exact this
 .exact(aho h).w
def Li{X}{pU}{s}{r:rB}{S}{c3}{k}{d0}(aJ:d0<1000)(h:OR C X d0 es s.f S λv S=>zv (dq C) es aP pU v S c3)(ad:∀Gs,c3 Gs->Jd C X es r.f Gs k):Jd C X es (after es aP pU s r).f S k:=by
 intro U Z H L T aW cn bR;have⟨e,om,v,ct,iv,jz,B,⟨Bs,F⟩,⟨SH,Ur,RI,zX,q5⟩,aE⟩:=h U Z H L T aW cn bR;have⟨s⟩:=s;have⟨r⟩:=r;unfold after;unfold zv at B;cases pU with
 |none=>simp only at B ⊢;have⟨dM,cO,aq,bh,bV,g1,⟨ln,g2⟩,g3,g4,g5,g6,gA⟩:=ad _ B iv jz ct (.any::L) T SH ⟨_,_,rfl,(by simp only[cd,cN,bp]),zX⟩ q5;refine⟨dM,cO,aq,bh,bV,g1,⟨Bs+ln,λm hm k aU=>?_⟩,g3,Ur.trans g4,g5,g6,λs q=>(gA s q).trans (RI s Y)⟩;rw[show s (C m) L T H _ _=_ from F m Y _ _];exact g2 m Y k aU
 |some d=>
  simp only at B ⊢;cases aJ:Nat.blt d aP with
  |false=>rw[aJ] at B;exact B.elim
  |true=>
   rw[aJ] at B;simp only at B ⊢;cases aH:i2 d es with
   |none=>rw[aH] at B;simp only at B ⊢;have⟨dM,cO,aq,bh,bV,g1,⟨ln,g2⟩,g3,g4,g5,g6,gA⟩:=ad _ B iv jz ct (v::L) T SH ⟨_,_,rfl,aE,zX⟩ q5;refine⟨dM,cO,aq,bh,bV,g1,⟨Bs+ln,λm hm k aU=>?_⟩,g3,Ur.trans g4,g5,g6,λs q=>(gA s q).trans (RI s Y)⟩;rw[show s (C m) L T H _ _=_ from F m Y _ _];exact g2 m Y k aU
   |some i=>rw[aH] at B;simp only at B ⊢;have aV:=TD aH;rw[wW (show i<64 by have:=bR.1;omega)];have hp:=JN i;generalize xZ i=N at hp;have⟨N⟩:=N;simp only at hp ⊢;have⟨dM,cO,aq,bh,bV,g1,⟨ln,g2⟩,g3,g4,g5,g6,gA⟩:=ad _ B iv jz ct (v::L) (T.zP i v) SH ⟨_,_,rfl,aE,zX⟩ (q5.set aV aE);refine⟨dM,cO,aq,bh,bV,g1,⟨Bs+ln,λm hm k aU=>?_⟩,g3,Ur.trans g4,g5,by rw[g6,b4.Kq],λs q=>(gA s q).trans (RI s Y)⟩;rw[show s (C m) L T H _ _=_ from F m Y _ _,hp];exact g2 m Y k aU
def acj:∀{L:bG}{i}{b}{U}{Z}{A}{l},i5 L i=.J (.bool b)->eW U Z A L l->eW U Z A (st L i b) l
 |[],_,_,_,_,_,_,_,h=>h
 |e::L,0,b,_,_,_,_,aB,h=>by obtain⟨v,aM,rfl,g1,g2⟩:=h;have:e=.J (.bool b):=aB;subst this;exact⟨v,aM,rfl,g1,g2⟩
 |e::L,i+1,b,_,_,_,_,aB,h=>by obtain⟨v,aM,rfl,g1,g2⟩:=h;exact⟨v,aM,rfl,g1,acj (i:=i) aB g2⟩
def ZK{w y n}(h:zl (dq C) ae d w S y n)(cn:eW U Z S.A S.L L):((ki es ae d).g L T=.undef/\n S)\/∃b fX,(ki es ae d).g L T=.bool b/\eW U Z S.A fX L/\(if b=w then y ⟨fX,S.E,S.A⟩ else n ⟨fX,S.E,S.A⟩):=by
 unfold zl at h;cases hp:jp d ae with
 |none=>rw[hp] at h;exact h.elim
 |some i=>
  rw[hp] at h;have br:(ki es ae d).g L T=L.getD i .any:=by unfold ki;rw[hp];simp only;rw[CN]
  have au:=cn.nth i;rw[br];simp only at h;split at h
  .rename_i aB;rw[aB] at au;exact .inl ⟨au,h⟩
  .rename_i t aB;rw[aB] at au;have⟨b,B,F⟩:=kk h;have al:=RS B;cases al;refine .inr ⟨b,st S.L i b,?_,acj aB cn,?_⟩
   .simpa only[cd,cN,bp] using au
   .rcases Xt F with⟨rfl,ah⟩|⟨rfl,ah⟩<;>cases w<;>simpa using ah
  .exact h.elim
def TQ{g w yes no call H k aU}:(g.g L T=.undef->(guarded g w yes no).f call L T H k aU=no.f call L T H k aU)/\∀b,g.g L T=.bool b->(guarded g w yes no).f call L T H k aU=if b=w then yes.f call L T H k aU else no.f call L T H k aU:=by
 have⟨g⟩:=g;have⟨y⟩:=yes;have⟨n⟩:=no;refine⟨λh=>?_,λb h=>?_⟩
 .cases w
  .show ES (g L T) _ _=_;rw[show g L T=.undef from h];rfl
  .show DF (g L T) _ _=_;rw[show g L T=.undef from h];rfl
 .cases w
  .show ES (g L T) _ _=_;rw[show g L T=.bool b from h];cases b<;>rfl
  .show DF (g L T) _ _=_;rw[show g L T=.bool b from h];cases b<;>rfl
def WS{d}{X}{S}{k}(h:k .iy S):qw C X d es Jk.f S k:=λU Z H L T aW cn bR=>
 ⟨.iy,S,.undef,H,U,Z,h,⟨0,λm _ k aU=>rfl⟩,fx.refl aW,rfl⟩
def YR{an}{k}:∀{l}{ae}{S},yW (dq C) bf P es aP an ae l S k->Jd C bf.du es (uv P es aP an ae l).f S k
 |[],ae,S,h=>λU Z H L T aW cn bR=>⟨S,T,H,U,Z,h,⟨0,λm _ k aU=>rfl⟩,aW,eQ.refl _ _ _ _,bR,rfl,λ_ _=>rfl⟩
 |D::l,ae,S,h=>by
  have bB:=λ{ae:dv}{S:c5}=>YR (an:=an) (k:=k) (l:=l) (ae:=ae) (S:=S);unfold yW at h;unfold uv;cases pF:(zu D.op|| !Nat.blt (D.dst.getD 0) 1000) with
  |true=>rw[pF] at h;exact h.elim
  |false=>
   rw[pF] at h;simp only at h;have⟨pF,aJ⟩:=tk pF;have aJ:D.dst.getD 0<1000:=cZ.1 (by simpa using aJ);split
   .rename_i c aw;rw[aw] at pF;cases pF
   .split
    .rename_i br;rw[br] at h;exact Li aJ (W0 h) λGs F=>bB F
    .rename_i M w br;rw[br] at h;simp only at h;cases bb:(an[M]?).bind (·.dst) with
     |none=>rw[bb] at h;exact h.elim
     |some d=>
      rw[bb] at h;simp only at h ⊢;intro U Z H L T aW cn bR;rcases ZK h cn with⟨B,F⟩|⟨b,fX,B,F,ah⟩
      .have⟨dM,cO,aq,bh,bV,g1,⟨cy,g2⟩,g3⟩:=Li aJ (WS F).w (λGs F=>bB F) U Z H L T aW cn bR;exact⟨dM,cO,aq,bh,bV,g1,⟨cy,λm hm k aU=>by rw[TQ.1 B];exact g2 m hm k aU⟩,g3⟩
      .by_cases e:b=w
       .rw[b3 e] at ah;have⟨dM,cO,aq,bh,bV,g1,⟨cy,g2⟩,g3⟩:=Li aJ (W0 ah) (λGs F=>bB F) U Z H L T aW F bR;exact⟨dM,cO,aq,bh,bV,g1,⟨cy,λm hm k aU=>by rw[TQ.2 b B,b3 e];exact g2 m hm k aU⟩,g3⟩
       .rw[bA e] at ah;have⟨dM,cO,aq,bh,bV,g1,⟨cy,g2⟩,g3⟩:=Li aJ (qw.w (WS (S:=⟨fX,S.E,S.A⟩) ah)) (λGs F=>bB F) U Z H L T aW F bR;exact⟨dM,cO,aq,bh,bV,g1,⟨cy,λm hm k aU=>by rw[TQ.2 b B,bA e];exact g2 m hm k aU⟩,g3⟩
end
def ZC(oD:s≠t):∀{A},look A t=none->∀x,look (uS s t A) x=if x=t then look A s else if x=s then none else look A x
 |[],_,x=>by simp [uS,look]
 |(a,D)::l,al,x=>by
  rw[hO] at al;by_cases vN:t=a
  .rw[b3 vN] at al;cases al
  rw[bA vN] at al;simp only[uS];cases q:Nat.beq a s with
  |true=>
   have q:=cF.1 q;subst q;simp only;rw[hO,rQ,hO,hO,b3 rfl];by_cases e:x=t
   .rw[b3 e,b3 e]
   .rw[bA e,bA e];by_cases aN:x=a
    .rw[b3 aN,b3 aN]
    .rw[bA aN,bA aN,bA aN]
  |false=>
   have q:=tC q;simp only;have aZ:look ((a,D)::l) s=look l s:=by rw[hO,bA (λh=>q h.symm)]
   rw[aZ,hO];by_cases e:x=a
   .subst e;rw[b3 rfl,bA (λh=>vN h.symm),bA q,hO,b3 rfl]
   .rw[bA e,ZC oD al x,hO,bA e]
section
variable{U:dO}{Z:Nat->Nat}{A:be}{H:bd}{X:aO}
def YK(oD:s≠t)(al:look A t=none)(x):look (fL (q8 s t) (uS s t A)) x=if x=t then(look A s).map (gx (q8 s t)) else if x=s then none else(look A x).map (gx (q8 s t)):=by
 rw[nQ,ZC oD al];by_cases e:x=t
 .rw[b3 e,b3 e]
 .rw[bA e,bA e];by_cases aN:x=s
  .rw[b3 aN,b3 aN];rfl
  .rw[bA aN,bA aN]
def aot{aF}(h:(look A x).map (gx g)=some (.box el z aF)):∃i6,look A x=some (.box el z i6):=by
 cases az:look A x with
 |none=>rw[az] at h;cases h
 |some D=>
  rw[az] at h;cases D with
  |box eC cI fB=>cases fB<;>(cases h;exact⟨_,rfl⟩)
  |arr=>cases h
def Lk{ab u}(h:(look A x).map (gx g)=some (.arr el z ab u)):look A x=some (.arr el z ab u):=by
 cases az:look A x with
 |none=>rw[az] at h;cases h
 |some D=>
  rw[az] at h;cases D with
  |box eC cI fB=>cases fB<;>cases h
  |arr=>cases h;rfl
def P8(oD:s≠t)(al:look A t=none):ji (q8 s t) U Z A U (lI Z t (Z s)) (fL (q8 s t) (uS s t A)):=by
 have e8:=YK (A:=A) oD al;intro e v h;cases e with
 |J t=>exact h
 |bT=>exact h
 |iy=>exact h
 |bH a aT=>
  simp only[q8];cases q:Nat.beq a t with
  |true=>simp only[cN,bp]
  |false=>
   have q:=tC q;intro el z aF K;rw[e8,bA q] at K;by_cases e:a=s
   .rw[b3 e] at K;cases K
   .rw[bA e] at K;have⟨i6,K⟩:=aot K;rw[jH q];exact h _ _ _ K
 |bQ a=>
  simp only[q8];cases q:Nat.beq a t with
  |true=>simp only[cN,bp]
  |false=>
   have q:=tC q;cases aS:Nat.beq a s with
   |true=>have aS:=cF.1 aS;subst aS;intro el z ab u K;rw[e8,b3 rfl] at K;rw[nk];exact h _ _ _ _ (Lk K)
   |false=>have aS:=tC aS;intro el z ab u K;rw[e8,bA q,bA aS] at K;rw[jH q];exact h _ _ _ _ (Lk K)
 |fF a r aT=>
  simp only[q8];cases q:Nat.beq a t with
  |true=>simp only[cN,bp]
  |false=>
   have q:=tC q;cases aS:Nat.beq a s with
   |true=>have aS:=cF.1 aS;subst aS;intro el z ab u K;rw[e8,b3 rfl] at K;rw[nk];exact h _ _ _ _ (Lk K)
   |false=>have aS:=tC aS;intro el z ab u K;rw[e8,bA q,bA aS] at K;rw[jH q];exact h _ _ _ _ (Lk K)
 |agg l=>exact h
 |fn f x y=>exact h
def ado(vD:nS A s)(oD:s≠t)(al:look A t=none)(aW:bL U Z A H):bL U (lI Z t (Z s)) (fL (q8 s t) (uS s t A)) H/\eQ X U Z A H U (lI Z t (Z s)) (fL (q8 s t) (uS s t A)) H:=by
 have e8:=YK (A:=A) oD al;have Ba:∀x D,look (fL (q8 s t) (uS s t A)) x=some D->∃y bs,look A y=some bs/\D=gx (q8 s t) bs/\lI Z t (Z s) x=Z y/\(if x=t then y=s else y=x/\x≠s):=by
  intro x D h;rw[e8] at h;by_cases e:x=t
  .rw[b3 e] at h;cases az:look A s with
   |none=>rw[az] at h;cases h
   |some bs=>rw[az] at h;cases h;exact⟨s,bs,az,rfl,by rw[e,nk],by rw[b3 e]⟩
  .rw[bA e] at h;by_cases aN:x=s
   .rw[b3 aN] at h;cases h
   .rw[bA aN] at h;cases az:look A x with
    |none=>rw[az] at h;cases h
    |some bs=>rw[az] at h;cases h;exact⟨x,bs,az,rfl,jH e,by rw[bA e];exact⟨rfl,aN⟩⟩
 refine⟨⟨aW.gf,λx D h ad=>?_,λx MV D bs h b5 ad fN e=>?_,λx D h=>?_⟩,⟨λ_ _ h _=>h,ez _,λ_ _ _ _=>rfl,λ_ _ h=>.inl h,λx D h ad=>.inr ?_⟩⟩
 .obtain⟨y,bs,B,rfl,F,_⟩:=Ba x D h;rw[lJ] at ad;rw[F];exact aW.lt y bs B ad
 .obtain⟨y,cQ,B,rfl,F,ah⟩:=Ba x D h;obtain⟨vQ,an0,so,rfl,OL,Dc⟩:=Ba MV bs b5;rw[lJ] at ad fN;rw[F,OL] at e;have:=aW.inj y vQ cQ an0 B so ad fN e;subst this;by_cases aZ:x=t<;>by_cases aN:MV=t
  .rw[aZ,aN]
  .rw[b3 aZ] at ah;rw[bA aN] at Dc;exact absurd (Dc.1.symm.trans ah) Dc.2
  .rw[bA aZ] at ah;rw[b3 aN] at Dc;exact absurd (ah.1.symm.trans Dc) ah.2
  .rw[bA aZ] at ah;rw[bA aN] at Dc;exact ah.1.symm.trans Dc.1
 .obtain⟨y,bs,B,rfl,F,_⟩:=Ba x D h;exact(aW.obj y bs B).R3 (P8 oD al) (dO.le_refl U) F λ_=>rfl
 .obtain⟨y,bs,B,rfl,F,ah⟩:=Ba x D h;rw[lJ] at ad;refine⟨y,bs,B,ad,F.symm,λaI=>?_⟩;rw[Bl];by_cases e:x=t
  .rw[b3 e] at ah;rw[ah] at B;unfold nS at vD;rw[B] at vD;cases bs with
   |box=>cases vD
   |arr=>cases aI
  .rw[bA e] at ah;rw[ah.1] at aI;exact aI
def GY(ak:∀s D,look bw s=some D->look A s=some D):ji id U Z A U Z bw:=λe v h=>by
 cases e with
 |bH s aT=>exact λel z aF K=>h _ _ _ (ak _ _ K)
 |bQ s=>exact λel z ab u K=>h _ _ _ _ (ak _ _ K)
 |fF s r aT=>exact λel z ab u K=>h _ _ _ _ (ak _ _ K)
 |_=>exact h
def Vg(ak:∀s D,look bw s=some D->look A s=some D)(aW:bL U Z A H):bL U Z bw H/\eQ X U Z A H U Z bw H:=by refine⟨⟨aW.gf,λs D h=>aW.lt s D (ak _ _ h),λs cP D bs h b5=>aW.inj s cP D bs (ak _ _ h) (ak _ _ b5),λs D h=>?_⟩,⟨λ_ _ h _=>h,ez _,λ_ _ _ _=>rfl,λ_ _ h=>.inl h,λs D h ad=>.inr ⟨s,D,ak _ _ h,ad,rfl,λh=>h⟩⟩⟩;have:=(aW.obj s D (ak _ _ h)).hZ (aq:=H) (GY ak) (dO.le_refl U) rfl λ_=>rfl;rwa [adg] at this
def Og:∀{l}{bw},oz A l=some bw->∀s D,look bw s=some D->look A s=some D
 |[],_,h,s,D,K=>by cases h;cases K
 |a::l,bw,h,s,D,K=>by
  unfold oz at h;split at h
  .rename_i cQ B;have⟨r,F,ah⟩:=i9 h;cases ah;rw[hO] at K;by_cases e:s=a
   .rw[b3 e] at K;cases K;rw[e];exact B
   .rw[bA e] at K;exact Og F s D K
  .cases h
def gp.forget:∀{l}{E},gp U Z A n E T->gp U Z A n (forget E l) T
 |[],E,h=>h
 |i::l,E,h=>by
  refine gp.forget (l:=l) ⟨h.1,by rw[DO];exact h.2.1,λM bb=>?_⟩;by_cases aH:i<E.length
  .rw[I3 _ _ _ _ aH];by_cases e:M=i
   .rw[b3 e];simp only[cd,cN,bp]
   .rw[bA e];exact h.2.2 M bb
  .have:∀(E:bG)(i:Nat)(v:a1),¬i<E.length->iT E i v=E:=by
    intro E;induction E with
    |nil=>intro i v _;rfl
    |cons a E bB=>
     intro i v aH;cases i with
     |zero=>simp at aH
     |succ i=>simp only[iT];rw[bB i v (by simpa using aH)]
   rw[this _ _ _ aH];exact h.2.2 M bb
def fl.set(h:fl U Z A l r)(ar:∀v,r[M]?=some v->cN U Z A e v):fl U Z A (iT l M e) r:=by
 induction l generalizing r M with
 |nil=>exact h
 |cons a l bB=>
  obtain⟨v,gC,rfl,g1,g2⟩:=h;cases M with
  |zero=>exact⟨v,gC,rfl,ar v rfl,g2⟩
  |succ M=>exact⟨v,gC,rfl,g1,bB g2 λw bx=>ar w (by simpa using bx)⟩
def fl.at(h:fl U Z A l r)(au:r[M]?=some v):cN U Z A (i5 l M) v:=by
 induction l generalizing r M with
 |nil=>simp only[fl] at h;subst h;cases au
 |cons a l bB=>
  obtain⟨w,gC,rfl,g1,g2⟩:=h;cases M with
  |zero=>cases au;exact g1
  |succ M=>exact bB g2 (by simpa using au)
def ZQ(br:g (.J .undef)=.J .undef):∀(l:bG)(M),i5 (l.map g) M=g (i5 l M)
 |[],M=>by simp [i5,br]
 |_::_,0=>rfl
 |_::l,M+1=>ZQ br l M
def JG:∀{l}{E:bG}{A}{Z}{r:bG×be},uU l E A=some r->bL U Z A H->gp U Z A n E T->∃bV,bL U bV r.2 H/\eQ X U Z A H U bV r.2 H/\gp U bV r.2 n r.1 T/\∀s,1000<=s->bV s=Z s
 |[],E,A,Z,r,h,aW,bR=>by cases h;exact⟨Z,aW,eQ.refl _ _ _ _,bR,λ_ _=>rfl⟩
 |a::l,E,A,Z,r,h,aW,bR=>by
  unfold uU at h;split at h
  .rename_i rb au;have rb:=cZ.1 rb;split at h
   .rename_i pS oC w9 kn;have hm:=yG (U:=U) (Z:=Z) (A:=A) (s:=a.eO) H.next (.arr a.el a.z [] true);have nM:bL U (lI Z a.eO H.next) ((a.eO,.arr a.el a.z [] true)::fL (et a.eO) (rem A a.eO)) H:=aW.put (ez _) (λ_ _=>rfl) (λh=>by cases h) (λ_ H=>λh=>by cases h);have aau:eQ X U Z A H U (lI Z a.eO H.next) ((a.eO,.arr a.el a.z [] true)::fL (et a.eO) (rem A a.eO)) H:=eQ.put aW (ez _) λ_ _=>rfl;have q5:=hm.wh bR;have vD:∀v,v=bl.nil .s->cN U (lI Z a.eO H.next) ((a.eO,.arr a.el a.z [] true)::fL (et a.eO) (rem A a.eO)) (.bQ a.eO) v:=by intro v au el z ab u K;rw[hO,b3 rfl] at K;cases K;exact au
    have lC:∃bV,bL U bV oC H/\eQ X U Z A H U bV oC H/\gp U bV oC n pS T/\∀s,1000<=s->bV s=Z s:=by
     unfold aaJ at au;unfold acm at kn;cases av:a.box with
     |false=>
      rw[av] at au kn;simp only at au kn;cases kn;refine⟨_,nM,aau,⟨q5.1,by rw[DO];exact q5.2.1,λM bb=>?_⟩,λs q=>jH Y⟩;by_cases aH:a.i<(E.map (dJ (et a.eO))).length
      .rw[I3 _ _ _ _ aH];by_cases e:M=a.i
       .rw[b3 e,e];have cb:=bR.2.2 a.i (by rw[e] at bb;exact bb);rw[au] at cb;exact(vD _ cb).px
       .rw[bA e];exact q5.2.2 M bb
      .exfalso;rw[dt] at aH;have:i5 E a.i=.J .undef:=by
        have:∀(E:bG)(i:Nat),¬i<E.length->i5 E i=.J .undef:=by
         intro E;induction E with
         |nil=>intro i _;rfl
         |cons x E bB=>
          intro i aH;cases i with
          |zero=>simp at aH
          |succ i=>exact bB i (by simpa using aH)
        exact this _ _ aH
       rw[this] at au;cases au
     |true=>
      rw[av] at au kn;simp only at au kn;split at au
      .rename_i el z kj EE;have dB:a.i≠a.eO:=λe=>by rw[e,w9] at EE;cases EE
       have j7:look ((a.eO,eS.arr a.el a.z [] true)::fL (et a.eO) (rem A a.eO)) a.i=some (.box el z (.bE (kj.map (et a.eO)))):=by rw[hO,bA dB,nQ,rQ,bA dB,EE];rfl
       rw[j7] at kn;cases kn;have sZ:=yT (fB:=.bE (iT (kj.map (et a.eO)) a.M (.bQ a.eO))) j7;refine⟨_,?_,aau.trans ?_,sZ.wh q5,λs q=>jH Y⟩
       .refine⟨nM.gf,λt D al ad=>?_,λt a6 D bs al hS ad fN e=>?_,λt D al=>?_⟩
        .rw[ss] at al;by_cases e:t=a.i
         .rw[b3 e,j7] at al;cases al;rw[e];exact nM.lt _ _ j7 rfl
         .rw[bA e] at al;exact nM.lt t D al ad
        .have Fl:∀t D,look (kr ((a.eO,eS.arr a.el a.z [] true)::fL (et a.eO) (rem A a.eO)) a.i (.box el z (.bE (iT (kj.map (et a.eO)) a.M (.bQ a.eO))))) t=some D->D.real=true->∃eL,look ((a.eO,eS.arr a.el a.z [] true)::fL (et a.eO) (rem A a.eO)) t=some eL/\eL.real=true:=by
          intro t D al ad;rw[ss] at al;by_cases e:t=a.i
          .rw[e];exact⟨_,j7,rfl⟩
          .rw[bA e] at al;exact⟨D,al,ad⟩
         have⟨N,eY,ex⟩:=Fl t D al ad;have⟨mm,RU,P1⟩:=Fl a6 bs hS fN;exact nM.inj t a6 N mm eY RU ex P1 e
        .rw[ss] at al;by_cases e:t=a.i
         .rw[b3 e,j7] at al;cases al;subst e;have⟨am,g1,g2,g3,g4,g5⟩:=nM.obj _ _ j7;refine⟨am,g1,g2,g3,by rw[DO];exact g4,sZ.qG (g5.set λv S3=>vD v ?_)⟩;have:=g5.at S3;rw[ZQ (by rfl),au] at this;exact this
         .rw[bA e] at al;exact sZ.obj (nM.obj t D al) λ_=>rfl
       .refine⟨λ_ _ h _=>h,ez _,λ_ _ _ _=>rfl,λ_ _ h=>.inl h,λt D al ad=>.inr ?_⟩;rw[ss] at al;by_cases e:t=a.i
        .rw[b3 e,j7] at al;cases al;exact⟨a.i,_,j7,rfl,by rw[e],λh=>by rw[e];exact h⟩
        .rw[bA e] at al;exact⟨t,D,al,ad,rfl,λh=>h⟩
      .cases au
    have⟨jz,gN,gj,hU,iw⟩:=lC;have⟨mx,g1,g2,g3,g4⟩:=JG h gN hU;exact⟨mx,g1,gj.trans g2,g3,λs q=>(g4 s q).trans (iw s q)⟩
   .cases h
  .rename_i s rb au;have rb:=cZ.1 rb;split at h
   .exact JG h aW bR
   .rename_i dB;have dB:=tC dB;split at h
    .rename_i BE w9;have⟨gN,gj⟩:=ado (X:=X) BE dB w9 aW;have⟨mx,g1,g2,g3,g4⟩:=JG h gN ((P8 dB w9).wh bR);exact⟨mx,g1,gj.trans g2,g3,λs q=>(g4 s q).trans (jH Y)⟩
    .cases h
    .rename_i ei BE ajR;have ck:=fx.kill (X:=X) (d:=0) (S:=⟨[],E,A⟩) aW a.eO (.inr (by show look A a.eO≠none;rw[ajR];exact λh=>by cases h));have w9:look (fL (et a.eO) (rem A a.eO)) a.eO=none:=by rw[nQ,rQ,b3 rfl];rfl
     have ajT:bL U Z (fL (et a.eO) (rem A a.eO)) H:=ck.ok;have amG:eQ X U Z A H U Z (fL (et a.eO) (rem A a.eO)) H:=ck.hZ;have amT:gp U Z (fL (et a.eO) (rem A a.eO)) n (E.map (dJ (et a.eO))) T:=ck.rq n T bR;have alk:nS (fL (et a.eO) (rem A a.eO)) s=true:=by
      unfold nS at BE ⊢;rw[nQ,rQ,bA dB];cases az:look A s with
      |none=>rw[az] at BE;cases BE
      |some D=>rw[az] at BE;cases D with
       |box=>cases BE
       |arr=>rfl
     have⟨gN,gj⟩:=ado (X:=X) alk dB w9 ajT;have⟨mx,g1,g2,g3,g4⟩:=JG h gN ((P8 dB w9).wh amT);exact⟨mx,g1,(amG.trans gj).trans g2,g3,λs q=>(g4 s q).trans (jH Y)⟩
  .cases h
def aif{C bP k}(h:norm (dq C) bP E A k)(aW:bL U Z A H)(bR:gp U Z A n E T):∃d9 bw bh bV,k d9 bw/\bL bh bV bw H/\eQ X U Z A H bh bV bw H/\gp bh bV bw n d9 T/\∀s,1000<=s->bV s=Z s:=by
 unfold norm at h;cases bP with
 |none=>exact⟨E,A,U,Z,h,aW,eQ.refl _ _ _ _,bR,λ_ _=>rfl⟩
 |some bP=>simp only at h;have aX:=fx.ft (X:=X) (d:=0) (S:=⟨[],forget E bP.c4,A⟩) aW bP.bS;have q5:=aX.rq _ _ bR.forget;generalize(c5.mk [] (forget E bP.c4) A).ft bP.bS=om at h aX q5;have⟨r,B,F⟩:=kk h;have⟨bw,ah,aE⟩:=kk F;have⟨jz,g1,g2,g3,g4⟩:=JG (X:=X) B aX.ok q5;have⟨eY,ex⟩:=Vg (X:=X) (Og ah) g1;refine⟨r.1,bw,_,jz,aE,eY,(aX.hZ.trans g2).trans ex,?_,λs q=>(g4 s q).trans (aX.aH s Y)⟩;have:=(GY (U:=hQ U Z A H bP.bS) (Z:=jz) (Og ah)).wh g3;rwa [we] at this
end
end Go.Tx
