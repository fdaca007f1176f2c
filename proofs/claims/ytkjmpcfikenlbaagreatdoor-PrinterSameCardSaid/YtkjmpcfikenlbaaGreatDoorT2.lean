/- A part. -/
import Derived.Test.YtkjmpcfikenlbaaGreatDoorT1
set_option linter.all false
namespace Go.Tx
open Go Go.Ev
section
variable{U:ek}{Z:Nat->Nat}{A:bf}{P:dK}{L:cx}{T:ca}
def aqI(c n)(k)(p3):zZ (.int c n) k p3=k c n:=rfl
variable{b q:Bool}{e kB kq x:a2}{g cs fh:gb}{op:BinOp}{u w:bp}
def N1{a z Q u v}(h:yH a z Q u v):(Q=[]/\v=.nil .s)\/∃c,v=.slice a 0 Q.length c u z:=by
 cases Q with
 |nil=>cases u with
  |true=>exact .inl ⟨rfl,h⟩|false=>exact .inr ⟨_,h⟩
 |cons r Q=>cases u<;>exact .inr ⟨_,h⟩
def ak0{t}(h:Iq P t A x=some e)(M:co U Z A x (g.g L T)):k7 ((Cy P t g).f L T) λv=>co U Z A e v:=by
 have⟨g⟩:=g;simp at M;unfold Iq at h;unfold Cy;split at h
 .rename_i hu;simp[hu];have⟨s,D,h⟩:=it h;cases h;have⟨n,aP,a3⟩:=G7 D M;exact⟨.int 3 s.length,λk=>by simp_all,by simp[co,dE,bR]⟩
 .rename_i ak hu;simp[hu];cases x with
  |bx=>cases h;simp[co,dE]at M;exact⟨.int 3 0,λk=>by simp_all,by simp[co,dE,bR]⟩
  |J a6=>
   simp only at h;obtain⟨q,rfl⟩:=hC h;rw[co.J,Fu q]at M;simp only[bR]at M;refine⟨.int 3 (jJ a6).length,λk=>?_,by simp[co,dE,bR]⟩;rcases M with⟨M,D|⟨_,a,i,c,u,z,D⟩⟩|⟨a,i,c,u,z,ax,n,e8,fY,ee,D,_⟩
   all_goals simp_all
  |bD s=>
   simp at h;split at h
   .rename_i e8 z Q u Y;cases h;refine⟨.int 3 Q.length,λk=>?_,by simp[co,dE,bR]⟩;rcases N1 (M _ _ _ _ Y)with⟨D,F⟩|⟨c,F⟩
    all_goals simp_all
   grind
  |_=>cases h
 grind
def afK{i}(h:I3 x i=some e)(M:co U Z A x (g.g L T)):k7 ((KS g i).f L T) λv=>co U Z A e v:=by
 unfold I3 at h;unfold KS;cases x with
 |J t=>obtain⟨q,rfl⟩:=hC h;have⟨aP,q⟩:=ama q;rw[aP]at M;have⟨aK,D,F⟩:=M;have⟨v,aj,an⟩:=F.nth i q;exact⟨v,λk=>by simp[D];exact OX aj k,an⟩
 |_=>cases h
def akj{c a b Yy Pt UO}(h:Od c a b=some e)(aQ:co U Z A c Yy)(aC:co U Z A a Pt)(aB:co U Z A b UO):k7 (λk=>ni Yy λv=>bd v (k Pt) (k UO)) λv=>co U Z A e v:=by
 have⟨mL,D,h⟩:=it h;have aev:=Fj D aQ;subst aev;split at h
 .rename_i x y M aE;cases h;have w5:=Fj M aC;have JB:=Fj aE aB;subst w5 JB;cases mL with
  |true=>exact⟨.bool x,λk=>rfl,by simp[co,dE,bR]⟩
  |false=>exact⟨.bool y,λk=>rfl,by simp[co,dE,bR]⟩
 .cases mL with
  |true=>cases h;exact⟨Pt,λk=>rfl,aC⟩
  |false=>cases h;exact⟨UO,λk=>rfl,aB⟩
def XS{x y}(h:NR b x y=some q)(M:bR U x u)(aE:bR U y w)(k:Bool->Bool):zU b u w k=k q:=by
 unfold NR at h;split at h
 .cases h;obtain⟨n,rfl,aP⟩:=M;obtain⟨cI,rfl,a3⟩:=aE;rename_i s dx;have heq:uD s.length n dx.length cI=iA s dx:=by rw[Bool.eq_iff_iff,NV,aP,a3];unfold iA;grind
  show k (uD _ _ _ _)=_;rw[heq]
 .cases h;subst M aE;rfl
 grind
def Xx{y}(h:Mq b x y=some q)(M:co U Z A x u)(aE:co U Z A y w)(k:Bool->Bool):vp b u w k=k q:=by
 unfold Mq at h;split at h
 .obtain⟨q,r,D,F,aq⟩:=qW h;cases aq;obtain⟨l,rfl,M⟩:=M;obtain⟨aK,rfl,aE⟩:=aE;obtain⟨EK,_,rfl,nF,M⟩:=M.inv;obtain⟨rv,_,rfl,fc,M⟩:=M.inv;subst M;obtain⟨Ja,_,rfl,Uq,aE⟩:=aE.inv;obtain⟨v1,_,rfl,kx,aE⟩:=aE.inv;subst aE
  show (zU true EK Ja λq=>zU b rv v1 λr=>k (bd q r false))=_;rw[XS D nF Uq,XS F fc kx];cases q<;>rfl
 grind
def apR{B}(h:Lr B op kB kq=some e)(M:co U Z A kB (cs.g L T))(aE:co U Z A kq (fh.g L T)):k7 ((DL B op cs fh).f L T) λv=>co U Z A e v:=by
 obtain⟨b,fg,br⟩:=it h;clear h;have h:=br;subst fg;split at h
 .obtain⟨pN,D,h⟩:=it h;cases h;obtain⟨q,F,h⟩:=it D;cases h;refine⟨.bool q,λk=>?_,by simp[co,dE,bR]⟩
  show vp b _ _ _=_;rw[Xx F M aE];simp_all
 .obtain⟨pN,D,h⟩:=it h;cases h;obtain⟨q,F,h⟩:=it D;cases h;refine⟨.bool (!q),λk=>?_,by simp[co,dE,bR]⟩
  show vp b _ _ _=_;rw[Xx F M aE];cases q<;>rfl
 grind
def amW{x y}{t}(h:rp P A op t x y kB kq=some e)(M:co U Z A kB (cs.g L T))(aE:co U Z A kq (fh.g L T)):k7 ((CR P op t x y cs fh).f L T) λv=>co U Z A e v:=by
 have nil:∀c:oK,J9 A op c x y kB kq=some e->k7 ((vA op c x y cs fh).f L T) λv=>co U Z A e v:=by
  intro c h;unfold J9 at h;unfold vA;cases bC:Aw c x<;>cases aX:Aw c y<;>rw[bC,aX]at h<;>cases op<;>simp only at h<;>try(cases h;done)
  all_goals
   have⟨b,D,h⟩:=it h
   cases h
   first
    |exact⟨_,N8 D M true cs L T rfl,by simp only[co,dE,bR]⟩
    |exact⟨_,N8 D aE true fh L T rfl,by simp[co,dE,bR]⟩
    |exact⟨_,N8 D M false cs L T rfl,by simp only[co,dE,bR]⟩
    |exact⟨_,N8 D aE false fh L T rfl,by simp[co,dE,bR]⟩
 unfold rp at h;unfold CR;split at h
 .rename_i bn hu;simp[hu];have⟨cs⟩:=cs;have⟨fh⟩:=fh;simp at M aE;have sg:∀pN,dp (rs (cv bn) kB) (rs (cv bn) kq) (yn op (cv bn))=some pN->op≠.shl->op≠.shr->k7 ((vZ op (cv bn) ⟨cs⟩ ⟨fh⟩).f L T) λv=>bR U pN v:=by
   intro pN h c4 cl;have⟨a,b,D,F,aq⟩:=qW h;have⟨v,aj,an⟩:=aps (U:=U) aq;have w5:=ye D M;have JB:=ye F aE;refine⟨v,λk=>?_,an⟩;rw[<-aj k];unfold vZ;cases op<;>first|exact absurd rfl c4|exact absurd rfl cl|skip
   all_goals
    simp only[JF]
    generalize nn _ (cv bn) (cF (cv bn)) (eK (cv bn))=acl
    have⟨acl⟩:=acl
    simp only[w5,JB]
    simp only[aka,aqI,kN,iG]
  split at h
  .have⟨pN,D,h⟩:=it h;cases h;have⟨a,b,s8,F,aq⟩:=qW D;clear D;have D:=s8;obtain⟨q,rfl⟩:=hC aq;have⟨c,zB⟩:=ZE F;have w5:=ye D M;rw[zB]at aE;simp[co,dE,bR]at aE;refine⟨.int (cv bn) ((a*2 ^ b) % cF (cv bn)),λk=>?_,by simp[co,dE,bR]⟩;unfold vZ;simp[w5,aE,q];rfl
  .have⟨pN,D,h⟩:=it h;cases h;have⟨a,b,s8,F,aq⟩:=qW D;clear D;have D:=s8;obtain⟨q,rfl⟩:=hC aq;simp only[ig]at q;have⟨c,zB⟩:=ZE F;have w5:=ye D M;rw[zB]at aE;simp[co,dE,bR]at aE;refine⟨.int (cv bn) (a / 2 ^ b),λk=>?_,by simp[co,dE,bR]⟩;unfold vZ;simp[w5,aE,q.1,q.2];rfl
  .rename_i c4 cl;have⟨pN,D,h⟩:=it h;cases h;exact sg pN D (λe=>c4 e) (λe=>cl e)
 .rename_i hu;simp[hu];have⟨pN,D,h⟩:=it h;cases h;have⟨a,b,D,F,aq⟩:=qW D;rw[Qv D]at M;rw[Qv F]at aE;exact ai9 aq M aE
 .rename_i hu;simp[hu];have⟨pN,D,h⟩:=it h;cases h;have⟨a,b,D,F,aq⟩:=qW D;exact aqP aq (Fj D M) (Fj F aE)
 .simp_all
 .simp_all
 .simp_all
 .rename_i hu;simp[hu];exact apR h M aE
 grind
def alg{op}(h:JR op x=some e)(M:co U Z A x (g.g L T)):k7 ((Fr op g).f L T) λv=>co U Z A e v:=by
 have⟨g⟩:=g;simp at M;unfold JR at h;unfold Fr;cases op with
 |not=>have⟨b,D,h⟩:=it h;cases h;have aP:=Fj D M;exact⟨.bool (!b),λk=>by simp[aP];cases b<;>rfl,by simp[co,dE,bR]⟩
 |neg=>
  simp at h ⊢;split at h
  .rename_i c n;cases h;simp[co,dE,bR]at M;exact⟨.int c ((cF c - n) % cF c),λk=>by simp[M];rfl,by simp[co,dE,bR]⟩
  grind
 |_=>cases h
def arK{s d}(h:EY P s d x=some e)(M:co U Z A x (g.g L T)):k7 ((Cf P s d g).f L T) λv=>co U Z A e v:=by
 have⟨g⟩:=g;simp at M;unfold EY at h;unfold Cf;split at h
 .rename_i k df ap aY;simp[ap,aY];have⟨n,D,h⟩:=it h;have aP:=ye D M;cases q:Nat.ble (cF (cv df)) (cF (cv k))with
  |true=>rw[q]at h;cases h;exact⟨.int (cv df) (n % cF (cv df)),λk=>by simp[aP];rfl,by simp[co,dE,bR]⟩
  |false=>rw[q]at h;obtain⟨aX,rfl⟩:=hC h;exact⟨.int (cv df) n,λk=>by simp[aP];show bd (Nat.beq _ _) (bd (Nat.blt n _) _ _) _=_;rw[kN rfl,iG,aX,iG],by simp[co,dE,bR]⟩
 .rename_i ap aY;simp only[ap,aY];have⟨s,D,h⟩:=it h;cases h;have⟨n,aP,a3⟩:=G7 D M;refine⟨.str s.length n,λk=>by simp_all,?_⟩;show bR U (.str s) _;simp_all[bR]
 grind
end
section
variable{U:ek}{Z:Nat->Nat}{A:bf}{P:dK}{L:cx}{T:ca}
def tX(U:ek)(Z:Nat->Nat)(A:bf)(L:cx)(T:ca):List (Nat×a2)->List (Nat×gb)->Prop
 |[],l=>l=[]|(i,e)::c7,l=>∃g aK,l=(i,g)::aK/\co U Z A e (g.g L T)/\tX U Z A L T c7 aK
def tX.fst:∀{c7}{l},tX U Z A L T c7 l->l.map Prod.fst=c7.map Prod.fst
 |[],_,h=>by simp only[tX]at h;subst h;rfl
 |(i,e)::c7,_,h=>by obtain⟨g,aK,rfl,_,h⟩:=h;simp[h.fst]
def tX.all{p:Nat->Bool}{c7}{l}(h:tX U Z A L T c7 l):l.all (λq=>p q.1)=c7.all (λq=>p q.1):=by
 have:=h.fst;have aP:l.all (λq=>p q.1)=(l.map Prod.fst).all p:=by grind
 grind
def tX.part:∀{c7}{l}(i),tX U Z A L T c7 l->(zD i c7=none/\partOf i l=none)\/∃e g,zD i c7=some e/\partOf i l=some g/\co U Z A e (g.g L T)
 |[],_,i,h=>by subst h;exact .inl ⟨rfl,rfl⟩
 |(j,e)::c7,_,i,h=>by
  obtain⟨g,aK,rfl,D,F⟩:=h;rcases F.part i with⟨a,b⟩|⟨b7,lx,a,b,c⟩
  .grind[zD,partOf]
  simp_all[zD,partOf]
def YG:∀(a)(r)(l),(∀k,r.f L T k=k l)->∀k,(FJ a r).f L T k=k (a++l)
 |[],r,l,h,k=>h k
 |x::a,r,l,h,k=>by unfold FJ;have bQ:=YG a r l h;simp_all
variable{S:c8}{ah:dM}{e:a2}{es:aO}
def Ro{c7 l}(bq:tX U Z A L T c7 l):∀(cK)(i)(z)(c:bK),ui P A c7 i cK (z.map pA)=some c->∃(r:Dw)(q:cx),uv P l i cK z=some r/\(∀k,r.f L T k=k q)/\gc U Z A c q
 |[],i,[],c,h=>by simp[ui]at h;subst h;exact⟨_,[],rfl,λk=>rfl,rfl⟩
 |[],i,a::z,c,h=>by simp[ui]at h
 |fd::cK,i,z,c,h=>by
  unfold ui at h;unfold uv;cases ap:fy P fd.type with
  |none=>simp_all
  |some s=>
   rw[ap]at h;simp only[ex]at h ⊢;cases cA:Nat.ble s z.length with
   |false=>simp_all
   |true=>
    rw[cA]at h;rcases bq.part i with⟨a,b⟩|⟨e,g,a,b,aQ⟩
    .rw[a]at h;have⟨q,D,h⟩:=it h;cases h;rw[<-List.map_drop]at D;have⟨r,eP,aj,an,aM⟩:=Ro bq cK (i+1) (z.drop s) q D;rw[aj,b];refine⟨_,z.take s++eP,rfl,YG _ _ _ an,?_⟩;rw[<-List.map_take];exact(Ny _).append aM
    .rw[a]at h;have⟨DX,q,br,D,h⟩:=qW h;cases h;rw[<-List.map_drop]at D;have⟨r,eP,aj,an,aM⟩:=Ro bq cK (i+1) (z.drop s) q D;rw[aj,b];have⟨r⟩:=r;have⟨g⟩:=g;simp only at aQ an ⊢;have⟨ou,en,gI,l3⟩:=IM br aQ;refine⟨_,ou++eP,rfl,λk=>?_,gI.append aM⟩;show kD (g L T) s (λc=>r L T λq=>nL c q k)=_;rw[en,an,q8]
def alS{t }{c7 }{l }{e }(h : Km P A t c7 = some e)(bq : tX U Z A L T c7 l) : k7 ((C7 P t l).f L T) λv => co U Z A e v := by
  unfold Km at h
  unfold C7
  split at h
  · rename_i cK hu
    simp only [hu]
    rw [bq.fst, bq.all (p := λn => Nat.blt n cK.toList.length)]
    cases cA : p6 P t with
    | none => simp_all
    | some z =>
      rw [cA]at h
      cases q : (CE P 0 cK.toList && lw (c7.map Prod.fst) && c7.all λp => Nat.blt p.1 cK.toList.length)with
      | false => grind
      | true =>
        rw [q]at h
        cases z <;> simp only at h ⊢ <;> try (cases h; done)
        rename_i n QI
        obtain⟨c, D, h⟩ := it h
        cases h
        obtain⟨r, eP, aj, an, aM⟩ := Ro bq cK.toList 0 QI c D
        simp only [aj]
        obtain⟨r⟩ := r
        have aD : n = QI.length := by
          unfold p6 at cA
          split at cA
          · exact ach cA
          grind
        have Y : c.length = QI.length := by
          have dv : ∀ (cK : List Field)(i : Nat)(z :bK)(c :bK), ui P A c7 i cK z = some c → c.length = z.length := by
            intro cK
            induction cK with
            | nil => intro i z c h; cases z <;> simp[ui]at h; simp_all
            | cons fd cK bQ =>
              intro i z c h
              unfold ui at h
              cases ap : fy P fd.type with
              | none => simp_all
              | some s =>
                rw [ap]at h
                simp at h
                cases cA : Nat.ble s z.length with
                | false => simp_all
                | true =>
                  rw [cA]at h
                  have cA := dT.1 cA
                  cases v4 : zD i c7 with
                  | none =>
                    rw [v4]at h
                    simp only at h
                    obtain⟨q, D, h⟩ := it h
                    grind
                  | some e =>
                    rw [v4]at h
                    simp only at h
                    obtain⟨DX, q, br, D, h⟩ := qW h
                    cases h
                    have := bQ _ _ _ D
                    have at1 : DX.length = s := by
                      unfold nS at br
                      split at br <;> first
                        | (obtain⟨q, rfl⟩ := hC br
                           first
                             | exact Cw q
                             | rfl
                             | (rw [ex, MM]))
                        | grind
                    simp_all
          grind
        refine ⟨.agg n eP, λk => an λl => k (.agg n l), eP, ?_, aM⟩
        simp_all
  grind
def P4(cB:f9 U Z S.A S.L L)(bY:gR U Z S.A es.length S.E T):∀l,tX U Z S.A L T (rg es ah S l) (qv es ah l)
 |[]=>rfl|(i,x)::l=>⟨_,_,rfl,lf cB bY x,P4 cB bY l⟩
def RN{es ah}:∀(l),(qh es ah l).g L T=l.map λx=>(eF es ah x).g L T
 |[]=>rfl
 |x::l=>by have bQ:=RN (es:=es) (ah:=ah) l;unfold qh;simp_all
def arZ{v}(h:NB A e)(aI:co U Z A e v)(k):C4 v k=k:=by
 cases e with
 |J t=>
  simp[NB]at h;rcases h with h|h
  .rw[H2 h]at aI;obtain⟨_,_,_,_,_,_,_,_,rfl,_⟩:=aI;rfl
  .cases t<;>try(cases h;done)
   obtain⟨_,_,rfl,_⟩:=aI;rfl
 |bN s aR=>have⟨ak,z,aJ,aP⟩:=F3 h;rw[aI _ _ _ aP];rfl|fU s r aR=>have⟨ak,z,Q,u,aP⟩:=BD h;rw[aI _ _ _ _ aP];rfl
 |fn f b5 cV=>obtain⟨_,_,rfl,_⟩:=aI;rfl
 |_=>cases h
def ak1(bS)(g)(n)(e:g.g L T=.int 3 n):∃c,o7 bS [g]=some c/\∀k,c.f L T k=k (.int 3 n):=by have⟨g⟩:=g;simp only at e;refine⟨_,rfl,λk=>?_⟩;simp_all
def anT(bS:Bool)(g:cx->ca->bp)(lx:gb)(l:List gb):o7 bS (⟨g⟩::lx::l)=match o7 bS (lx::l),bS with
 |some ⟨r⟩,true=>some ⟨λL T k=>gN (g L T) λc n=>bd (Nat.beq c 3) (r L T λv=>gN v λ_ m=>bd (py n m) (k (.int 3 m)) (k (.int 3 n))) false⟩|some ⟨r⟩,false=>some ⟨λL T k=>gN (g L T) λc n=>bd (Nat.beq c 3) (r L T λv=>gN v λ_ m=>bd (py m n) (k (.int 3 m)) (k (.int 3 n))) false⟩
 |none,_=>none:=by
 rfl
def adT(q)(x y)(k:bp->Bool):bd q (k (.int 3 x)) (k (.int 3 y))=k (.int 3 (IV q x y)):=by cases q<;>rfl
def abK(g:cx->ca->bp)(c:cx->ca->(bp->Bool)->Bool)(a b)(e:g L T=.int 3 a)(an:∀k,c L T k=k (.int 3 b))(k:bp->Bool)(j:Nat->Nat->Bool):(gN (g L T) λfF n=>bd (Nat.beq fF 3) (c L T λv=>gN v λ_ m=>j n m) false)=j a b:=by simp_all
def alb(bS)(g lx)(l)(a b)(e:g.g L T=.int 3 a)(c)(aj:o7 bS (lx::l)=some c)(an:∀k,c.f L T k=k (.int 3 b)):∃c,o7 bS (g::lx::l)=some c/\∀k,c.f L T k=k (.int 3 (LR bS a b)):=by
 have⟨g⟩:=g;have⟨c⟩:=c;rw[anT,aj];cases bS with
 |true=>
  exact⟨⟨λL T k=>gN (g L T) λfF n=>bd (Nat.beq fF 3) (c L T λv=>gN v λ_ m=>bd (py n m) (k (.int 3 m)) (k (.int 3 n))) false⟩,rfl,
   λk=>(abK g c a b e an k λn m=>bd (py n m) (k (.int 3 m)) (k (.int 3 n))).trans (adT _ _ _ _)⟩
 |false=>
  exact⟨⟨λL T k=>gN (g L T) λfF n=>bd (Nat.beq fF 3) (c L T λv=>gN v λ_ m=>bd (py m n) (k (.int 3 m)) (k (.int 3 n))) false⟩,rfl,
   λk=>(abK g c a b e an k λn m=>bd (py m n) (k (.int 3 m)) (k (.int 3 n))).trans (adT _ _ _ _)⟩
def Q2{ah}(cB:f9 U Z S.A S.L L)(bY:gR U Z S.A es.length S.E T)(bS):∀(l:List Operand)(n),EL bS (l.map (ey es ah S))=some n->∃c,o7 bS (l.map (eF es ah))=some c/\∀k,c.f L T k=k (.int 3 n)
 |[],n,h=>by simp[EL]at h
 |[x],n,h=>by exact ak1 bS _ _ (ye h (lf cB bY x))
 |x::y::l,n,h=>by have⟨a,b,D,F,h⟩:=qW h;have⟨c,aj,an⟩:=Q2 cB bY bS (y::l) b F;rw[<-E2 h];exact alb bS (eF es ah x) (eF es ah y) (l.map (eF es ah)) a b (ye D (lf (ah:=ah) cB bY x)) c aj an
def co.eU{es l}(h:gc U Z A es l):f9 U Z A es l:=by
 induction es generalizing l with
 |nil=>exact h
 |cons e es bQ=>obtain⟨v,aK,rfl,D,F⟩:=h;exact⟨v,aK,rfl,D.aA,bQ F⟩
def QA{f g}:∀(l:List Operand),(∀x∈l,co U Z A (f x) (g x))->l.all (λx=>atom (f x))->gc U Z A (l.map f) (l.map g)
 |[],_,_=>rfl
 |x::l,h,aC=>by simp only[IW,ig]at aC;have D:=h x (by simp);refine⟨_,_,rfl,?_,QA l (λy aE=>h y (by grind)) aC.2⟩;generalize f x=e at D aC;cases e<;>first|exact D|exact absurd aC.1 Se
def ack{op}(cB:f9 U Z S.A S.L L)(bY:gR U Z S.A es.length S.E T)(h:vx P es ah S op=some e):k7 ((v3 P es ah op).f L T) λv=>co U Z S.A e v:=by
 have G:=λx=>lf (ah:=ah) cB bY x;unfold vx at h;unfold v3;split at h
 .cases h;rename_i x;have:=G x;simp;generalize eF es ah x=g at this ⊢;have⟨g⟩:=g;exact⟨g L T,λk=>rfl,this⟩
 .cases h;rename_i x;have:=G x;simp;generalize eF es ah x=g at this ⊢;have⟨g⟩:=g;exact⟨g L T,λk=>rfl,this⟩
 .rename_i c a b;have D:=G c;have F:=G a;have aq:=G b;exact akj h D F aq
 .exact alS h (P4 cB bY _)
 .rename_i x;obtain⟨q,rfl⟩:=hC h;have D:=G x;exact⟨_,λk=>arZ q D _,D⟩
 .exact amW h (G _) (G _)
 .exact alg h (G _)
 .exact arK h (G _)
 .rename_i f b5 cV;obtain⟨q,rfl⟩:=hC h;simp only[ig]at q;have aP:=RN (es:=es) (ah:=ah) (L:=L) (T:=T) b5.toList;have a3:=RN (es:=es) (ah:=ah) (L:=L) (T:=T) cV.toList;simp only;generalize qh es ah b5.toList=cs at aP ⊢;generalize qh es ah cV.toList=fh at a3 ⊢;have⟨cs⟩:=cs;have⟨fh⟩:=fh;simp only at aP a3 ⊢;refine⟨_,λk=>rfl,cs L T,fh L T,rfl,?_,?_⟩
  .simp_all[QA]
  simp_all[QA]
 .exact ahy h (G _) (λi aN=>aeF rfl cB bY aN) (λd j bl=>aeF rfl cB bY bl)
 .exact ahV h (G _)
 .exact ahq h (G _)
 .exact agA h (G _) (G _)
 .exact ajv h (G _) (G _)
 .exact afK h (G _)
 .split at h
  .rename_i D F aq;simp[D,F,aq];exact ak0 h (G _)
  .rename_i D;have⟨n,F,h⟩:=it h;cases h;have⟨r,aj,an⟩:=Q2 cB bY true _ _ F;simp[D,aj];exact⟨_,an,by simp[co,dE,bR]⟩
  .rename_i D;have⟨n,F,h⟩:=it h;cases h;have⟨r,aj,an⟩:=Q2 cB bY false _ _ F;simp[D,aj];exact⟨_,an,by simp[co,dE,bR]⟩
  grind
 grind
end
def jV(f:a2->a2)(U:ek)(Z:Nat->Nat)(A:bf)(bm:ek)(b2:Nat->Nat)(bE:bf):Prop:=∀e v,dE U Z A e v->dE bm b2 bE (f e) v
section
variable{f:a2->a2}{U bm:ek}{Z b2:Nat->Nat}{A bE:bf}
def jV.eU(h:jV f U Z A bm b2 bE):∀{l}{aK},gc U Z A l aK->gc bm b2 bE (l.map f) aK
 |[],_,g=>g
 |e::l,_,g=>by obtain⟨v,aK,rfl,aj,an⟩:=g;exact⟨v,aK,rfl,h _ _ aj,h.eU an⟩
def jV.aA(h:jV f U Z A bm b2 bE):∀{e}{v},co U Z A e v->co bm b2 bE (dF f e) v
 |.agg l,_,⟨aK,e,g⟩=>⟨aK,by simp_all,h.eU g⟩
 |.fn g b5 cV,_,⟨dw,cQ,e,aj,an⟩=>⟨dw,cQ,e,h.eU aj,h.eU an⟩|.J t,v,g=>(h (.J t) v g).aA|.bx,v,g=>(h (.bx) v g).aA|.i4,v,g=>(h .i4 v g).aA|.bN s B,v,g=>(h (.bN s B) v g).aA|.bD s,v,g=>(h (.bD s) v g).aA|.fU s r B,v,g=>(h (.fU s r B) v g).aA
def jV.lC(h:jV f U Z A bm b2 bE):∀{l}{aK},f9 U Z A l aK->f9 bm b2 bE (l.map (dF f)) aK
 |[],_,g=>g
 |e::l,_,g=>by obtain⟨v,aK,rfl,aj,an⟩:=g;exact⟨v,aK,rfl,h.aA aj,h.lC an⟩
def abr(g):∀(l:bK)(i),i<l.length->jv (l.map g) i=g (jv l i)
 |[],_,h=>by grind
 |_::_,0,_=>rfl
 |_::l,i+1,h=>abr g l i (by simp_all)
def jV.xg{n E T}(h:jV f U Z A bm b2 bE)(g:gR U Z A n E T):gR bm b2 bE n (E.map (dF f)) T:=by refine⟨g.1,by rw[ex];exact g.2.1,λi aN=>?_⟩;rw[abr _ _ _ (by rw[g.2.1];grind)];exact h.aA (g.2.2 i aN)
def jV.row(h:jV f U Z A bm b2 bE)(hle:U.le bm){z:Nat}{aJ:uq}{r:cx}(g:nG U Z A z aJ r):nG bm b2 bE z (match aJ with|.cb l=>.cb l|.bS l=>.bS (l.map f)) r:=by
 cases aJ with
 |cb l=>exact⟨g.1,g.2.mono hle⟩
 |bS l=>exact⟨by rw[ex];exact g.1,h.eU g.2⟩
end
variable{H az:bg}{a ak n aR r s z:Nat}{e:a2}{B:fB}{ee u:Bool}{Q gw:g4}{ax:Ev.Rows}{A:bf}{v:bp}{U:ek}{Z:Nat->Nat}
def c5.zW{t v hY}(h:U.le hY)(g:c5 U t v):c5 hY t v:=c5.mono h t v g
def nB(f):∀(A)(s),look (gh f A) s=(look A s).map (g8 f)
 |[],s=>rfl
 |(t,B)::l,s=>by
  simp[gh,look];cases Nat.beq t s
  .exact nB f l s
  .rfl
def rU:∀(A)(t s),look (rem A t) s=if s=t then none else look A s
 |[],t,s=>by simp[rem,look]
 |(a,B)::l,t,s=>by
  simp[rem];cases h:Nat.beq a t with
  |true=>
   have h:=dA.1 h;subst h;rw[rU l a s];by_cases e:s=a
   .grind
   .have:Nat.beq a s=false:=u1 (λh=>e h.symm);simp[look,this]
  |false=>
   simp[look];cases F:Nat.beq a s with
   |true=>grind|false=>exact rU l t s
def iC(a)(B)(l:bf)(s):look ((a,B)::l) s=if s=a then some B else look l s:=by
 simp[look];by_cases e:s=a
 .simp_all
 .rw[u1 (λh=>e h.symm),cO e]
def sH:∀(A)(t s)(B),look (kO A t B) s=if s=t then(look A t).map (λ_=>B)else look A s
 |[],t,s,B=>by simp[kO,look]
 |(a,bH)::l,t,s,B=>by
  simp[kO];cases h:Nat.beq a t with
  |true=>
   simp_all[iC]
  |false=>
   rw[iC,iC,iC,sH l t s B];by_cases e:s=a
   .subst e;rw[ev rfl,cO]
    .simp_all
    .intro e;simp_all
   grind
def mi(f)(B):(g8 f B).real=B.real:=by
 cases B with
 |box ak z aJ=>cases aJ<;>rfl
 |bF ak z Q u=>rfl
def Tn:jV (e1 s) U Z A U Z (gh (e1 s) (rem A s)):=by
 have fR:∀t,t≠s->look (gh (e1 s) (rem A s)) t=(look A t).map (g8 (e1 s)):=λt au=>by simp_all[nB,rU]
 intro e v h;cases e with
 |J t=>exact h|bx=>exact h|i4=>exact h
 |bN t aR=>
  simp[e1];cases q:Nat.beq t s with
  |true=>simp[dE,bR]
  |false=>
   have ed:t≠s:=λe=>by simp_all
   intro ak z aJ Y;rw[fR t ed]at Y;cases ar:look A t with
   |none=>simp_all
   |some B=>
    rw[ar]at Y;cases B with
    |box e8 cJ gj=>cases gj<;>(cases Y;exact h _ _ _ ar)
    |bF=>cases Y
 |bD t=>
  simp[e1];cases q:Nat.beq t s with
  |true=>simp[dE,bR]
  |false=>
   have ed:t≠s:=λe=>by simp_all
   intro ak z Q u Y;rw[fR t ed]at Y;cases ar:look A t with
   |none=>simp_all
   |some B=>
    rw[ar]at Y;cases B with
    |box e8 cJ gj=>cases gj<;>cases Y
    |bF=>cases Y;exact h _ _ _ _ ar
 |fU t r aR=>
  simp[e1];cases q:Nat.beq t s with
  |true=>simp[dE,bR]
  |false=>
   have ed:t≠s:=λe=>by simp_all
   intro ak z Q u Y;rw[fR t ed]at Y;cases ar:look A t with
   |none=>simp_all
   |some B=>
    rw[ar]at Y;cases B with
    |box e8 cJ gj=>cases gj<;>cases Y
    |bF=>cases Y;exact h _ _ _ _ ar
 |agg l=>exact h|fn f x y=>exact h
def b0.kill(h:b0 U Z A H)(s):b0 U Z (gh (e1 s) (rem A s)) H:=by
 have fR:∀t B,look (gh (e1 s) (rem A s)) t=some B->∃bH,look A t=some bH/\B=g8 (e1 s) bH:=λt B au=>by
  rw[nB,rU]at au;by_cases e:t=s
  .simp_all
  .rw[cO e]at au;cases ar:look A t<;>simp_all
 refine⟨h.e6,λt B au ag=>?_,λt a6 B bH au iL ag f7 e=>?_,λt B au=>?_⟩
 .obtain⟨bH,D,rfl⟩:=fR t B au;rw[mi]at ag;exact h.lt t bH D ag
 .obtain⟨cL,D,rfl⟩:=fR t B au;obtain⟨dP,F,rfl⟩:=fR a6 bH iL;rw[mi]at ag f7;exact h.inj t a6 cL dP D F ag f7 e
 .obtain⟨bH,D,rfl⟩:=fR t B au;have:=h.obj t bH D;cases bH with
  |box ak z aJ=>
   have⟨ax,aj,an,aM,bs⟩:=this;have cp:=Tn (s:=s)|>.row (ek.le_refl U) bs;cases aJ with
   |cb l=>exact⟨ax,aj,an,aM,cp⟩|bS l=>exact⟨ax,aj,an,aM,cp⟩
  |bF ak z Q u=>exact this
def mc(Z:Nat->Nat)(s a:Nat):Nat->Nat:=λt=>match Nat.beq t s with
 |true=>a|false=>Z t
def m2(Z)(s a):mc Z s a s=a:=by simp[mc]
def j6{t}(h:t≠s):mc Z s a t=Z t:=by simp[mc,u1 h]
def tu{t s:Nat}(q:Nat.beq t s=false):t≠s:=λe=>by simp_all
def yB(a)(B):jV (e1 s) U Z A U (mc Z s a) ((s,B)::gh (e1 s) (rem A s)):=by
 intro e v h;have br:=Tn (s:=s) e v h;cases e with
 |bN t aR=>
  simp[e1]at br ⊢;cases q:Nat.beq t s with
  |true=>simp[dE,bR]|false=>rw[q]at br;have ed:=tu q;intro ak z aJ Y;rw[iC,cO ed]at Y;rw[j6 ed];exact br _ _ _ Y
 |bD t=>
  simp[e1]at br ⊢;cases q:Nat.beq t s with
  |true=>simp[dE,bR]|false=>rw[q]at br;have ed:=tu q;intro ak z Q u Y;rw[iC,cO ed]at Y;rw[j6 ed];exact br _ _ _ _ Y
 |fU t r aR=>
  simp[e1]at br ⊢;cases q:Nat.beq t s with
  |true=>simp[dE,bR]|false=>rw[q]at br;have ed:=tu q;intro ak z Q u Y;rw[iC,cO ed]at Y;rw[j6 ed];exact br _ _ _ _ Y
 |J t=>exact h|bx=>exact h|i4=>exact h|agg l=>exact h|fn f x y=>exact h
def nX.iB{f bm b2 bE}(h:nX U Z A H s B)(a1:jV f U Z A bm b2 bE)(hle:U.le bm)(aN:b2 s=Z s)(bI:B.real->az.get (Z s)=H.get (Z s)):nX bm b2 bE az s (g8 f B):=by
 cases B with
 |box ak z aJ=>
  have⟨ax,aj,an,aM,bs⟩:=h;have cp:=a1.row hle bs;have dj:az.get (b2 s)=.cells ax 1 z ak false false:=by rw[aN,bI rfl];grind
  cases aJ with
  |cb l=>exact⟨ax,dj,an,aM,cp⟩|bS l=>exact⟨ax,dj,an,aM,cp⟩
 |bF ak z Q u=>intro ag;have⟨ax,aj,an,aM,bs⟩:=h ag;exact⟨ax,by simp_all,an,aM,gY.mono hle _ _ _ _ bs⟩
def b0.put(h:b0 U Z A H)(aD:H.next<=az.next)(bI:∀a,a<H.next->az.get a=H.get a)(aV:B.real->H.next<az.next/\nX U (mc Z s H.next) ((s,B)::gh (e1 s) (rem A s)) az s B)(aI:B.real=false->∀H,nX U (mc Z s 0) [] H s B):b0 U (mc Z s H.next) ((s,B)::gh (e1 s) (rem A s)) az:=by
 have fR:∀t bH,look ((s,B)::gh (e1 s) (rem A s)) t=some bH->(t=s/\bH=B)\/(t≠s/\∃cL,look A t=some cL/\bH=g8 (e1 s) cL):=λt bH au=>by
  rw[iC]at au;by_cases e:t=s
  .simp_all
  .rw[cO e,nB,rU,cO e]at au;cases ar:look A t<;>simp_all
 refine⟨λa bH aC=>?_,λt bH au ag=>?_,λt a6 cL dP au iL ag f7 e=>?_,λt bH au=>?_⟩
 .have⟨aj,an⟩:=h.e6 a bH aC;grind
 .rcases fR t bH au with⟨rfl,rfl⟩|⟨ed,cL,D,rfl⟩
  .rw[m2];refine⟨(aV ag).1,?_⟩;cases ar:U H.next with
   |none=>rfl|some x=>have:=(h.e6 _ _ ar).2;omega
  .rw[j6 ed];rw[mi]at ag;have:=h.lt t cL D ag;grind
 .rcases fR t cL au with⟨rfl,rfl⟩|⟨ed,ic,D,rfl⟩<;>rcases fR a6 dP iL with⟨rfl,rfl⟩|⟨Eu,hF,F,rfl⟩
  .rfl
  .rw[m2,j6 Eu]at e;rw[mi]at f7;have:=(h.lt a6 hF F f7).1;omega
  .rw[m2,j6 ed]at e;rw[mi]at ag;have:=(h.lt t ic D ag).1;omega
  .rw[j6 ed,j6 Eu]at e;rw[mi]at ag f7;exact h.inj t a6 ic hF D F ag f7 e
 .rcases fR t bH au with⟨rfl,rfl⟩|⟨ed,cL,D,rfl⟩
  .cases ag:bH.real with
   |true=>simp_all
   |false=>
    cases bH with
    |box=>cases ag
    |bF ak z Q u=>intro ct;simp_all
  .exact(h.obj t cL D).iB (yB H.next B) (ek.le_refl U) (j6 ed) λag=>bI _ (h.lt t cL D ag).1
def fz.put{X}{U}{Z}{A}{H az}(h:b0 U Z A H){s}{B}(aD:H.next<=az.next)(bI:∀a,a<H.next->az.get a=H.get a):fz X U Z A H U (mc Z s H.next) ((s,B)::gh (e1 s) (rem A s)) az:=by
 refine⟨λ_ _ h _=>h,aD,λa aC _ _=>bI a aC,λa bH h=>.inl h,λt bH au ag=>?_⟩;rw[iC]at au;by_cases e:t=s
 .simp_all[m2]
 .rw[cO e,nB,rU,cO e]at au;rw[j6 e];cases ar:look A t with
  |none=>simp_all
  |some cL=>rw[ar]at au;cases au;rw[mi]at ag;exact .inr ⟨t,cL,ar,ag,rfl,λh=>by rw[BP];exact h⟩
def G5(ax)(i)(h:i<ax.cap)(k:cx->Bool):Ev.rowAt ax i k=k (ax.row i):=by
 cases ax with
 |fC r=>
  simp_all[Rows.cap]
 |dC t=>exact fr k (ZI i t)|b3 t=>exact fr k (ZM i t)|iQ t=>exact fr k (W8 i t)|nM g c=>rfl
def I9(aI:v=.ptr a r aR z)(bI:H.get a=.cells ax n z ak u ee)(ag:r<n)(aQ:n<=ax.cap)(k):rowOf v H k=k aR z (ax.row r):=by unfold rowOf;rw[aI,CM,pC,bI];show bd (Nat.blt r n) (bd (Nat.beq z z) (Ev.rowAt ax r λaJ=>k aR z aJ) false) false=_;rw[zu ag,kN rfl,iG,iG,G5 _ _ I]
section
variable{U:ek}{Z:Nat->Nat}{A:bf}{P:dK}{H:bg}
def c5.l2{l aK}(h:c5 U l aK)(aR n)(aD:aR+n<=l.length):c5 U (l2 l aR n) ((aK.drop aR).take n):=by rw[ajd _ _ _ aD];exact(h.drop aR).take n
def GC{aJ}{t}(aI:v=.ptr a r aR z)(bI:H.get a=.cells ax n z ak u ee)(ag:r<n)(aQ:n<=ax.cap)(cA:aJ.length=z)(jR:c5 U aJ (ax.row r)):(∀m,p8 P t=some true->fy P t=some m->((aR=0/\m=z/\e=.J (.agg aJ))\/(aR+m<=z/\¬(m=z)/\e=.J (.agg (l2 aJ aR m))))->k7 (λk=>(js P t).f v H k) λv=>co U Z A e v)/\(p8 P t=some false->fy P t=some 1->aR<z->e=.J (q1 aJ aR)->k7 (λk=>(js P t).f v H k) λv=>co U Z A e v):=by
 have ii:=jR.length;constructor
 .intro m D F aq;unfold js;rw[D,F];rcases aq with⟨rfl,rfl,rfl⟩|⟨aq,aL,rfl⟩
  .refine⟨.agg m (ax.row r),λk=>?_,?_⟩
   .show rowOf v H _=_;rw[I9 aI bI ag aQ,kN rfl];rfl
   .show bR U (.agg aJ) _;simp_all[bR]
  .refine⟨.agg m (((ax.row r).drop aR).take m),λk=>?_,?_⟩
   .show rowOf v H _=_;rw[I9 aI bI ag aQ,u1 aL,o9,wi _ _ _ I,zr _ _ _ (by grind)]
   .show bR U (.agg _) _;simp only[bR,MM];exact⟨_,rfl,jR.l2 aR m I⟩
 .rintro D F aq rfl;unfold js;rw[D,F];have⟨w,aj,an⟩:=jR.nth aR I;exact⟨w,λk=>by show rowOf v H _=_;rw[I9 aI bI ag aQ];exact OX aj k,an⟩
def PN{p}{t}(a4:b0 U Z A H)(h:wI P t A p=some e)(bq:co U Z A p v):k7 (λk=>(js P t).f v H k) λv=>co U Z A e v:=by
 have afi:∀(s aR ak z:Nat)(l:bK),p=.bN s aR->look A s=some (.box ak z (.bS l))->
  (∀m,p8 P t=some true->fy P t=some m->aR+m<=l.length->e=.agg ((l.drop aR).take m)->k7 (λk=>(js P t).f v H k) λv=>co U Z A e v)/\
  (p8 P t=some false->fy P t=some 1->aR<l.length->e=jv l aR->k7 (λk=>(js P t).f v H k) λv=>co U Z A e v):=by
  intro s aR ak z l apn Y
  subst apn
  have⟨ax,aj,an,aM,bs,cp⟩:=a4.obj s _ Y
  have aI:=bq _ _ _ Y
  have ii:=cp.length
  constructor
  .rintro m D F aq rfl;unfold js;rw[D,F];refine⟨.agg m (((ax.row 0).drop aR).take m),λk=>?_,((ax.row 0).drop aR).take m,?_,(cp.drop aR).take m⟩
   .show rowOf v H _=_;rw[I9 aI aj I an];by_cases hm:m=z
    .have aV:aR=0:=I;subst aV;rw[kN hm,kN rfl,iG,iG,List.drop_zero,Dx I]
    .rw[u1 hm,o9,wi _ _ _ I,zr _ _ _ (by grind)]
   grind
  .rintro D F aq rfl;unfold js;rw[D,F];have⟨w,bC,aX⟩:=cp.nth aR aq;exact⟨w,λk=>by show rowOf v H _=_;rw[I9 aI aj I an];exact OX bC k,aX.aA⟩
 unfold wI at h;split at h
 .rename_i m D F;split at h
  .rename_i s aR;split at h
   .rename_i ak z l Y;have⟨ax,aj,an,aM,bs,cp⟩:=a4.obj s _ Y;have aI:=bq _ _ _ Y;have Gy:=(GC (Z:=Z) (A:=A) (P:=P) (t:=t) (e:=e) aI aj I an bs cp).1 m D F;cases q:(Nat.beq aR 0&&Nat.beq m z)with
    |true=>simp_all
    |false=>rw[q]at h;obtain⟨aX,rfl⟩:=hC h;have aX:=dT.1 aX;refine Gy (.inr ⟨aX,λhm=>?_,rfl⟩);have aV:aR=0:=I;simp_all
   .rename_i ak z l Y;obtain⟨q,rfl⟩:=hC h;exact(afi s aR ak z l rfl Y).1 m D F (dT.1 q) rfl
   grind
  .rename_i a6;cases iw:vs a6<;>rw[iw]at h<;>try(cases h;done)
   have aP:=H2 iw;rw[aP]at bq;have⟨a,r,z,ax,n,ak,u,ee,aI,bI,ag,aQ,cA,jR,rZ⟩:=bq;have Gy:=(GC (Z:=Z) (A:=A) (P:=P) (t:=t) (e:=e) aI (a4.e6 _ _ bI).1 ag aQ cA jR).1 m D F;cases q:(Nat.beq (wd a6) 0&&gC (ux a6) m)with
   |true=>rw[q]at h;cases h;simp only[ig]at q;have:=Cw q.2;exact Gy (.inl ⟨dA.1 q.1,I,rfl⟩)
   |false=>rw[q]at h;obtain⟨aX,rfl⟩:=hC h;have aX:=dT.1 aX;refine Gy (.inr ⟨I,λhm=>?_,rfl⟩);have aV:wd a6=0:=I;rw[kN aV]at q;have:gC (ux a6) m=true:=kN I;grind
  .rename_i s r aR;split at h
   .rename_i ak z Q u Y;split at h
    .rename_i aJ jR;have be:=(oo.1 jR).1;have lP:(fB.bF ak z Q u).real=true:=by cases Q<;>first|(simp at be;done)|(cases u<;>rfl)
     have⟨ax,aj,an,aM,bs⟩:=a4.obj s _ Y lP;have aI:=bq _ _ _ _ Y;have⟨cp,dj⟩:=bs.get r jR;rw[pW]at dj;have Gy:=(GC (Z:=Z) (A:=A) (P:=P) (t:=t) (e:=e) aI aj be an cp dj).1 m D F;cases q:(Nat.beq aR 0&&Nat.beq m z)with
     |true=>simp_all
     |false=>rw[q]at h;obtain⟨aX,rfl⟩:=hC h;have aX:=dT.1 aX;refine Gy (.inr ⟨aX,λhm=>?_,rfl⟩);have aV:aR=0:=I;simp_all
    grind
   grind
  grind
 .rename_i D F;split at h
  .rename_i s aR;split at h
   .rename_i ak z l Y;obtain⟨q,rfl⟩:=hC h;have⟨ax,aj,an,aM,bs,cp⟩:=a4.obj s _ Y;exact(GC (Z:=Z) (A:=A) (P:=P) (t:=t) (bq _ _ _ Y) aj I an bs cp).2 D F (dg.1 q) rfl
   .rename_i ak z l Y;obtain⟨q,rfl⟩:=hC h;exact(afi s aR ak _ l rfl Y).2 D F (dg.1 q) rfl
   grind
  .obtain⟨q,rfl⟩:=hC h;simp only[ig]at q;have aP:=H2 q.1;rw[aP]at bq;have⟨a,r,z,ax,n,ak,u,ee,aI,bI,ag,aQ,cA,jR,rZ⟩:=bq;have:=dg.1 q.2;exact(GC (Z:=Z) (A:=A) (P:=P) (t:=t) aI (a4.e6 _ _ bI).1 ag aQ cA jR).2 D F I rfl
  .rename_i s r aR;split at h
   .rename_i ak z Q u Y;split at h
    .rename_i aJ jR;obtain⟨q,rfl⟩:=hC h;have be:=(oo.1 jR).1;have lP:(fB.bF ak z Q u).real=true:=by cases Q<;>first|(simp at be;done)|(cases u<;>rfl)
     have⟨ax,aj,an,aM,bs⟩:=a4.obj s _ Y lP;have⟨cp,dj⟩:=bs.get r jR;rw[pW]at dj;exact(GC (Z:=Z) (A:=A) (P:=P) (t:=t) (bq _ _ _ _ Y) aj be an cp dj).2 D F (dg.1 q) rfl
    grind
   grind
  grind
 grind
end
def Shape(A bE:bf):Prop:=(∀s ak z aJ,look bE s=some (.box ak z aJ)->∃mf,look A s=some (.box ak z mf))/\
 (∀s ak z Q u,look bE s=some (.bF ak z Q u)->∃fk,fk.length=Q.length/\look A s=some (.bF ak z fk u))
def QS(h:Q.length=gw.length)(g:yH a z Q u v):yH a z gw u v:=by
 cases u with
 |false=>simp_all[yH]
 |true=>
  cases Q with
  |nil=>grind
  |cons r Q=>cases gw with
   |nil=>grind|cons eH gw=>show v=.slice a 0 (eH::gw).length 0 true z;rw[<-h];exact g
section
variable{U:ek}{Z:Nat->Nat}{A bE:bf}
def Shape.UZ(h:Shape A bE):∀{e}{v},dE U Z A e v->dE U Z bE e v
 |.J _,_,g=>g|.bx,_,g=>g|.i4,_,g=>g
 |.bN s aR,_,g=>λak z aJ Y=>by have⟨fC,D⟩:=h.1 _ _ _ _ Y;exact g _ _ _ D
 |.bD s,_,g=>λak z Q u Y=>by have⟨fC,br,D⟩:=h.2 _ _ _ _ _ Y;exact QS br (g _ _ _ _ D)
 |.fU s r aR,_,g=>λak z Q u Y=>by have⟨fC,br,D⟩:=h.2 _ _ _ _ _ Y;exact g _ _ _ _ D
 |.agg _,_,g=>g|.fn _ _ _,_,g=>g
def Shape.map(h:Shape A bE):jV id U Z A U Z bE:=λe v g=>h.UZ g
def sT(e):dF id e=e:=by cases e<;>simp[dF]
def Shape.aA(h:Shape A bE)(g:co U Z A e v):co U Z bE e v:=by have:=(h.map (U:=U) (Z:=Z)).aA g;rwa[sT]at this
def Shape.lC(h:Shape A bE):∀{l}{aK},f9 U Z A l aK->f9 U Z bE l aK
 |[],_,g=>g
 |e::l,_,g=>by obtain⟨v,aK,rfl,aj,an⟩:=g;exact⟨v,aK,rfl,h.aA aj,h.lC an⟩
def Shape.xg{E T}(h:Shape A bE)(g:gR U Z A n E T):gR U Z bE n E T:=⟨g.1,g.2.1,λi aN=>h.aA (g.2.2 i aN)⟩
def Shape.qo(h:Shape A bE):∀{l}{aK},gc U Z A l aK->gc U Z bE l aK
 |[],_,g=>g
 |e::l,_,g=>by obtain⟨v,aK,rfl,aj,an⟩:=g;exact⟨v,aK,rfl,h.UZ aj,h.qo an⟩
def Shape.obj(h:Shape A bE)(g:nX U Z A H s B)(bI:B.real->az.get (Z s)=H.get (Z s)):nX U Z bE az s B:=by
 cases B with
 |box ak z aJ=>
  have⟨ax,aj,an,aM,bs⟩:=g;refine⟨ax,by rw[bI rfl];grind,an,aM,?_⟩;cases aJ with
  |cb l=>exact bs|bS l=>exact⟨bs.1,h.qo bs.2⟩
 |bF ak z Q u=>intro ag;have⟨ax,aj,an,aM,bs⟩:=g ag;simp_all
end
def Bg{aJ gj}(h:look A s=some (.box ak z aJ)):Shape A (kO A s (.box ak z gj)):=by
 constructor
 .intro t e8 cJ arf Y;rw[sH]at Y;grind
 .intro t e8 cJ Q u Y;rw[sH]at Y;grind
def WI(h:look A s=some (.bF ak z Q u))(Y:Q.length=gw.length):Shape A (kO A s (.bF ak z gw u)):=by
 constructor
 .intro t e8 cJ arf Y;rw[sH]at Y;grind
 .intro t e8 cJ an0 vl jw;rw[sH]at jw;grind
def b0.v9{bH iR}(h:b0 U Z A H)(Y:look A s=some B)(ag:B.real)(f7:bH.real)(ap:Shape A (kO A s bH))(aV:nX U Z (kO A s bH) (H.put (Z s) iR) s bH):b0 U Z (kO A s bH) (H.put (Z s) iR):=by
 have fR:∀t x,look (kO A s bH) t=some x->(t=s/\x=bH)\/(t≠s/\look A t=some x):=λt x au=>by
  rw[sH]at au;grind
 have be:=h.lt s B Y ag;refine⟨λa x aC=>?_,λt x au M=>?_,λt a6 x QG au iL M kW e=>?_,λt x au=>?_⟩
 .have⟨aj,an⟩:=h.e6 a x aC;refine⟨?_,an⟩;rw[bg.sh gp gp,aj];grind
 .rcases fR t x au with⟨rfl,rfl⟩|⟨ed,D⟩
  .exact be
  .exact h.lt t x D M
 .rcases fR t x au with⟨rfl,rfl⟩|⟨ed,D⟩<;>rcases fR a6 QG iL with⟨rfl,rfl⟩|⟨Eu,F⟩
  .rfl
  .exact h.inj _ _ _ _ Y F ag kW e
  .exact h.inj _ _ _ _ D Y M ag e
  .exact h.inj _ _ _ _ D F M kW e
 .rcases fR t x au with⟨rfl,rfl⟩|⟨ed,D⟩
  .grind
  .refine ap.obj (h.obj t x D) λM=>bg.sh gp gp λe=>ed (h.inj _ _ _ _ D Y M ag e)
def fz.v9{X}{U}{Z}{A}{H}{s}{B bH}{iR}(Y:look A s=some B)(ag:B.real)(a1:hr X s B=false):fz X U Z A H U Z (kO A s bH) (H.put (Z s) iR):=by
 refine⟨λ_ _ h _=>h,fI _,λa aC ap _=>bg.sh gp gp λe=>ap s B Y ag a1 e.symm,λa x h=>.inl h,λt x au M=>.inr ?_⟩;rw[sH]at au;grind
end Go.Tx
