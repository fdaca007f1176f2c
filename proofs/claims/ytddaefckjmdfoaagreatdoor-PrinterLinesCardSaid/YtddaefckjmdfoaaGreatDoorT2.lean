/- Part of the proof of PrinterLines. -/
import Derived.Test.YtddaefckjmdfoaaGreatDoorT1
set_option linter.all false
namespace Go.Tx
open Go Go.Ev
section
variable{U:dO}{Z:Nat->Nat}{A:be}{P:dy}{L:cv}{T:b4}
def aqn(c n)(k)(pY):AS (.int c n) k pY=k c n:=rfl
variable{e x:a1}{g:fO}
def NR{a z ab u v}(h:yw a z ab u v):(ab=[]/\v=.nil .s)\/∃c,v=.slice a 0 ab.length c u z:=by
 cases ab with
 |nil=>cases u with
  |true=>exact .inl ⟨rfl,h⟩
  |false=>exact .inr ⟨_,h⟩
 |cons r ab=>cases u<;>exact .inr ⟨_,h⟩
def ant{t}(h:Im P t A x=some e)(I:cd U Z A x (g.g L T)):kZ ((Bq P t g).f L T) λv=>cd U Z A e v:=by
 have⟨g⟩:=g;simp only at I;unfold Im at h;unfold Bq;split at h
 .rename_i hu;simp only[hu];have⟨s,B,h⟩:=i9 h;cases h;have⟨n,aZ,aN⟩:=Jg B I;exact⟨.int 3 s.length,λk=>by simp only[aZ,vO],by simp only[cd,cN,bp]⟩
 .rename_i el hu;simp only[hu];cases x with
  |bT=>cases h;simp only[cd,cN] at I;exact⟨.int 3 0,λk=>by simp only[I,Ef],by simp only[cd,cN,bp]⟩
  |J a6=>
   simp only at h;obtain⟨q,rfl⟩:=gJ h;rw[cd.J,Ek q] at I;simp only[bp] at I;refine⟨.int 3 (jl a6).length,λk=>?_,by simp only[cd,cN,bp]⟩;rcases I with⟨I,B|⟨_,a,i,c,u,z,B⟩⟩|⟨a,i,c,u,z,am,n,eC,fa,dK,B,_⟩
   .simp only[B,Ef,I,r8]
   .simp only[B,yF,I,r8]
   .simp only[B,yF]
  |bQ s=>
   simp only at h;split at h
   .rename_i eC z ab u K;cases h;refine⟨.int 3 ab.length,λk=>?_,by simp only[cd,cN,bp]⟩;rcases NR (I _ _ _ _ K) with⟨B,F⟩|⟨c,F⟩
    .simp only[F,Ef,B,r8]
    .simp only[F,yF]
   .cases h
  |_=>cases h
 .cases h
def ajx{i}(h:Kc x i=some e)(I:cd U Z A x (g.g L T)):kZ ((J3 g i).f L T) λv=>cd U Z A e v:=by
 have⟨g⟩:=g;simp only at I;unfold Kc at h;unfold J3;cases x with
 |J t=>simp only at h;obtain⟨q,rfl⟩:=gJ h;have⟨aZ,q⟩:=ahg q;rw[cd.J,aZ] at I;simp only[bp] at I;have⟨aM,B,F⟩:=I;have⟨v,g1,g2⟩:=F.nth i q;exact⟨v,λk=>by simp only[B,afU];exact NB g1 k,g2⟩
 |_=>cases h
def aiN{c a b adK SS Uc}(h:HW c a b=some e)(aw:cd U Z A c adK)(aD:cd U Z A a SS)(av:cd U Z A b Uc):kZ (λk=>mi adK λv=>a7 v (k SS) (k Uc)) λv=>cd U Z A e v:=by
 unfold HW at h;have⟨n5,B,h⟩:=i9 h;have IX:=Gq B aw;subst IX;split at h
 .rename_i x y I ap;cases h;have vN:=Gq I aD;have CM:=Gq ap av;subst vN CM;clear B aw h;cases n5 with
  |true=>exact⟨.bool x,λk=>rfl,by simp only[cd,cN,bp]⟩
  |false=>exact⟨.bool y,λk=>rfl,by simp only[cd,cN,bp]⟩
 .cases n5 with
  |true=>cases h;exact⟨SS,λk=>rfl,aD⟩
  |false=>cases h;exact⟨Uc,λk=>rfl,av⟩
def aeU{op x y kF kw ce ee}{t}(h:vC P A op t x y kF kw=some e)(I:cd U Z A kF (ce.g L T))(ap:cd U Z A kw (ee.g L T)):kZ ((CL P op t x y ce ee).f L T) λv=>cd U Z A e v:=by
 have nil:∀c:oJ,H4 A op c x y kF kw=some e->kZ ((uL op c x y ce ee).f L T) λv=>cd U Z A e v:=by
  intro c h;unfold H4 at h;unfold uL;cases bq:Ao c x<;>cases aS:Ao c y<;>rw[bq,aS] at h<;>cases op<;>simp only at h<;>try(cases h;done)
  all_goals
   have⟨b,B,h⟩:=i9 h
   cases h
   first
    |exact⟨_,MJ B I true ce L T rfl,by simp only[cd,cN,bp]⟩
    |exact⟨_,MJ B ap true ee L T rfl,by simp only[cd,cN,bp]⟩
    |exact⟨_,MJ B I false ce L T rfl,by simp only[cd,cN,bp]⟩
    |exact⟨_,MJ B ap false ee L T rfl,by simp only[cd,cN,bp]⟩
 unfold vC at h;unfold CL;split at h
 .rename_i cj hu;simp only[hu];have⟨ce⟩:=ce;have⟨ee⟩:=ee;simp only at I ap;have DQ:∀q1,c7 (ro (cq cj) kF) (ro (cq cj) kw) (yi op (cq cj))=some q1->op≠.shl->op≠.shr->kZ ((vh op (cq cj) ⟨ce⟩ ⟨ee⟩).f L T) λv=>bp U q1 v:=by
   intro q1 h dl cB;have⟨a,b,B,F,ah⟩:=rU h;have⟨v,g1,g2⟩:=aoq (U:=U) ah;have vN:=yy B I;have CM:=yy F ap;refine⟨v,λk=>?_,g2⟩;rw[<-g1 k];unfold vh;cases op<;>first|exact absurd rfl dl|exact absurd rfl cB|skip
   all_goals
    simp only[Is]
    generalize k4 _ (cq cj) (cp (cq cj)) (dL (cq cj))=abT
    have⟨abT⟩:=abT
    simp only[vN,CM]
    simp only[zk,aqn,fY,fz]
  split at h
  .have⟨q1,B,h⟩:=i9 h;cases h;have⟨a,b,so,F,ah⟩:=rU B;clear B;have B:=so;obtain⟨q,rfl⟩:=gJ ah;have⟨c,u6⟩:=aey F;have vN:=yy B I;rw[u6] at ap;simp only[cd,cN,bp] at ap;refine⟨.int (cq cj) ((a*2 ^ b) % cp (cq cj)),λk=>?_,by simp only[cd,cN,bp]⟩;unfold vh;simp only[vN,ap,zk,fY,fz,q,gT];rfl
  .have⟨q1,B,h⟩:=i9 h;cases h;have⟨a,b,so,F,ah⟩:=rU B;clear B;have B:=so;obtain⟨q,rfl⟩:=gJ ah;simp only[c6] at q;have⟨c,u6⟩:=aey F;have vN:=yy B I;rw[u6] at ap;simp only[cd,cN,bp] at ap;refine⟨.int (cq cj) (a / 2 ^ b),λk=>?_,by simp only[cd,cN,bp]⟩;unfold vh;simp only[vN,ap,zk,fY,fz,q.1,q.2,gT];rfl
  .rename_i dl cB;have⟨q1,B,h⟩:=i9 h;cases h;exact DQ q1 B (λe=>dl e) (λe=>cB e)
 .rename_i hu;simp only[hu];have⟨q1,B,h⟩:=i9 h;cases h;have⟨a,b,B,F,ah⟩:=rU B;rw[TP B] at I;rw[TP F] at ap;exact aiE ah I ap
 .rename_i hu;simp only[hu];have⟨q1,B,h⟩:=i9 h;cases h;have⟨a,b,B,F,ah⟩:=rU B;exact aqq ah (Gq B I) (Gq F ap)
 .rename_i hu;simp only[hu];exact nil _ h
 .rename_i hu;simp only[hu];exact nil _ h
 .rename_i hu;simp only[hu];exact nil _ h
 .cases h
def alK{op}(h:Il op x=some e)(I:cd U Z A x (g.g L T)):kZ ((DA op g).f L T) λv=>cd U Z A e v:=by
 have⟨g⟩:=g;simp only at I;unfold Il at h;unfold DA;cases op with
 |not=>simp only at h ⊢;have⟨b,B,h⟩:=i9 h;cases h;have aZ:=Gq B I;exact⟨.bool (!b),λk=>by simp only[aZ,TE];cases b<;>rfl,by simp only[cd,cN,bp]⟩
 |neg=>
  simp only at h ⊢;split at h
  .rename_i c n;cases h;simp only[cd,cN,bp] at I;exact⟨.int c ((cp c - n) % cp c),λk=>by simp only[I,zk,gT];rfl,by simp only[cd,cN,bp]⟩
  .cases h
 |_=>cases h
def akg{s d}(h:Du P s d x=some e)(I:cd U Z A x (g.g L T)):kZ ((Ci P s d g).f L T) λv=>cd U Z A e v:=by
 have⟨g⟩:=g;simp only at I;unfold Du at h;unfold Ci;split at h
 .rename_i k c8 ak aJ;simp only[ak,aJ];have⟨n,B,h⟩:=i9 h;have aZ:=yy B I;cases q:Nat.ble (cp (cq c8)) (cp (cq k)) with
  |true=>rw[q] at h;cases h;exact⟨.int (cq c8) (n % cp (cq c8)),λk=>by simp only[aZ,zk,fY,fz,gT];rfl,by simp only[cd,cN,bp]⟩
  |false=>rw[q] at h;obtain⟨aS,rfl⟩:=gJ h;exact⟨.int (cq c8) n,λk=>by simp only[aZ];show a7 (Nat.beq _ _) (a7 (Nat.blt n _) _ _) _=_;rw[fY rfl,fz,aS,fz],by simp only[cd,cN,bp]⟩
 .rename_i ak aJ;simp only[ak,aJ];have⟨s,B,h⟩:=i9 h;cases h;have⟨n,aZ,aN⟩:=Jg B I;refine⟨.str s.length n,λk=>by simp only[aZ,vO],?_⟩;show bp U (.str s) _;simp only[bp];exact⟨n,rfl,aN⟩
 .cases h
end
section
variable{U:dO}{Z:Nat->Nat}{A:be}{P:dy}{L:cv}{T:b4}
def sj(U:dO)(Z:Nat->Nat)(A:be)(L:cv)(T:b4):List (Nat×a1)->List (Nat×fO)->Prop
 |[],l=>l=[]
 |(i,e)::cg,l=>∃g aM,l=(i,g)::aM/\cd U Z A e (g.g L T)/\sj U Z A L T cg aM
def sj.fst:∀{cg}{l},sj U Z A L T cg l->l.map Prod.fst=cg.map Prod.fst
 |[],_,h=>by simp only[sj] at h;subst h;rfl
 |(i,e)::cg,_,h=>by obtain⟨g,aM,rfl,_,h⟩:=h;simp [h.fst]
def sj.all{N:Nat->Bool}{cg}{l}(h:sj U Z A L T cg l):l.all (λq=>N q.1)=cg.all (λq=>N q.1):=by
 have:=h.fst;have aZ:l.all (λq=>N q.1)=(l.map Prod.fst).all N:=by simp [HF,NU]
 have aN:cg.all (λq=>N q.1)=(cg.map Prod.fst).all N:=by simp [HF,NU]
 rw[aZ,aN,this]
def sj.part:∀{cg}{l}(i),sj U Z A L T cg l->(vl i cg=none/\partOf i l=none)\/∃e g,vl i cg=some e/\partOf i l=some g/\cd U Z A e (g.g L T)
 |[],_,i,h=>by simp only[sj] at h;subst h;exact .inl ⟨rfl,rfl⟩
 |(M,e)::cg,_,i,h=>by
  obtain⟨g,aM,rfl,B,F⟩:=h;rcases F.part i with⟨a,b⟩|⟨ci,ja,a,b,c⟩
  .cases q:Nat.beq i M with
   |true=>exact .inr ⟨e,g,by simp only[vl,a,q],by simp only[partOf,b,q],B⟩
   |false=>exact .inl ⟨by simp only[vl,a,q],by simp only[partOf,b,q]⟩
  .exact .inr ⟨ci,ja,by simp only[vl,a],by simp only[partOf,b],c⟩
def adE:∀(a)(r)(l),(∀k,r.f L T k=k l)->∀k,(By a r).f L T k=k (a++l)
 |[],r,l,h,k=>h k
 |x::a,r,l,h,k=>by unfold By;have bB:=adE a r l h;generalize By a r=cW at bB ⊢;have⟨cW⟩:=cW;exact bB λq=>k (x::q)
variable{S:c5}{ae:dv}{e:a1}{es:aO}
def Su{cg l}(hp:sj U Z A L T cg l):∀(cz)(i)(z)(c:bG),uh P A cg i cz (z.map py)=some c->∃(r:C2)(q:cv),tL P l i cz z=some r/\(∀k,r.f L T k=k q)/\fl U Z A c q
 |[],i,[],c,h=>by simp only[je,uh,Option.some.injEq] at h;subst h;exact⟨_,[],rfl,λk=>rfl,rfl⟩
 |[],i,a::z,c,h=>by simp [uh] at h
 |fd::cz,i,z,c,h=>by
  unfold uh at h;unfold tL;cases ak:eV P fd.type with
  |none=>rw[ak] at h;cases h
  |some s=>
   rw[ak] at h;simp only[dt] at h ⊢;cases bO:Nat.ble s z.length with
   |false=>rw[bO] at h;cases sP:vl i cg<;>rw[sP] at h<;>cases h
   |true=>
    rw[bO] at h;rcases hp.part i with⟨a,b⟩|⟨e,g,a,b,aw⟩
    .rw[a] at h;simp only at h;have⟨q,B,h⟩:=i9 h;cases h;rw[<-List.map_drop] at B;have⟨r,eh,g1,g2,g3⟩:=Su hp cz (i+1) (z.drop s) q B;rw[g1,b];simp only;refine⟨_,z.take s++eh,rfl,adE _ _ _ g2,?_⟩;rw[<-List.map_take];exact(Oi _).append g3
    .rw[a] at h;simp only at h;have⟨ZY,q,cb,B,h⟩:=rU h;cases h;rw[<-List.map_drop] at B;have⟨r,eh,g1,g2,g3⟩:=Su hp cz (i+1) (z.drop s) q B;rw[g1,b];have⟨r⟩:=r;have⟨g⟩:=g;simp only at aw g2 ⊢;have⟨lp,dz,gg,mg⟩:=Hc cb aw;refine⟨_,lp++eh,rfl,λk=>?_,gg.append g3⟩;show jR (g L T) s (λc=>r L T λq=>nx c q k)=_;rw[dz,g2,qM]
def ajC{t }{cg }{l }{e }(h : HA P A t cg = some e)(hp : sj U Z A L T cg l) : kZ ((C5 P t l).f L T) λv => cd U Z A e v := by
  unfold HA at h
  unfold C5
  split at h
  · rename_i cz hu
    simp only [hu]
    rw [hp.fst, hp.all (N := λn => Nat.blt n cz.toList.length)]
    cases bO : p4 P t with
    | none => rw [bO] at h; split at h <;> first | (cases h; done) | (rename_i q; cases q)
    | some z =>
      rw [bO] at h
      cases q : (CA P 0 cz.toList && kR (cg.map Prod.fst) && cg.all λN => Nat.blt N.1 cz.toList.length) with
      | false => rw [q] at h; cases z <;> cases h
      | true =>
        rw [q] at h
        cases z <;> simp only at h ⊢ <;> try (cases h; done)
        rename_i n Qs
        obtain ⟨c, B, h⟩ := i9 h
        cases h
        obtain ⟨r, eh, g1, g2, g3⟩ := Su hp cz.toList 0 Qs c B
        simp only [g1]
        obtain ⟨r⟩ := r
        have aB : n = Qs.length := by
          unfold p4 at bO
          split at bO
          · exact abr bO
          · cases bO
        have K : c.length = Qs.length := by
          have dC : ∀ (cz : List Field)(i : Nat)(z :bG)(c :bG), uh P A cg i cz z = some c → c.length = z.length := by
            intro cz
            induction cz with
            | nil => intro i z c h; cases z <;> simp [uh] at h; subst h; rfl
            | cons fd cz bB =>
              intro i z c h
              unfold uh at h
              cases ak : eV P fd.type with
              | none => rw [ak] at h; cases h
              | some s =>
                rw [ak] at h
                simp only at h
                cases bO : Nat.ble s z.length with
                | false => rw [bO] at h; cases sP : vl i cg <;> rw [sP] at h <;> cases h
                | true =>
                  rw [bO] at h
                  have bO := dn.1 bO
                  cases sP : vl i cg with
                  | none =>
                    rw [sP] at h
                    simp only at h
                    obtain ⟨q, B, h⟩ := i9 h
                    cases h
                    have := bB _ _ _ B
                    simp only [gP, jC, this, lu]
                    omega
                  | some e =>
                    rw [sP] at h
                    simp only at h
                    obtain ⟨ZY, q, cb, B, h⟩ := rU h
                    cases h
                    have := bB _ _ _ B
                    have aoL : ZY.length = s := by
                      unfold ns at cb
                      split at cb <;> first
                        | (obtain ⟨q, rfl⟩ := gJ cb
                           first
                             | exact zy q
                             | rfl
                             | (rw [dt, Lm]))
                        | (cases cb; first | rfl | done)
                    simp only [gP, aoL, this, lu]
                    omega
          simpa using dC _ _ _ _ B
        refine ⟨.agg n eh, λk => g2 λl => k (.agg n l), eh, ?_, g3⟩
        rw [aB, K]
  · cases h
def TZ(cn:eW U Z S.A S.L L)(bR:gp U Z S.A es.length S.E T):∀l,sj U Z S.A L T (rz es ae S l) (qb es ae l)
 |[]=>rfl
 |(i,x)::l=>⟨_,_,rfl,kD cn bR x,TZ cn bR l⟩
def Ou{es ae}:∀(l),(ol es ae l).g L T=l.map λx=>(db es ae x).g L T
 |[]=>rfl
 |x::l=>by have bB:=Ou (es:=es) (ae:=ae) l;unfold ol;generalize ol es ae l=hH at bB ⊢;generalize I:db es ae x=ce;have⟨ce⟩:=ce;have⟨hH⟩:=hH;simp only[fA,I];rw[<-bB]
def ahA{v}(h:Iz A e)(au:cd U Z A e v)(k):BY v k=k:=by
 cases e with
 |J t=>
  simp only[Iz,qC] at h;rcases h with h|h
  .rw[cd.J,Kr h] at au;simp only[bp] at au;obtain⟨_,_,_,_,_,_,_,_,rfl,_⟩:=au;rfl
  .cases t<;>try(cases h;done)
   rw[cd.J] at au;simp only[bp] at au;obtain⟨_,_,rfl,_⟩:=au;rfl
 |bH s aT=>have⟨el,z,aF,aZ⟩:=DT h;rw[au _ _ _ aZ];rfl
 |fF s r aT=>have⟨el,z,ab,u,aZ⟩:=B6 h;rw[au _ _ _ _ aZ];rfl
 |fn f bY bJ=>obtain⟨_,_,rfl,_⟩:=au;rfl
 |_=>cases h
def afw(bE)(g)(n)(e:g.g L T=.int 3 n):∃c,o5 bE [g]=some c/\∀k,c.f L T k=k (.int 3 n):=by have⟨g⟩:=g;simp only at e;refine⟨_,rfl,λk=>?_⟩;simp only[e,zk,fY,fz]
def ak5(bE:Bool)(g:cv->b4->bl)(ja:fO)(l:List fO):o5 bE (⟨g⟩::ja::l)=match o5 bE (ja::l),bE with
 |some ⟨r⟩,true=>some ⟨λL T k=>gy (g L T) λc n=>a7 (Nat.beq c 3) (r L T λv=>gy v λ_ m=>a7 (nZ n m) (k (.int 3 m)) (k (.int 3 n))) false⟩
 |some ⟨r⟩,false=>some ⟨λL T k=>gy (g L T) λc n=>a7 (Nat.beq c 3) (r L T λv=>gy v λ_ m=>a7 (nZ m n) (k (.int 3 m)) (k (.int 3 n))) false⟩
 |none,_=>none:=by
 have⟨ja⟩:=ja
 rfl
def ab2(q)(x y)(k:bl->Bool):a7 q (k (.int 3 x)) (k (.int 3 y))=k (.int 3 (Gl q x y)):=by cases q<;>rfl
def Z7(g:cv->b4->bl)(c:cv->b4->(bl->Bool)->Bool)(a b)(e:g L T=.int 3 a)(g2:∀k,c L T k=k (.int 3 b))(k:bl->Bool)(M:Nat->Nat->Bool):(gy (g L T) λfo n=>a7 (Nat.beq fo 3) (c L T λv=>gy v λ_ m=>M n m) false)=M a b:=by rw[e,zk,g2,zk];rfl
def aoj(bE)(g ja)(l)(a b)(e:g.g L T=.int 3 a)(c)(g1:o5 bE (ja::l)=some c)(g2:∀k,c.f L T k=k (.int 3 b)):∃c,o5 bE (g::ja::l)=some c/\∀k,c.f L T k=k (.int 3 (IR bE a b)):=by
 have⟨g⟩:=g;have⟨c⟩:=c;rw[ak5,g1];cases bE with
 |true=>
  exact⟨⟨λL T k=>gy (g L T) λfo n=>a7 (Nat.beq fo 3) (c L T λv=>gy v λ_ m=>a7 (nZ n m) (k (.int 3 m)) (k (.int 3 n))) false⟩,rfl,
   λk=>(Z7 g c a b e g2 k λn m=>a7 (nZ n m) (k (.int 3 m)) (k (.int 3 n))).trans (ab2 _ _ _ _)⟩
 |false=>
  exact⟨⟨λL T k=>gy (g L T) λfo n=>a7 (Nat.beq fo 3) (c L T λv=>gy v λ_ m=>a7 (nZ m n) (k (.int 3 m)) (k (.int 3 n))) false⟩,rfl,
   λk=>(Z7 g c a b e g2 k λn m=>a7 (nZ m n) (k (.int 3 m)) (k (.int 3 n))).trans (ab2 _ _ _ _)⟩
def PE{ae}(cn:eW U Z S.A S.L L)(bR:gp U Z S.A es.length S.E T)(bE):∀(l:List Operand)(n),At bE (l.map (dN es ae S))=some n->∃c,o5 bE (l.map (db es ae))=some c/\∀k,c.f L T k=k (.int 3 n)
 |[],n,h=>by simp [At] at h
 |[x],n,h=>by simp only[fA,je,At] at h;exact afw bE _ _ (yy h (kD cn bR x))
 |x::y::l,n,h=>by simp only[fA] at h ⊢;unfold At at h;have⟨a,b,B,F,h⟩:=rU h;have⟨c,g1,g2⟩:=PE cn bR bE (y::l) b F;simp only[fA] at g1;rw[<-Er h];exact aoj bE (db es ae x) (db es ae y) (l.map (db es ae)) a b (yy B (kD (ae:=ae) cn bR x)) c g1 g2
def cd.d8{es l}(h:fl U Z A es l):eW U Z A es l:=by
 induction es generalizing l with
 |nil=>exact h
 |cons e es bB=>obtain⟨v,aM,rfl,B,F⟩:=h;exact⟨v,aM,rfl,B.px,bB F⟩
def Up{f g}:∀(l:List Operand),(∀x∈l,cd U Z A (f x) (g x))->l.all (λx=>atom (f x))->fl U Z A (l.map f) (l.map g)
 |[],_,_=>rfl
 |x::l,h,aD=>by simp only[An,c6] at aD;have B:=h x (by simp);refine⟨_,_,rfl,?_,Up l (λy ap=>h y (by simp [ap])) aD.2⟩;generalize f x=e at B aD;cases e<;>first|exact B|exact absurd aD.1 x4
def VG{op}(cn:eW U Z S.A S.L L)(bR:gp U Z S.A es.length S.E T)(h:u5 P es ae S op=some e):kZ ((sY P es ae op).f L T) λv=>cd U Z S.A e v:=by
 have G:=λx=>kD (ae:=ae) cn bR x;unfold u5 at h;unfold sY;split at h
 .cases h;rename_i x;have:=G x;simp only;generalize db es ae x=g at this ⊢;have⟨g⟩:=g;exact⟨g L T,λk=>rfl,this⟩
 .cases h;rename_i x;have:=G x;simp only;generalize db es ae x=g at this ⊢;have⟨g⟩:=g;exact⟨g L T,λk=>rfl,this⟩
 .rename_i c a b;have B:=G c;have F:=G a;have ah:=G b;simp only;generalize db es ae c=tK at B ⊢;generalize db es ae a=LL at F ⊢;generalize db es ae b=Ko at ah ⊢;have⟨tK⟩:=tK;have⟨LL⟩:=LL;have⟨Ko⟩:=Ko;exact aiN h B F ah
 .exact ajC h (TZ cn bR _)
 .rename_i x;obtain⟨q,rfl⟩:=gJ h;have B:=G x;simp only;generalize db es ae x=g at B ⊢;have⟨g⟩:=g;exact⟨_,λk=>ahA q B _,B⟩
 .exact aeU h (G _) (G _)
 .exact alK h (G _)
 .exact akg h (G _)
 .rename_i f bY bJ;obtain⟨q,rfl⟩:=gJ h;simp only[c6] at q;have aZ:=Ou (es:=es) (ae:=ae) (L:=L) (T:=T) bY.toList;have aN:=Ou (es:=es) (ae:=ae) (L:=L) (T:=T) bJ.toList;simp only;generalize ol es ae bY.toList=ce at aZ ⊢;generalize ol es ae bJ.toList=ee at aN ⊢;have⟨ce⟩:=ce;have⟨ee⟩:=ee;simp only at aZ aN ⊢;refine⟨_,λk=>rfl,ce L T,ee L T,rfl,?_,?_⟩
  .rw[aZ];exact Up _ (λx _=>G x) q.1
  .rw[aN];exact Up _ (λx _=>G x) q.2
 .exact agE h (G _) (λi aH=>aem rfl cn bR aH) (λd M bb=>aem rfl cn bR bb)
 .exact aqf h (G _)
 .exact aiW h (G _)
 .exact amV h (G _) (G _)
 .exact afN h (G _) (G _)
 .exact ajx h (G _)
 .rename_i c;simp only;split at h
  .rename_i B F ah;simp only[B,F,ah];exact ant h (G _)
  .rename_i B;have⟨n,F,h⟩:=i9 h;cases h;have⟨r,g1,g2⟩:=PE cn bR true _ _ F;simp only[B,g1];exact⟨_,g2,by simp only[cd,cN,bp]⟩
  .rename_i B;have⟨n,F,h⟩:=i9 h;cases h;have⟨r,g1,g2⟩:=PE cn bR false _ _ F;simp only[B,g1];exact⟨_,g2,by simp only[cd,cN,bp]⟩
  .cases h
 .cases h
end
def ji(f:a1->a1)(U:dO)(Z:Nat->Nat)(A:be)(bh:dO)(bV:Nat->Nat)(bw:be):Prop:=∀e v,cN U Z A e v->cN bh bV bw (f e) v
section
variable{f:a1->a1}{U bh:dO}{Z bV:Nat->Nat}{A bw:be}
def ji.d8(h:ji f U Z A bh bV bw):∀{l}{aM},fl U Z A l aM->fl bh bV bw (l.map f) aM
 |[],_,g=>g
 |e::l,_,g=>by obtain⟨v,aM,rfl,g1,g2⟩:=g;exact⟨v,aM,rfl,h _ _ g1,h.d8 g2⟩
def ji.px(h:ji f U Z A bh bV bw):∀{e}{v},cd U Z A e v->cd bh bV bw (dJ f e) v
 |.agg l,_,⟨aM,e,g⟩=>⟨aM,by rw[dt];exact e,h.d8 g⟩
 |.fn g bY bJ,_,⟨da,cC,e,g1,g2⟩=>⟨da,cC,e,h.d8 g1,h.d8 g2⟩
 |.J t,v,g=>(h (.J t) v g).px
 |.bT,v,g=>(h (.bT) v g).px
 |.iy,v,g=>(h .iy v g).px
 |.bH s D,v,g=>(h (.bH s D) v g).px
 |.bQ s,v,g=>(h (.bQ s) v g).px
 |.fF s r D,v,g=>(h (.fF s r D) v g).px
def ji.o8(h:ji f U Z A bh bV bw):∀{l}{aM},eW U Z A l aM->eW bh bV bw (l.map (dJ f)) aM
 |[],_,g=>g
 |e::l,_,g=>by obtain⟨v,aM,rfl,g1,g2⟩:=g;exact⟨v,aM,rfl,h.px g1,h.o8 g2⟩
def adw(g):∀(l:bG)(i),i<l.length->i5 (l.map g) i=g (i5 l i)
 |[],_,h=>by simp at h
 |_::_,0,_=>rfl
 |_::l,i+1,h=>adw g l i (by simpa using h)
def ji.wh{n E T}(h:ji f U Z A bh bV bw)(g:gp U Z A n E T):gp bh bV bw n (E.map (dJ f)) T:=by refine⟨g.1,by rw[dt];exact g.2.1,λi aH=>?_⟩;rw[adw _ _ _ (by rw[g.2.1];exact aH)];exact h.px (g.2.2 i aH)
def ji.row(h:ji f U Z A bh bV bw)(hle:U.le bh){z:Nat}{aF:ul}{r:cv}(g:n6 U Z A z aF r):n6 bh bV bw z (match aF with|.cc l=>.cc l|.bE l=>.bE (l.map f)) r:=by
 cases aF with
 |cc l=>exact⟨g.1,g.2.mono hle⟩
 |bE l=>exact⟨by rw[dt];exact g.1,h.d8 g.2⟩
end
variable{H aq:bd}{a el n aT r s z:Nat}{e:a1}{D:eS}{dK u:Bool}{ab f7:gF}{am:Ev.Rows}{A:be}{v:bl}{U:dO}{Z:Nat->Nat}
def cJ.z9{t v hF}(h:U.le hF)(g:cJ U t v):cJ hF t v:=cJ.mono h t v g
def nQ(f):∀(A)(s),look (fL f A) s=(look A s).map (gx f)
 |[],s=>rfl
 |(t,D)::l,s=>by
  simp only[fL,look];cases Nat.beq t s
  .exact nQ f l s
  .rfl
def rQ:∀(A)(t s),look (rem A t) s=if s=t then none else look A s
 |[],t,s=>by simp [rem,look]
 |(a,D)::l,t,s=>by
  simp only[rem];cases h:Nat.beq a t with
  |true=>
   have h:=cF.1 h;subst h;rw[rQ l a s];by_cases e:s=a
   .simp [e]
   .rw[bA e,bA e];have:Nat.beq a s=false:=tO (λh=>e h.symm);simp only[look,this]
  |false=>
   simp only[look];cases F:Nat.beq a s with
   |true=>have F:=cF.1 F;subst F;rw[bA];intro e;subst e;rw[fY rfl] at h;cases h
   |false=>exact rQ l t s
def hO(a)(D)(l:be)(s):look ((a,D)::l) s=if s=a then some D else look l s:=by
 simp only[look];by_cases e:s=a
 .subst e;rw[fY rfl,b3 rfl]
 .rw[tO (λh=>e h.symm),bA e]
def ss:∀(A)(t s)(D),look (kr A t D) s=if s=t then(look A t).map (λ_=>D) else look A s
 |[],t,s,D=>by simp [kr,look]
 |(a,bs)::l,t,s,D=>by
  simp only[kr];cases h:Nat.beq a t with
  |true=>
   have h:=cF.1 h;subst h;rw[hO];by_cases e:s=a
   .subst e;simp [hO]
   .rw[bA e,bA e,hO,bA e]
  |false=>
   simp only;rw[hO,hO,hO,ss l t s D];by_cases e:s=a
   .subst e;rw[b3 rfl,bA]
    .rw[b3 rfl]
    .intro e;subst e;rw[fY rfl] at h;cases h
   .rw[bA e,bA e];by_cases aN:s=t
    .rw[b3 aN,b3 aN,bA];intro c9;subst c9;rw[fY rfl] at h;cases h
    .rw[bA aN,bA aN]
def lJ(f)(D):(gx f D).real=D.real:=by
 cases D with
 |box el z aF=>cases aF<;>rfl
 |arr el z ab u=>rfl
def UM:ji (et s) U Z A U Z (fL (et s) (rem A s)):=by
 have e8:∀t,t≠s->look (fL (et s) (rem A s)) t=(look A t).map (gx (et s)):=λt al=>by rw[nQ,rQ,bA al]
 intro e v h;cases e with
 |J t=>exact h
 |bT=>exact h
 |iy=>exact h
 |bH t aT=>
  simp only[et];cases q:Nat.beq t s with
  |true=>simp only[cN,bp]
  |false=>
   have dB:t≠s:=λe=>by subst e;rw[fY rfl] at q;cases q
   intro el z aF K;rw[e8 t dB] at K;cases az:look A t with
   |none=>rw[az] at K;cases K
   |some D=>
    rw[az] at K;cases D with
    |box eC cI fB=>cases fB<;>(cases K;exact h _ _ _ az)
    |arr=>cases K
 |bQ t=>
  simp only[et];cases q:Nat.beq t s with
  |true=>simp only[cN,bp]
  |false=>
   have dB:t≠s:=λe=>by subst e;rw[fY rfl] at q;cases q
   intro el z ab u K;rw[e8 t dB] at K;cases az:look A t with
   |none=>rw[az] at K;cases K
   |some D=>
    rw[az] at K;cases D with
    |box eC cI fB=>cases fB<;>cases K
    |arr=>cases K;exact h _ _ _ _ az
 |fF t r aT=>
  simp only[et];cases q:Nat.beq t s with
  |true=>simp only[cN,bp]
  |false=>
   have dB:t≠s:=λe=>by subst e;rw[fY rfl] at q;cases q
   intro el z ab u K;rw[e8 t dB] at K;cases az:look A t with
   |none=>rw[az] at K;cases K
   |some D=>
    rw[az] at K;cases D with
    |box eC cI fB=>cases fB<;>cases K
    |arr=>cases K;exact h _ _ _ _ az
 |agg l=>exact h
 |fn f x y=>exact h
def bL.kill(h:bL U Z A H)(s):bL U Z (fL (et s) (rem A s)) H:=by
 have e8:∀t D,look (fL (et s) (rem A s)) t=some D->∃bs,look A t=some bs/\D=gx (et s) bs:=λt D al=>by
  rw[nQ,rQ] at al;by_cases e:t=s
  .rw[b3 e] at al;cases al
  .rw[bA e] at al;cases az:look A t with
   |none=>rw[az] at al;cases al
   |some bs=>rw[az] at al;cases al;exact⟨bs,rfl,rfl⟩
 refine⟨h.gf,λt D al ad=>?_,λt a6 D bs al hS ad fN e=>?_,λt D al=>?_⟩
 .obtain⟨bs,B,rfl⟩:=e8 t D al;rw[lJ] at ad;exact h.lt t bs B ad
 .obtain⟨cQ,B,rfl⟩:=e8 t D al;obtain⟨eL,F,rfl⟩:=e8 a6 bs hS;rw[lJ] at ad fN;exact h.inj t a6 cQ eL B F ad fN e
 .obtain⟨bs,B,rfl⟩:=e8 t D al;have:=h.obj t bs B;cases bs with
  |box el z aF=>
   have⟨am,g1,g2,g3,g4⟩:=this;have g5:=UM (s:=s)|>.row (dO.le_refl U) g4;cases aF with
   |cc l=>exact⟨am,g1,g2,g3,g5⟩
   |bE l=>exact⟨am,g1,g2,g3,g5⟩
  |arr el z ab u=>exact this
def lI(Z:Nat->Nat)(s a:Nat):Nat->Nat:=λt=>match Nat.beq t s with
 |true=>a
 |false=>Z t
def nk(Z)(s a):lI Z s a s=a:=by simp only[lI,fY]
def jH{t}(h:t≠s):lI Z s a t=Z t:=by simp only[lI,tO h]
def tC{t s:Nat}(q:Nat.beq t s=false):t≠s:=λe=>by subst e;rw[fY rfl] at q;cases q
def yG(a)(D):ji (et s) U Z A U (lI Z s a) ((s,D)::fL (et s) (rem A s)):=by
 intro e v h;have cb:=UM (s:=s) e v h;cases e with
 |bH t aT=>
  simp only[et] at cb ⊢;cases q:Nat.beq t s with
  |true=>simp only[cN,bp]
  |false=>rw[q] at cb;have dB:=tC q;intro el z aF K;rw[hO,bA dB] at K;rw[jH dB];exact cb _ _ _ K
 |bQ t=>
  simp only[et] at cb ⊢;cases q:Nat.beq t s with
  |true=>simp only[cN,bp]
  |false=>rw[q] at cb;have dB:=tC q;intro el z ab u K;rw[hO,bA dB] at K;rw[jH dB];exact cb _ _ _ _ K
 |fF t r aT=>
  simp only[et] at cb ⊢;cases q:Nat.beq t s with
  |true=>simp only[cN,bp]
  |false=>rw[q] at cb;have dB:=tC q;intro el z ab u K;rw[hO,bA dB] at K;rw[jH dB];exact cb _ _ _ _ K
 |J t=>exact h
 |bT=>exact h
 |iy=>exact h
 |agg l=>exact h
 |fn f x y=>exact h
def ox.hZ{f bh bV bw}(h:ox U Z A H s D)(aI:ji f U Z A bh bV bw)(hle:U.le bh)(aH:bV s=Z s)(br:D.real->aq.get (Z s)=H.get (Z s)):ox bh bV bw aq s (gx f D):=by
 cases D with
 |box el z aF=>
  have⟨am,g1,g2,g3,g4⟩:=h;have g5:=aI.row hle g4;have g6:aq.get (bV s)=.cells am 1 z el false false:=by rw[aH,br rfl];exact g1
  cases aF with
  |cc l=>exact⟨am,g6,g2,g3,g5⟩
  |bE l=>exact⟨am,g6,g2,g3,g5⟩
 |arr el z ab u=>intro ad;have⟨am,g1,g2,g3,g4⟩:=h ad;exact⟨am,by rw[aH,br ad];exact g1,g2,g3,fI.mono hle _ _ _ _ g4⟩
def bL.put(h:bL U Z A H)(aB:H.next<=aq.next)(br:∀a,a<H.next->aq.get a=H.get a)(ay:D.real->H.next<aq.next/\ox U (lI Z s H.next) ((s,D)::fL (et s) (rem A s)) aq s D)(au:D.real=false->∀H,ox U (lI Z s 0) [] H s D):bL U (lI Z s H.next) ((s,D)::fL (et s) (rem A s)) aq:=by
 have e8:∀t bs,look ((s,D)::fL (et s) (rem A s)) t=some bs->(t=s/\bs=D)\/(t≠s/\∃cQ,look A t=some cQ/\bs=gx (et s) cQ):=λt bs al=>by
  rw[hO] at al;by_cases e:t=s
  .rw[b3 e] at al;cases al;exact .inl ⟨e,rfl⟩
  .rw[bA e,nQ,rQ,bA e] at al;cases az:look A t with
   |none=>rw[az] at al;cases al
   |some cQ=>rw[az] at al;cases al;exact .inr ⟨e,cQ,rfl,rfl⟩
 refine⟨λa bs aD=>?_,λt bs al ad=>?_,λt a6 cQ eL al hS ad fN e=>?_,λt bs al=>?_⟩
 .have⟨g1,g2⟩:=h.gf a bs aD;exact⟨(br a g2).trans g1,nV g2 aB⟩
 .rcases e8 t bs al with⟨rfl,rfl⟩|⟨dB,cQ,B,rfl⟩
  .rw[nk];refine⟨(ay ad).1,?_⟩;cases az:U H.next with
   |none=>rfl
   |some x=>have:=(h.gf _ _ az).2;omega
  .rw[jH dB];rw[lJ] at ad;have:=h.lt t cQ B ad;exact⟨nV this.1 aB,this.2⟩
 .rcases e8 t cQ al with⟨rfl,rfl⟩|⟨dB,eY,B,rfl⟩<;>rcases e8 a6 eL hS with⟨rfl,rfl⟩|⟨Ff,ex,F,rfl⟩
  .rfl
  .rw[nk,jH Ff] at e;rw[lJ] at fN;have:=(h.lt a6 ex F fN).1;omega
  .rw[nk,jH dB] at e;rw[lJ] at ad;have:=(h.lt t eY B ad).1;omega
  .rw[jH dB,jH Ff] at e;rw[lJ] at ad fN;exact h.inj t a6 eY ex B F ad fN e
 .rcases e8 t bs al with⟨rfl,rfl⟩|⟨dB,cQ,B,rfl⟩
  .cases ad:bs.real with
   |true=>exact(ay ad).2
   |false=>
    cases bs with
    |box=>cases ad
    |arr el z ab u=>intro eM;rw[ad] at eM;cases eM
  .exact(h.obj t cQ B).hZ (yG H.next D) (dO.le_refl U) (jH dB) λad=>br _ (h.lt t cQ B ad).1
def eQ.put{X}{U}{Z}{A}{H aq}(h:bL U Z A H){s}{D}(aB:H.next<=aq.next)(br:∀a,a<H.next->aq.get a=H.get a):eQ X U Z A H U (lI Z s H.next) ((s,D)::fL (et s) (rem A s)) aq:=by
 refine⟨λ_ _ h _=>h,aB,λa aD _ _=>br a aD,λa bs h=>.inl h,λt bs al ad=>?_⟩;rw[hO] at al;by_cases e:t=s
 .subst e;rw[nk];exact .inl (ez _)
 .rw[bA e,nQ,rQ,bA e] at al;rw[jH e];cases az:look A t with
  |none=>rw[az] at al;cases al
  |some cQ=>rw[az] at al;cases al;rw[lJ] at ad;exact .inr ⟨t,cQ,az,ad,rfl,λh=>by rw[Bl];exact h⟩
def Kw(am)(i)(h:i<am.cap)(k:cv->Bool):Ev.rowAt am i k=k (am.row i):=by
 cases am with
 |fG r=>
  have:i=0:=by simp [Rows.cap] at h;exact h
  subst this;rfl
 |dc t=>exact mJ k (ZM i t)
 |cl t=>exact mJ k (V4 i t)
 |hD t=>exact mJ k (aed i t)
 |j3 g c=>rfl
def Kk(au:v=.ptr a r aT z)(br:H.get a=.cells am n z el u dK)(ad:r<n)(aw:n<=am.cap)(k):rowOf v H k=k aT z (am.row r):=by unfold rowOf;rw[au,Ar,pN,br];show a7 (Nat.blt r n) (a7 (Nat.beq z z) (Ev.rowAt am r λaF=>k aT z aF) false) false=_;rw[wW ad,fY rfl,fz,fz,Kw _ _ Y]
section
variable{U:dO}{Z:Nat->Nat}{A:be}{P:dy}{H:bd}
def cJ.lW{l aM}(h:cJ U l aM)(aT n)(aB:aT+n<=l.length):cJ U (lW l aT n) ((aM.drop aT).take n):=by rw[ajV _ _ _ aB];exact(h.drop aT).take n
def EO{aF}{t}(au:v=.ptr a r aT z)(br:H.get a=.cells am n z el u dK)(ad:r<n)(aw:n<=am.cap)(bO:aF.length=z)(hq:cJ U aF (am.row r)):(∀m,rp P t=some true->eV P t=some m->((aT=0/\m=z/\e=.J (.agg aF))\/(aT+m<=z/\¬(m=z)/\e=.J (.agg (lW aF aT m))))->kZ (λk=>(il P t).f v H k) λv=>cd U Z A e v)/\(rp P t=some false->eV P t=some 1->aT<z->e=.J (qP aF aT)->kZ (λk=>(il P t).f v H k) λv=>cd U Z A e v):=by
 have fy:=hq.length;constructor
 .intro m B F ah;unfold il;rw[B,F];simp only;rcases ah with⟨rfl,rfl,rfl⟩|⟨ah,aE,rfl⟩
  .refine⟨.agg m (am.row r),λk=>?_,?_⟩
   .show rowOf v H _=_;rw[Kk au br ad aw,fY rfl,fY rfl];rfl
   .show bp U (.agg aF) _;simp only[bp];exact⟨_,by rw[bO],hq⟩
  .refine⟨.agg m (((am.row r).drop aT).take m),λk=>?_,?_⟩
   .show rowOf v H _=_;rw[Kk au br ad aw,tO aE,mF,wo _ _ _ Y,xJ _ _ _ (by rw[lu];omega)]
   .show bp U (.agg _) _;simp only[bp,Lm];exact⟨_,rfl,hq.lW aT m Y⟩
 .rintro B F ah rfl;unfold il;rw[B,F];simp only;have⟨w,g1,g2⟩:=hq.nth aT Y;exact⟨w,λk=>by show rowOf v H _=_;rw[Kk au br ad aw];exact NB g1 k,g2⟩
def RD{N}{t}(aW:bL U Z A H)(h:wP P t A N=some e)(hp:cd U Z A N v):kZ (λk=>(il P t).f v H k) λv=>cd U Z A e v:=by
 have aeK:∀(s aT el z:Nat)(l:bG),N=.bH s aT->look A s=some (.box el z (.bE l))->
  (∀m,rp P t=some true->eV P t=some m->aT+m<=l.length->e=.agg ((l.drop aT).take m)->kZ (λk=>(il P t).f v H k) λv=>cd U Z A e v)/\
  (rp P t=some false->eV P t=some 1->aT<l.length->e=i5 l aT->kZ (λk=>(il P t).f v H k) λv=>cd U Z A e v):=by
  intro s aT el z l ao9 K
  subst ao9
  have⟨am,g1,g2,g3,g4,g5⟩:=aW.obj s _ K
  have au:=hp _ _ _ K
  have fy:=g5.length
  constructor
  .rintro m B F ah rfl;unfold il;rw[B,F];simp only;refine⟨.agg m (((am.row 0).drop aT).take m),λk=>?_,((am.row 0).drop aT).take m,?_,(g5.drop aT).take m⟩
   .show rowOf v H _=_;rw[Kk au g1 Y g2];by_cases hm:m=z
    .have ay:aT=0:=Y;subst ay;rw[fY hm,fY rfl,fz,fz,List.drop_zero,Uh Y]
    .rw[tO hm,mF,wo _ _ _ Y,xJ _ _ _ (by rw[lu];omega)]
   .rw[jC,lu,ws Y]
  .rintro B F ah rfl;unfold il;rw[B,F];simp only;have⟨w,bq,aS⟩:=g5.nth aT ah;exact⟨w,λk=>by show rowOf v H _=_;rw[Kk au g1 Y g2];exact NB bq k,aS.px⟩
 unfold wP at h;split at h
 .rename_i m B F;split at h
  .rename_i s aT;split at h
   .rename_i el z l K;have⟨am,g1,g2,g3,g4,g5⟩:=aW.obj s _ K;have au:=hp _ _ _ K;have II:=(EO (Z:=Z) (A:=A) (P:=P) (t:=t) (e:=e) au g1 Y g2 g4 g5).1 m B F;cases q:(Nat.beq aT 0&&Nat.beq m z) with
    |true=>rw[q] at h;cases h;simp only[c6] at q;exact II (.inl ⟨cF.1 q.1,cF.1 q.2,rfl⟩)
    |false=>rw[q] at h;obtain⟨aS,rfl⟩:=gJ h;have aS:=dn.1 aS;refine II (.inr ⟨aS,λhm=>?_,rfl⟩);have ay:aT=0:=Y;rw[fY ay,fY hm] at q;cases q
   .rename_i el z l K;obtain⟨q,rfl⟩:=gJ h;exact(aeK s aT el z l rfl K).1 m B F (dn.1 q) rfl
   .cases h
  .rename_i a6;cases ma:se a6<;>rw[ma] at h<;>try(cases h;done)
   have aZ:=Kr ma;rw[cd.J,aZ] at hp;simp only[bp] at hp;have⟨a,r,z,am,n,el,u,dK,au,br,ad,aw,bO,hq,JR⟩:=hp;have II:=(EO (Z:=Z) (A:=A) (P:=P) (t:=t) (e:=e) au (aW.gf _ _ br).1 ad aw bO hq).1 m B F;simp only at h;cases q:(Nat.beq (vR a6) 0&&fQ (t2 a6) m) with
   |true=>rw[q] at h;cases h;simp only[c6] at q;have:=zy q.2;exact II (.inl ⟨cF.1 q.1,Y,rfl⟩)
   |false=>rw[q] at h;obtain⟨aS,rfl⟩:=gJ h;have aS:=dn.1 aS;refine II (.inr ⟨Y,λhm=>?_,rfl⟩);have ay:vR a6=0:=Y;rw[fY ay] at q;have:fQ (t2 a6) m=true:=fY Y;rw[this] at q;cases q
  .rename_i s r aT;split at h
   .rename_i el z ab u K;split at h
    .rename_i aF hq;obtain⟨q,rfl⟩:=gJ h;simp only[c6] at q;have aV:=(jb.1 hq).1;have nT:(eS.arr el z ab u).real=true:=by cases ab<;>first|(simp at aV;done)|(cases u<;>rfl)
     have⟨am,g1,g2,g3,g4⟩:=aW.obj s _ K nT;have au:=hp _ _ _ _ K;have⟨g5,g6⟩:=g4.get r hq;rw[jq] at g6;exact(EO (Z:=Z) (A:=A) (P:=P) (t:=t) au g1 aV g2 g5 g6).1 m B F (.inl ⟨cF.1 q.1,cF.1 q.2,rfl⟩)
    .cases h
   .cases h
  .cases h
 .rename_i B F;split at h
  .rename_i s aT;split at h
   .rename_i el z l K;obtain⟨q,rfl⟩:=gJ h;have⟨am,g1,g2,g3,g4,g5⟩:=aW.obj s _ K;exact(EO (Z:=Z) (A:=A) (P:=P) (t:=t) (hp _ _ _ K) g1 Y g2 g4 g5).2 B F (cZ.1 q) rfl
   .rename_i el z l K;obtain⟨q,rfl⟩:=gJ h;exact(aeK s aT el _ l rfl K).2 B F (cZ.1 q) rfl
   .cases h
  .rename_i a6;obtain⟨q,rfl⟩:=gJ h;simp only[c6] at q;have aZ:=Kr q.1;rw[cd.J,aZ] at hp;simp only[bp] at hp;have⟨a,r,z,am,n,el,u,dK,au,br,ad,aw,bO,hq,JR⟩:=hp;have:=cZ.1 q.2;exact(EO (Z:=Z) (A:=A) (P:=P) (t:=t) au (aW.gf _ _ br).1 ad aw bO hq).2 B F Y rfl
  .rename_i s r aT;split at h
   .rename_i el z ab u K;split at h
    .rename_i aF hq;obtain⟨q,rfl⟩:=gJ h;have aV:=(jb.1 hq).1;have nT:(eS.arr el z ab u).real=true:=by cases ab<;>first|(simp at aV;done)|(cases u<;>rfl)
     have⟨am,g1,g2,g3,g4⟩:=aW.obj s _ K nT;have⟨g5,g6⟩:=g4.get r hq;rw[jq] at g6;exact(EO (Z:=Z) (A:=A) (P:=P) (t:=t) (hp _ _ _ _ K) g1 aV g2 g5 g6).2 B F (cZ.1 q) rfl
    .cases h
   .cases h
  .cases h
 .cases h
end
def Shape(A bw:be):Prop:=(∀s el z aF,look bw s=some (.box el z aF)->∃i6,look A s=some (.box el z i6))/\
 (∀s el z ab u,look bw s=some (.arr el z ab u)->∃ey,ey.length=ab.length/\look A s=some (.arr el z ey u))
def So(h:ab.length=f7.length)(g:yw a z ab u v):yw a z f7 u v:=by
 cases u with
 |false=>unfold yw at g ⊢;cases ab<;>cases f7<;>simp_all
 |true=>
  cases ab with
  |nil=>cases f7 with
   |nil=>exact g
   |cons=>simp at h
  |cons r ab=>cases f7 with
   |nil=>simp at h
   |cons gC f7=>show v=.slice a 0 (gC::f7).length 0 true z;rw[<-h];exact g
section
variable{U:dO}{Z:Nat->Nat}{A bw:be}
def Shape.P3(h:Shape A bw):∀{e}{v},cN U Z A e v->cN U Z bw e v
 |.J _,_,g=>g
 |.bT,_,g=>g
 |.iy,_,g=>g
 |.bH s aT,_,g=>λel z aF K=>by have⟨fG,B⟩:=h.1 _ _ _ _ K;exact g _ _ _ B
 |.bQ s,_,g=>λel z ab u K=>by have⟨fG,cb,B⟩:=h.2 _ _ _ _ _ K;exact So cb (g _ _ _ _ B)
 |.fF s r aT,_,g=>λel z ab u K=>by have⟨fG,cb,B⟩:=h.2 _ _ _ _ _ K;exact g _ _ _ _ B
 |.agg _,_,g=>g
 |.fn _ _ _,_,g=>g
def Shape.map(h:Shape A bw):ji id U Z A U Z bw:=λe v g=>h.P3 g
def td(e):dJ id e=e:=by cases e<;>simp [dJ]
def Shape.px(h:Shape A bw)(g:cd U Z A e v):cd U Z bw e v:=by have:=(h.map (U:=U) (Z:=Z)).px g;rwa [td] at this
def Shape.o8(h:Shape A bw):∀{l}{aM},eW U Z A l aM->eW U Z bw l aM
 |[],_,g=>g
 |e::l,_,g=>by obtain⟨v,aM,rfl,g1,g2⟩:=g;exact⟨v,aM,rfl,h.px g1,h.o8 g2⟩
def Shape.wh{E T}(h:Shape A bw)(g:gp U Z A n E T):gp U Z bw n E T:=⟨g.1,g.2.1,λi aH=>h.px (g.2.2 i aH)⟩
def Shape.qG(h:Shape A bw):∀{l}{aM},fl U Z A l aM->fl U Z bw l aM
 |[],_,g=>g
 |e::l,_,g=>by obtain⟨v,aM,rfl,g1,g2⟩:=g;exact⟨v,aM,rfl,h.P3 g1,h.qG g2⟩
def Shape.obj(h:Shape A bw)(g:ox U Z A H s D)(br:D.real->aq.get (Z s)=H.get (Z s)):ox U Z bw aq s D:=by
 cases D with
 |box el z aF=>
  have⟨am,g1,g2,g3,g4⟩:=g;refine⟨am,by rw[br rfl];exact g1,g2,g3,?_⟩;cases aF with
  |cc l=>exact g4
  |bE l=>exact⟨g4.1,h.qG g4.2⟩
 |arr el z ab u=>intro ad;have⟨am,g1,g2,g3,g4⟩:=g ad;exact⟨am,by rw[br ad];exact g1,g2,g3,g4⟩
end
def yT{aF fB}(h:look A s=some (.box el z aF)):Shape A (kr A s (.box el z fB)):=by
 constructor
 .intro t eC cI afr K;rw[ss] at K;by_cases e:t=s
  .subst e;rw[b3 rfl,h] at K;cases K;exact⟨_,h⟩
  .rw[bA e] at K;exact⟨_,K⟩
 .intro t eC cI ab u K;rw[ss] at K;by_cases e:t=s
  .subst e;rw[b3 rfl,h] at K;cases K
  .rw[bA e] at K;exact⟨_,rfl,K⟩
def alW(h:look A s=some (.arr el z ab u))(K:ab.length=f7.length):Shape A (kr A s (.arr el z f7 u)):=by
 constructor
 .intro t eC cI afr K;rw[ss] at K;by_cases e:t=s
  .subst e;rw[b3 rfl,h] at K;cases K
  .rw[bA e] at K;exact⟨_,K⟩
 .intro t eC cI ago vI gS;rw[ss] at gS;by_cases e:t=s
  .subst e;rw[b3 rfl,h] at gS;cases gS;exact⟨_,K,h⟩
  .rw[bA e] at gS;exact⟨_,rfl,gS⟩
def bL.v5{bs iq}(h:bL U Z A H)(K:look A s=some D)(ad:D.real)(fN:bs.real)(ak:Shape A (kr A s bs))(ay:ox U Z (kr A s bs) (H.put (Z s) iq) s bs):bL U Z (kr A s bs) (H.put (Z s) iq):=by
 have e8:∀t x,look (kr A s bs) t=some x->(t=s/\x=bs)\/(t≠s/\look A t=some x):=λt x al=>by
  rw[ss] at al;by_cases e:t=s
  .rw[b3 e,K] at al;cases al;exact .inl ⟨e,rfl⟩
  .rw[bA e] at al;exact .inr ⟨e,al⟩
 have aV:=h.lt s D K ad;refine⟨λa x aD=>?_,λt x al I=>?_,λt a6 x MV al hS I iU e=>?_,λt x al=>?_⟩
 .have⟨g1,g2⟩:=h.gf a x aD;refine⟨?_,g2⟩;rw[bd.si eN eN,g1];intro e;rw[e,aV.2] at aD;cases aD
 .rcases e8 t x al with⟨rfl,rfl⟩|⟨dB,B⟩
  .exact aV
  .exact h.lt t x B I
 .rcases e8 t x al with⟨rfl,rfl⟩|⟨dB,B⟩<;>rcases e8 a6 MV hS with⟨rfl,rfl⟩|⟨Ff,F⟩
  .rfl
  .exact h.inj _ _ _ _ K F ad iU e
  .exact h.inj _ _ _ _ B K I ad e
  .exact h.inj _ _ _ _ B F I iU e
 .rcases e8 t x al with⟨rfl,rfl⟩|⟨dB,B⟩
  .exact ay
  .refine ak.obj (h.obj t x B) λI=>bd.si eN eN λe=>dB (h.inj _ _ _ _ B K I ad e)
def eQ.v5{X}{U}{Z}{A}{H}{s}{D bs}{iq}(K:look A s=some D)(ad:D.real)(aI:f6 X s D=false):eQ X U Z A H U Z (kr A s bs) (H.put (Z s) iq):=by
 refine⟨λ_ _ h _=>h,ez _,λa aD ak _=>bd.si eN eN λe=>ak s D K ad aI e.symm,λa x h=>.inl h,λt x al I=>.inr ?_⟩;rw[ss] at al;by_cases e:t=s
 .exact⟨s,D,K,ad,by rw[e],λh=>by rw[aI] at h;cases h⟩
 .rw[bA e] at al;exact⟨t,x,al,I,rfl,λh=>h⟩
end Go.Tx
