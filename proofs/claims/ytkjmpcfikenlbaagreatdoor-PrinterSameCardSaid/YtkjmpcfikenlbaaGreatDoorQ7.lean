/- A part. -/
import Derived.Test.YtkjmpcfikenlbaaGreatDoorH2
import Derived.Test.YtkjmpcfikenlbaaGreatDoorQ6
set_option linter.all false
namespace Go.Tx
open Go Go.Ev
set_option maxRecDepth 100000
set_option maxHeartbeats 8000000
def Sw{s:bj}(h:s.length<1000):(ob s).ok:=(al.mS _).2 ⟨h,by show 0<100;decide,λ_ h=>by cases h⟩
def vk:∀t∈qg,t.b0:=by
 intro t h;refine⟨?_,by revert t;decide⟩;refine(al.mS t).2 ⟨by revert t;decide,by revert t;decide,λx M=>?_⟩;have:∀t∈qg,∀x∈t.l,x=ob [73,110,116]:=by simp only[qg,hS,Ax,Cm];rintro t (rfl|rfl|rfl|rfl|rfl|rfl|rfl|rfl|rfl|rfl|rfl) x M<;>simp[ob,al.l]at M ⊢ <;>exact M
 rw[this t h x M];exact Sw af
def nd{α:Type}{p:α->Prop}{l:List α}{i:Nat}{y:α}(h:∀x∈l,p x)(aE:p y):∀x∈l.set i y,p x:=λx M=>by
 rcases List.mem_or_eq_of_mem_set M with M|rfl
 .exact h x M
 .exact aE
def po{α:Type}{p:α->Prop}{l:List α}{y:α}(h:∀x∈l,p x)(aE:p y):∀x∈l++[y],p x:=λx M=>by
 rcases l8.1 M with M|M
 .exact h x M
 .rw[ji.1 M];exact aE
def qJ{e:ai}{ay mem bX fo jO g0 G}(aw:e.mj)(D:ay.length<1000)(F:mem.length<1000)(aq:bX.length<100)(aac:∀t∈bX,t.b0)(aL:fo.length<100)(an9:∀s∈fo,s.length<1000)(bO:jO.length<100)(aiX:∀a∈jO,a.ok)(cr:g0.length<100)(fK:∀x∈g0,x.ok):(e.w ay mem bX fo jO g0 G).ok:=
 (ai.mS _).2 ⟨⟨D,F,aq,aac,aL,an9,bO,aiX,cr,aw.2.2.2.2.2.2.2.2.2.1,aw.2.2.2.2.2.2.2.2.2.2⟩,fK⟩
def tl{e:ai}{ay mem bX fo jO g0 G}:(e.w ay mem bX fo jO g0 G).size=ai.fw g0+1:=ai.size_eq _
def abo(l:List ai)(n:Nat):ai.fw (l.take n)<=ai.fw l:=by have:=ai.EZ (l.take n) (l.drop n);rw[Bj]at this;omega
def Zj:∀(l:List ai)(i:Nat)(h:i<l.length)(y:ai),ai.fw (l.set i y)+l[i].size=ai.fw l+y.size
 |a::l,0,_,y=>by simp only[List.set_cons_zero,ai.fw,List.getElem_cons_zero];omega
 |a::l,i+1,h,y=>by have:=Zj l i (by simpa using h) y;simp only[List.set_cons_succ,ai.fw,List.getElem_cons_succ];omega
def Nt{k n g:Nat}{g0:List ai}(ar:k<100)(aD:n<18446744073709551616)(Y:g0.length<100)(h:∀x∈g0,x.ok):(ai.mk k [] [] n 1 [] 1 [] 1 [] g g0 (.mk [] 1 []) 0).ok:=by
 have z:(0:Nat)<100:=af;have cJ:(0:Nat)<1000:=af;refine(ai.mS _).2 ⟨⟨cJ,cJ,z,?_,z,?_,z,?_,Y,?_,aD⟩,h⟩
 .intro t au;cases au
 .intro t au;cases au
 .intro t au;cases au
 .show k<_;omega
def OI(n:Nat)(h:n<18446744073709551616):(qP n).ok:=Nt af h af λ_ h=>by cases h
def aiZ{e b7:ai}(h:lb e b7):∀k,GE k e->b7.ok/\b7.size<=e.size+1:=by
 have gV:∀n,(qP n).size=1:=λn=>by rw[ai.size_eq];rfl
 have sS:∀{e:ai}{k},GE k e->e.mj/\(∀x∈e.kids,x.ok)/\e.types.length<=5/\e.cg.length<=20/\e.bM.length<=20/\e.kids.length<=12/\e.size=ai.fw e.kids+1:=by
  intro e k h;have aV:=(ai.mS e).1 h.ok;cases k with
  |zero=>exact h.elim|succ k=>exact⟨aV.1,aV.2,h.1.o2,h.1.xx,h.1.jI,h.1.Gr,ai.size_eq e⟩
 induction h with
 |@id e G=>intro k ar;have⟨B,g0,cH,cq,c9,eg,ap⟩:=sS ar;have⟨c4,cl,dm,fp,h5,io,ld,jZ,il,rQ,rP⟩:=id B;exact⟨qJ B c4 cl dm fp h5 io ld jZ il g0,by rw[show(e.k e.kids G).size=_ from tl];omega⟩
 |@bool e n D F=>intro k ar;have⟨B,g0,cH,cq,c9,eg,ap⟩:=sS ar;refine⟨Nt af I af (λ_ h=>by cases h),?_⟩;rw[ai.size_eq];show 0+1<=_;omega
 |@wrap e x g D F aq=>intro k ar;refine⟨Nt af af (by show 1<100;decide) (λy aE=>by rw[ji.1 aE];exact F ar.ok),?_⟩;rw[ai.size_eq];show x.size+0+1<=_;omega
 |@ay e s G br D F=>intro k ar;have⟨B,g0,cH,cq,c9,eg,ap⟩:=sS ar;have⟨c4,cl,dm,fp,h5,io,ld,jZ,il,rQ,rP⟩:=id B;exact⟨qJ B br cl dm fp h5 io ld jZ il g0,by rw[tl];omega⟩
 |@op e s G br D=>intro k ar;have⟨B,g0,cH,cq,c9,eg,ap⟩:=sS ar;have⟨c4,cl,dm,fp,h5,io,ld,jZ,il,rQ,rP⟩:=id B;exact⟨qJ B br cl dm fp h5 io ld jZ il g0,by rw[tl];omega⟩
 |@mem e s fo G br D F=>
  intro k ar;have⟨B,g0,cH,cq,c9,eg,ap⟩:=sS ar;have⟨c4,cl,dm,fp,h5,io,ld,jZ,il,rQ,rP⟩:=id B;have xz:s.length<1000:=br.elim (λh=>by rw[h];exact cl) id;refine⟨?_,by rw[tl];omega⟩;rcases F with rfl|⟨z,cA,rfl⟩
  .exact qJ B c4 xz dm fp h5 io ld jZ il g0
  .exact qJ B c4 xz dm fp (by rw[kg];exact h5) (nd io cA) ld jZ il g0
 |@JZ e t G D F=>intro k ar;have⟨B,g0,cH,cq,c9,eg,ap⟩:=sS ar;have⟨c4,cl,dm,fp,h5,io,ld,jZ,il,rQ,rP⟩:=id B;exact⟨qJ B c4 cl (by rw[kg];exact dm) (nd fp (vk t D)) h5 io ld jZ il g0,by rw[tl];omega⟩
 |@Iv e t G D F=>intro k ar;have⟨B,g0,cH,cq,c9,eg,ap⟩:=sS ar;have⟨c4,cl,dm,fp,h5,io,ld,jZ,il,rQ,rP⟩:=id B;exact⟨qJ B c4 cl (by show 1<100;decide) (λx M=>by rw[ji.1 M];exact vk t D) h5 io ld jZ il g0,by rw[tl];omega⟩
 |@wH e fo G D F=>
  intro k ar;have⟨B,g0,cH,cq,c9,eg,ap⟩:=sS ar;have⟨c4,cl,dm,fp,h5,io,ld,jZ,il,rQ,rP⟩:=id B;have:=abo e.kids (e.kids.length - 1);refine⟨?_,by rw[tl];omega⟩;rcases F with rfl|⟨_,_,rfl⟩
  .exact qJ B c4 cl dm fp h5 io ld jZ (by rw[rR];omega) λx M=>g0 x (Ep M)
  .exact qJ B c4 cl dm fp (by rw[rR];omega) (λx M=>io x (Ep M)) ld jZ (by rw[rR];omega) λx M=>g0 x (Ep M)
 |@zX e fo G D=>
  intro k ar;have⟨B,g0,cH,cq,c9,eg,ap⟩:=sS ar;have⟨c4,cl,dm,fp,h5,io,ld,jZ,il,rQ,rP⟩:=id B;have zj:(e.kids++[qP 1]).length<100:=by rw[fP];show _+1<100;omega
  refine⟨?_,by rw[tl,ai.EZ];show _+((qP 1).size+0)+1<=_;rw[gV];omega⟩;rcases D with rfl|⟨_,rfl⟩
  .exact qJ B c4 cl dm fp h5 io ld jZ zj (po g0 (OI 1 af))
  .exact qJ B c4 cl dm fp (by rw[fP];show _+1<100;omega) (po io af) ld jZ zj (po g0 (OI 1 af))
 |@F1 e G D F=>intro k ar;have⟨B,g0,cH,cq,c9,eg,ap⟩:=sS ar;have⟨c4,cl,dm,fp,h5,io,ld,jZ,il,rQ,rP⟩:=id B;have:=abo e.kids (min e.bM.length e.kids.length);exact⟨qJ B c4 cl dm fp h5 io (by rw[rR];omega) (λx M=>jZ x (Ep M)) (by rw[rR];omega) λx M=>g0 x (Ep M),by rw[tl];omega⟩
 |@Ku e k s G h br D F=>intro df ar;have⟨B,g0,cH,cq,c9,eg,ap⟩:=sS ar;have⟨c4,cl,dm,fp,h5,io,ld,jZ,il,rQ,rP⟩:=id B;have:=jZ _ (fQ h);exact⟨qJ B c4 cl dm fp h5 io (by rw[kg];exact ld) (nd jZ ⟨br,this.2⟩) il g0,by rw[tl];omega⟩
 |@I2 e k g G h D F=>
  intro df ar;have⟨B,g0,cH,cq,c9,eg,ap⟩:=sS ar;have⟨c4,cl,dm,fp,h5,io,ld,jZ,il,rQ,rP⟩:=id B;have:=jZ _ (fQ h);have Y:e.bM[k].names.length<=10:=by
   cases df with
   |zero=>exact ar.elim|succ df=>exact(ar.1.jO _ (fQ h)).len
  exact⟨qJ B c4 cl dm fp h5 io (by rw[kg];exact ld) (nd jZ ⟨this.1,by show(e.bM[k].names++[[113]]).length<100;rw[fP];show _+1<100;omega,po this.2.2 af⟩) il g0,by rw[tl];omega⟩
 |@JM e a G br D=>intro k ar;have⟨B,g0,cH,cq,c9,eg,ap⟩:=sS ar;have⟨c4,cl,dm,fp,h5,io,ld,jZ,il,rQ,rP⟩:=id B;exact⟨qJ B c4 cl dm fp h5 io (by rw[fP];show _+1<100;omega) (po jZ br) (by rw[fP];show _+1<100;omega) (po g0 (OI 3 af)),by rw[tl,ai.EZ];show _+((qP 3).size+0)+1<=_;rw[gV];omega⟩
 |@l0 e i y G h D bQ=>
  intro k ar;have⟨B,g0,cH,cq,c9,eg,ap⟩:=sS ar;have⟨c4,cl,dm,fp,h5,io,ld,jZ,il,rQ,rP⟩:=id B;cases k with
  |zero=>exact ar.elim
  |succ k=>
  have⟨wJ,zi⟩:=bQ k (ar.2 _ (fQ h));have:=Zj e.kids i h y;exact⟨qJ B c4 cl dm fp h5 io ld jZ (by rw[kg];exact il) (nd g0 wJ),by rw[show(e.k (e.kids.set i y) G).size=_ from tl];omega⟩
def anc{e b7:ai}(h:lb e b7)(aw:GE 10 e):b7.b0:=by have⟨D,F⟩:=aiZ h 10 aw;refine⟨D,?_⟩;have:=aw.size;have aq:(13:Nat) ^ 10<200000000000:=af;omega
def tj{α:Type}{l:List α}{x:α}{n m:Nat}(h:l.length<=n)(cz:n+1<m):(l++[x]).length<m:=by rw[fP];show _+1<m;omega
def aob{x y:dX}(h:va x y)(g:DD x)(B:x.ok):y.ok:=by
 have⟨cL,dP,fW,gi,iW,gE⟩:=B;cases h with
 |dr=>exact⟨cL,dP,fW,gi,iW,gE⟩|e6=>exact⟨cL,dP,fW,gi,iW,gE⟩|PD=>exact⟨cL,dP,tj g.pl af,po gi af,iW,gE⟩
 |since n h=>exact⟨by show n<_;omega,dP,fW,gi,iW,gE⟩
 |CJ k h=>exact⟨cL,dP,fW,gi,by show(List.set ..).length<100;rw[kg];exact iW,nd gE ⟨(gE _ (fQ h)).1,(gE _ (fQ h)).2⟩⟩
 |Cn k h t au=>exact⟨cL,dP,fW,gi,by show(List.set ..).length<100;rw[kg];exact iW,nd gE ⟨(gE _ (fQ h)).1,vk t au⟩⟩
 |Dn k h s ap=>exact⟨cL,dP,fW,gi,by show(List.set ..).length<100;rw[kg];exact iW,nd gE ⟨nP ap rfl,(gE _ (fQ h)).2⟩⟩
def aqU{x y:dV}(h:u2 x y)(g:xy x)(B:x.ok):y.ok:=by
 have⟨cL,dP,fW,gi,iW,gE⟩:=B;cases h with
 |dr=>exact⟨cL,dP,fW,gi,iW,gE⟩|e6=>exact⟨cL,dP,fW,gi,iW,gE⟩
 |Vp t au=>exact⟨cL,dP,fW,gi,tj g.ou af,po gE ⟨by show 2<1000;decide,by show 1<100;decide,λu hu=>by rw[ji.1 hu];exact vk t au⟩⟩
 |since n h=>exact⟨by show n<_;omega,dP,fW,gi,iW,gE⟩
 |CJ k h=>exact⟨cL,dP,fW,gi,by show(List.set ..).length<100;rw[kg];exact iW,nd gE ⟨(gE _ (fQ h)).1,(gE _ (fQ h)).2⟩⟩
 |Cn k h t au=>exact⟨cL,dP,fW,gi,by show(List.set ..).length<100;rw[kg];exact iW,nd gE ⟨(gE _ (fQ h)).1,tj (g.A3 _ (fQ h)).pl af,po (gE _ (fQ h)).2.2 (vk t au)⟩⟩
 |Dn k h s ap=>exact⟨cL,dP,fW,gi,by show(List.set ..).length<100;rw[kg];exact iW,nd gE ⟨nP ap rfl,(gE _ (fQ h)).2⟩⟩
def ajm{x y:eG}(h:vD x y)(g:KI x)(B:x.ok):y.ok:=by
 have⟨cL,dP,fW,gi⟩:=id B;cases h with
 |none h=>exact B|dr=>exact⟨cL,dP,fW,gi⟩|pV=>exact⟨cL,dP,fW,gi⟩
 |UQ s d ap aY=>exact⟨cL,dP,tj g.xx af,po gi ⟨nP ap rfl,by show 1<100;decide,λu hu=>by rw[ji.1 hu];exact⟨Sw af,by decide⟩,⟨Sw af,by show(ob [73,110,116]).ir<1000;decide⟩,nP aY rfl⟩⟩
 |eW h t au=>have:=gi _ (fQ h);exact⟨cL,dP,by show(List.set ..).length<100;rw[kg];exact fW,nd gi ⟨this.1,this.2.1,this.2.2.1,vk t au,this.2.2.2.2⟩⟩
 |arg h t au=>have:=gi _ (fQ h);exact⟨cL,dP,by show(List.set ..).length<100;rw[kg];exact fW,nd gi ⟨this.1,tj (g.rN _ (fQ h)).jI af,po this.2.2.1 (vk t au),this.2.2.2⟩⟩
 |drop lx=>exact⟨cL,dP,by show(List.drop 1 x.eu).length<100;rw[qK];omega,λm hm=>gi m (Ay hm)⟩
def anJ{x y:em}(h:vq x y)(g:Gp x)(B:x.ok):y.ok:=by
 have⟨cL,dP,fW,gi,iW,gE⟩:=B;cases h with
 |bL t au=>exact⟨cL,dP,fW,vk t au,iW,gE⟩
 |T6=>exact⟨cL,dP,fW,gi,by show 0<100;decide,λ_ h=>by cases h⟩
 |bind m f hm a1=>exact⟨cL,dP,fW,gi,tj g.eh af,po gE ⟨nP hm rfl,nP a1 rfl⟩⟩
 |sg s ap=>exact⟨cL,tj g.hQ af,po fW ⟨nP ap rfl,by show 0<100;decide,λ_ h=>by cases h⟩,gi,iW,gE⟩
 |gtr h s ap=>have:=fW _ (fQ h);exact⟨cL,by show(List.set ..).length<100;rw[kg];exact dP,nd fW ⟨this.1,tj (g.ge _ (fQ h)).len af,po this.2.2 (nP ap rfl)⟩,gi,iW,gE⟩
 |Sy h=>exact⟨cL,dP,fW,gi,iW,gE⟩|Qq s ap=>exact⟨nP ap rfl,dP,fW,gi,iW,gE⟩
def ags{x y:cu}(h:tv x y)(g:mT x)(B:x.ok):y.ok:=by
 have⟨cL,dP,fW,gi,iW,gE,oc,rM⟩:=id B;cases h with
 |id=>exact B|dr=>exact⟨cL,dP,fW,gi,iW,gE,oc,rM⟩|inl=>exact⟨cL,dP,fW,gi,iW,gE,oc,rM⟩
 |since n h=>exact⟨by show n<_;omega,dP,fW,gi,iW,gE,oc,rM⟩
 |eW t au=>exact⟨cL,dP,fW,gi,iW,gE,vk t au,rM⟩
 |P8 i h t au=>have:=gE _ (fQ h);exact⟨cL,dP,fW,gi,by show(List.set ..).length<100;rw[kg];exact iW,nd gE ⟨this.1,vk t au,this.2.2⟩,oc,rM⟩
 |Qb t au=>have fg:LC.b0:=⟨Nt af af af (λ_ h=>by cases h),by rw[ai.size_eq];show 0+1<_;decide⟩;exact⟨cL,dP,fW,gi,tj g.jI af,po gE ⟨by show 2<1000;decide,vk t au,fg⟩,oc,rM⟩
 |sg s ap=>exact⟨cL,dP,tj g.hQ af,po gi ⟨nP ap rfl,by show 0<100;decide,λ_ h=>by cases h⟩,iW,gE,oc,rM⟩
 |Ta i h=>have:=gE _ (fQ h);exact⟨cL,dP,fW,gi,by show(List.set ..).length<100;rw[kg];exact iW,nd gE ⟨this.1,this.2.1,OI 1 af,by rw[ai.size_eq];show 0+1<_;decide⟩,oc,rM⟩
def afU{m y:cZ}(h:vb m y)(g:iN m):y.ok:=by
 have⟨e5,cT,cN,g3,iw,cH,bC,cq,aX,c9,b4,eg,dc,fJ,eC⟩:=g.ok;cases h with
 |body i h y aE=>have:=eC _ (fQ h);exact⟨e5,cT,cN,g3,iw,cH,bC,cq,aX,c9,b4,eg,dc,by show(List.set ..).length<100;rw[kg];exact fJ,nd eC ⟨this.1,this.2.1,this.2.2.1,this.2.2.2.1,this.2.2.2.2.1,this.2.2.2.2.2.1,this.2.2.2.2.2.2.1,anc aE (g.gB _ (fQ h)).yc⟩⟩
 |fn i h y aE=>exact⟨e5,cT,cN,g3,iw,cH,bC,cq,aX,c9,b4,eg,dc,by show(List.set ..).length<100;rw[kg];exact fJ,nd eC (ags aE (g.gB _ (fQ h)) (eC _ (fQ h)))⟩
 |iy i h y aE=>exact⟨e5,cT,cN,g3,iw,by show(List.set ..).length<100;rw[kg];exact cH,nd bC (aob aE (g.cT _ (fQ h)) (bC _ (fQ h))),cq,aX,c9,b4,eg,dc,fJ,eC⟩
 |un i h y aE=>exact⟨e5,cT,cN,g3,iw,cH,bC,by show(List.set ..).length<100;rw[kg];exact cq,nd aX (aqU aE (g.cN _ (fQ h)) (aX _ (fQ h))),c9,b4,eg,dc,fJ,eC⟩
 |ec i h y aE=>exact⟨e5,cT,cN,g3,iw,cH,bC,cq,aX,by show(List.set ..).length<100;rw[kg];exact c9,nd b4 (ajm aE (g.el _ (fQ h)) (b4 _ (fQ h))),eg,dc,fJ,eC⟩
 |Is i h y aE=>exact⟨e5,cT,cN,g3,iw,cH,bC,cq,aX,c9,b4,by show(List.set ..).length<100;rw[kg];exact eg,nd dc (anJ aE (g.e0 _ (fQ h)) (dc _ (fQ h))),fJ,eC⟩
 |Rd y aE=>
  cases aE with
  |id=>exact⟨e5,cT,cN,g3,iw,cH,bC,cq,aX,c9,b4,eg,dc,fJ,eC⟩
  |NZ lx h=>exact⟨e5,cT,cN,by show(List.drop 1 m.fA).length<100;rw[qK];omega,λm hm=>iw m (Ay hm),cH,bC,cq,aX,c9,b4,eg,dc,fJ,eC⟩
  |N2 s r ap D F=>exact⟨e5,cT,cN,tj (n:=0) (by show m.fA.length<=0;rw[g.tW];decide) af,po iw ⟨nP ap rfl,by show r<_;omega⟩,cH,bC,cq,aX,c9,b4,eg,dc,fJ,eC⟩
  |Qz i h=>exact⟨e5,cT,cN,g3,iw,cH,bC,cq,aX,c9,b4,eg,dc,tj g.fJ af,po eC (eC _ (fQ h))⟩|Sf h=>exact⟨e5,cT,cN,g3,iw,cH,bC,cq,aX,c9,b4,tj g.eg af,po dc (dc _ (fQ h)),fJ,eC⟩
  |Dz lx h=>exact⟨e5,cT,cN,g3,iw,by show(List.drop 1 m.dJ).length<100;rw[qK];omega,λm hm=>bC m (Ay hm),cq,aX,c9,b4,eg,dc,fJ,eC⟩
attribute [local irreducible] eo eA bU eE eJ eN cU eX
section
variable{C:Nat->cE}{ext:Nat->Option eS}{Q:e9}(aa:Env C ext Q)
include aa
def akV(s:bj)(a:Nat)(ap:s.length<1000000)(aC:a<=s.length):dz C 234 [.J (.str s),.J (.int 3 a)] λv=>∃n,v=.int 3 n/\a<=n/\n<=s.length/\(∀h:n<s.length,A1 s[n].toNat=false):=by
 refine aa.z 234 (gK [(0,[3],[],[])]) rfl rfl ?_;refine N ?_;refine qU (λi:Nat=>[(1,.J (.int 3 i))]) (λ_=>[]) (λi=>s.length - i) (λi=>a<=i/\i<=s.length) ⟨a,⟨fI a,aC⟩,by kernel_rfl⟩ (λi ba a7 bt=>?_);have⟨dR,du⟩:=a7;rcases m4 i s.length with aN|aN
 ·(conv=>whnf)
  repeat(first|refine .yes (dg.2 aN) ?_|refine⟨aN,⟨_,lX aN,?_⟩⟩|refine bZ ?_);(conv=>whnf)
  refine bn (NH aa s[i]) ?_;refine eO (λh=>?_) (λh=>?_)
  .refine N ?_;exact bt (i+1) _ _ I ⟨I,I⟩ rfl
  .refine N ?_;exact⟨rfl,i,rfl,dR,du,λ_=>h⟩
 ·(conv=>whnf)
  repeat(first|refine .no (by rw[Fz,pU I]) ?_|refine bZ ?_);(conv=>whnf)
  exact⟨rfl,i,rfl,dR,du,λh=>absurd h I⟩
def aoB(s:bj)(a:Nat)(ap:s.length<1000000)(aC:a<=s.length):dz C 233 [.J (.str s),.J (.int 3 a)] λv=>∃n,v=.int 3 n/\a<=n/\n<=s.length/\(∀h:n<s.length,xl s[n].toNat=false):=by
 refine aa.z 233 (gK [(0,[3],[],[])]) rfl rfl ?_;refine N ?_;refine qU (λi:Nat=>[(1,.J (.int 3 i))]) (λ_=>[]) (λi=>s.length - i) (λi=>a<=i/\i<=s.length) ⟨a,⟨fI a,aC⟩,by kernel_rfl⟩ (λi ba a7 bt=>?_);have⟨dR,du⟩:=a7;rcases m4 i s.length with aN|aN
 ·(conv=>whnf)
  repeat(first|refine .yes (dg.2 aN) ?_|refine⟨aN,⟨_,lX aN,?_⟩⟩|refine bZ ?_);(conv=>whnf)
  refine hZ (Ox aa s[i]) ?_;cases h:xl s[i].toNat
  ·(conv=>whnf)
   repeat(first|refine⟨aN,⟨_,lX aN,?_⟩⟩|refine .no rfl ?_|refine bZ ?_);(conv=>whnf)
   refine bn (NH aa s[i]) ?_;refine eO (λD=>?_) (λD=>?_)
   .refine N ?_;exact bt (i+1) _ _ I ⟨I,I⟩ rfl
   .refine N ?_;exact⟨rfl,i,rfl,dR,du,λ_=>h⟩
  ·(conv=>whnf)
   repeat(first|refine .yes rfl ?_|refine bZ ?_);(conv=>whnf)
   exact bt (i+1) _ _ I ⟨I,I⟩ rfl
 ·(conv=>whnf)
  repeat(first|refine .no (by rw[Fz,pU I]) ?_|refine bZ ?_);(conv=>whnf)
  exact⟨rfl,i,rfl,dR,du,λh=>absurd h I⟩
theorem akN(s:bj)(ap:s.length<1000000):dz C 235 [.J (.str s)] λv=>∃b,v=.bool b:=by
 refine aa.z 235 ff rfl rfl ?_
 (conv=>whnf)
 repeat' (first|refine bZ ?_|refine .nice (by simp only[List.length_cons,List.length_nil];omega) ?_|(with_reducible first|apply eh|apply jQ|apply ch|apply cQ|apply eQ|apply mr|apply mD|apply eO)|fail)<;>intros<;>(conv=>whnf)
 all_goals exact⟨rfl,_,rfl⟩
theorem ajB(s : bj)(a : Nat)(ap : s.length < 1000000)(aC : a < s.length) : dz C 236 [.J (.str s), .J (.int 3 a)] λv => ∃ n, v = .int 3 n ∧ a ≤ n ∧ n ≤ s.length := by
  refine aa.z 236 (gK [(0,[6,7],[],[])]) rfl rfl ?_
  rcases Nat.lt_or_ge (a + 1) s.length with D | D
  · (conv => whnf)
    repeat (first | refine .yes (dg.2 D) ?_ | refine ⟨by omega, ?_⟩ | refine bZ ?_); (conv => whnf)
    refine cQ (λF => ?_) (λF => ?_)
    · refine N ?_
      exact ⟨rfl, a + 2, rfl, by omega, by omega⟩
    (conv => whnf)
    repeat (first | refine ⟨by omega, ?_⟩ | refine bZ ?_); (conv => whnf)
    refine cQ (λaq => ?_) (λaq => ?_)
    · refine N ?_
      exact ⟨rfl, a + 2, rfl, by omega, by omega⟩
    refine N ?_
    refine Hu 17 4 (λ_ => []) (λ_ => True) ⟨trivial, rfl, rfl⟩ (λi ba aN a7 bt => ?_) (λba a7 => ?_)
    · have aQ : i < ([123, 125, 91, 93, 40, 41, 59, 58, 44, 46, 61, 60, 43, 45, 42, 47, 37] : bj).length := aN
      (conv => whnf)
      repeat (first | refine .nice (by simp only [List.length_cons, List.length_nil]; omega) ?_ | refine .yes (dg.2 aQ) ?_ | refine ⟨aC, ⟨_, List.getElem?_eq_getElem aC, ?_⟩⟩ | refine ⟨aQ, ⟨_, List.getElem?_eq_getElem aQ, ?_⟩⟩ | refine bZ ?_); (conv => whnf)
      refine ch (λa0 => ?_) (λa0 => ?_)
      · refine N ?_
        exact ⟨rfl, a + 1, rfl, by omega, by omega⟩
      · refine N ?_
        exact bt _ _ trivial rfl rfl
    · (conv => whnf)
      repeat (first | refine .no (by decide) ?_ | refine .nice (by simp only [List.length_cons, List.length_nil]; omega) ?_ | refine bZ ?_); (conv => whnf)
      exact ⟨rfl, a, rfl, by omega, by omega⟩
  · (conv => whnf)
    repeat (first | refine .no (by rw [Fz, decide_eq_false (by omega)]) ?_ | refine bZ ?_); (conv => whnf)
    refine Hu 17 4 (λ_ => []) (λ_ => True) ⟨trivial, rfl, rfl⟩ (λi ba aN a7 bt => ?_) (λba a7 => ?_)
    · have aQ : i < ([123, 125, 91, 93, 40, 41, 59, 58, 44, 46, 61, 60, 43, 45, 42, 47, 37] : bj).length := aN
      (conv => whnf)
      repeat (first | refine .nice (by simp only [List.length_cons, List.length_nil]; omega) ?_ | refine .yes (dg.2 aQ) ?_ | refine ⟨aC, ⟨_, List.getElem?_eq_getElem aC, ?_⟩⟩ | refine ⟨aQ, ⟨_, List.getElem?_eq_getElem aQ, ?_⟩⟩ | refine bZ ?_); (conv => whnf)
      refine ch (λa0 => ?_) (λa0 => ?_)
      · refine N ?_
        exact ⟨rfl, a + 1, rfl, by omega, by omega⟩
      · refine N ?_
        exact bt _ _ trivial rfl rfl
    · (conv => whnf)
      repeat (first | refine .no (by decide) ?_ | refine .nice (by simp only [List.length_cons, List.length_nil]; omega) ?_ | refine bZ ?_); (conv => whnf)
      exact ⟨rfl, a, rfl, by omega, by omega⟩
def aeD(s:bj)(a:Nat)(ap:s.length<1000000)(aC:a<=s.length):dz C 167 [.J (.str s),.J (.int 3 a)] λv=>∃n,v=.int 3 n/\a<=n/\n<=s.length:=by
 refine aa.z 167 (gK [(0,[3,4,5,6],[],[]),(3,[6],[],[])]) rfl rfl ?_;refine N ?_;refine qU (λi:Nat=>[(1,.J (.int 3 i))]) (λ_=>[]) (λi=>s.length - i) (λi=>a<=i/\i<=s.length) ⟨a,⟨fI a,aC⟩,by kernel_rfl⟩ (λi ba a7 bt=>?_);have⟨dR,du⟩:=a7;rcases m4 i s.length with aN|aN
 ·(conv=>whnf)
  repeat' (first|refine .yes (dg.2 aN) ?_|refine⟨aN,⟨_,lX aN,?_⟩⟩|refine bZ ?_|(refine ch (λ_=>?_) (λ_=>?_))|fail)<;>(conv=>whnf)
  all_goals first|exact bt (i+1) _ _ I ⟨I,I⟩ rfl|exact⟨rfl,i,rfl,dR,du⟩|skip
  have atb:s[i].toNat=35:=by assumption
  refine qU (λj:Nat=>[(1,.J (.int 3 j))]) (λ_=>[]) (λj=>s.length - j) (λj=>i<=j/\j<=s.length) ⟨i,⟨fI i,du⟩,by kernel_rfl⟩ (λj gl dq fj=>?_);have⟨gq,fN⟩:=dq;rcases m4 j s.length with bl|bl
  ·(conv=>whnf)
   repeat(first|refine .yes (dg.2 bl) ?_|refine⟨bl,⟨_,lX bl,?_⟩⟩|refine bZ ?_);(conv=>whnf)
   refine eQ ?_;refine ch (λa0=>?_) (λa0=>?_)
   .have ed:i≠j:=by rintro rfl;omega
    refine N ?_;exact bt j _ _ I ⟨I,fN⟩ rfl
   .refine N ?_;exact fj (j+1) _ _ I ⟨I,I⟩ rfl
  ·(conv=>whnf)
   repeat(first|refine .no (by rw[Fz,pU I]) ?_|refine bZ ?_);(conv=>whnf)
   exact bt j _ _ I ⟨I,fN⟩ rfl
 ·(conv=>whnf)
  repeat(first|refine .no (by rw[Fz,pU I]) ?_|refine bZ ?_);(conv=>whnf)
  exact⟨rfl,i,rfl,dR,du⟩
def ari(s:bj)(a:Nat)(ap:s.length<1000000)(aC:a<s.length):dz C 168 [.J (.str s),.J (.int 3 a)] λv=>∃k w p e,v=.gy [.agg [.int 3 k,.str w,.int 3 p],.int 3 e]/\(e=0->0<w.length/\a+w.length<=s.length):=by
 refine aa.z 168 ff rfl rfl ?_;have Pk:∀n,a<=n->n<=s.length->((s.drop a).take (n - a)).length=n - a:=λn D F=>by rw[rR,qK];omega
 (conv=>whnf)
 repeat(first|refine⟨aC,⟨_,lX aC,?_⟩⟩|refine bZ ?_);(conv=>whnf)
 refine bn (Ox aa s[a]) ?_;refine eO (λh=>?_) (λh=>?_)
 .refine N ?_;refine aW (aoB aa s a ap I) ?_;rintro v A ⟨rfl,n,rfl,c4,cl,dm⟩;have ed:a≠n:=by rintro rfl;rw[dm aC]at h;cases h
  have cw:=Pk n c4 cl;refine N ?_;refine eh (λF=>?_) (λF=>?_)
  .refine N ?_;exact⟨rfl,0,[],0,4,rfl,λh=>by cases h⟩
  ·(conv=>whnf)
   repeat(first|refine⟨I,?_⟩|refine bZ ?_);(conv=>whnf)
   exact⟨rfl,1,_,a,0,rfl,λ_=>by rw[cw];omega⟩
 refine N ?_
 (conv=>whnf)
 repeat(first|refine⟨aC,⟨_,lX aC,?_⟩⟩|refine bZ ?_);(conv=>whnf)
 refine bn (NH aa s[a]) ?_;refine eO (λh=>?_) (λh=>?_)
 .refine N ?_;refine aW (akV aa s a ap I) ?_;rintro v A ⟨rfl,n,rfl,c4,cl,dm⟩;have ed:a≠n:=by rintro rfl;rw[dm aC]at h;cases h
  have cw:=Pk n c4 cl;refine N ?_;have au:dz C 235 [.J (.str ((s.drop a).take (n - a)))] λv=>∃b,v=.bool b:=akN aa _ I;refine eh (λF=>?_) (λF=>?_)
  ·(conv=>whnf)
   repeat(first|refine⟨aC,⟨_,lX aC,?_⟩⟩|refine bZ ?_);(conv=>whnf)
   refine ch (λaq=>?_) (λaq=>?_)
   .refine N ?_;exact⟨rfl,0,[],0,1,rfl,λh=>by cases h⟩
   (conv=>whnf)
   repeat(first|refine⟨I,?_⟩|refine bZ ?_);(conv=>whnf)
   refine aW au ?_;rintro v A ⟨rfl,b,rfl⟩;cases b
   ·(conv=>whnf)
    repeat(first|refine⟨I,?_⟩|refine bZ ?_);(conv=>whnf)
    exact⟨rfl,2,_,a,0,rfl,λ_=>by rw[cw];omega⟩
   .refine N ?_;exact⟨rfl,0,[],0,4,rfl,λh=>by cases h⟩
  ·(conv=>whnf)
   repeat(first|refine⟨I,?_⟩|refine bZ ?_);(conv=>whnf)
   refine aW au ?_;rintro v A ⟨rfl,b,rfl⟩;cases b
   ·(conv=>whnf)
    repeat(first|refine⟨I,?_⟩|refine bZ ?_);(conv=>whnf)
    exact⟨rfl,2,_,a,0,rfl,λ_=>by rw[cw];omega⟩
   .refine N ?_;exact⟨rfl,0,[],0,4,rfl,λh=>by cases h⟩
 refine N ?_;refine aW (ajB aa s a ap I) ?_;rintro v A ⟨rfl,n,rfl,c4,cl⟩;have cw:=Pk n c4 cl;refine N ?_;refine ch (λF=>?_) (λF=>?_)
 .refine N ?_;exact⟨rfl,0,[],0,1,rfl,λh=>by cases h⟩
 ·(conv=>whnf)
  repeat(first|refine⟨I,?_⟩|refine bZ ?_);(conv=>whnf)
  exact⟨rfl,3,_,a,0,rfl,λ_=>by rw[cw];omega⟩
def QZ(x:Nat×bj×Nat):di:=[.int 3 x.1,.str x.2.1,.int 3 x.2.2]
def anD(s:bj)(ap:s.length<1000000):dz C 87 [.J (.str s)] λv=>∃a p e,v=.gy [a,.int 3 p,.int 3 e]:=by
 refine aa.z 87 (gK [(0,[6,7,8,9,10],[⟨false,4,0,900,211,3⟩],[900])]) rfl rfl ?_;refine N ?_;refine aW (aeD aa s 0 ap I) ?_;rintro v A ⟨rfl,n,rfl,_,aD⟩;refine N ?_;refine qU (α:=Nat×List (Nat×bj×Nat)) (λa=>[(4,.bD 900),(5,.J (.int 3 a.1))]) (λa=>[(900,.bF 211 3 (a.2.map QZ) true)]) (λa=>s.length - a.1) (λa=>a.1<=s.length/\a.2.length<=6000) ⟨(n,[]),⟨aD,by simp⟩,by kernel_rfl⟩ (λq ba a7 bt=>?_);have⟨i,l⟩:=q;have⟨dR,du⟩:=a7;simp only at dR du;have atV:(List.map QZ (i,l).snd).length=l.length:=bW;have asM:(l.map QZ).length=l.length:=bW;rcases m4 i s.length with aN|aN
 ·(conv=>whnf)
  repeat(first|refine .yes (dg.2 aN) ?_|refine bZ ?_);(conv=>whnf)
  refine aW (ari aa s i ap aN) ?_;rintro v A ⟨rfl,k,w,p,e,rfl,cw⟩;refine N ?_;refine eQ ?_;refine ch (λD=>?_) (λD=>?_);rotate_left
  .refine N ?_;exact⟨rfl,_,_,_,rfl⟩
  have cw:=cw D;refine N ?_;refine jQ (λF=>?_) (λF=>?_)
  .refine N ?_;exact⟨rfl,_,_,_,rfl⟩
  refine bw ?_;refine aW (aeD aa s (i+w.length) ap cw.2) ?_;rintro v A ⟨rfl,cI,rfl,er,f8⟩;refine N ?_;refine bt (cI,l++[(k,w,p)]) _ _ (by simp only;omega) ⟨f8,y5⟩ ?_;simp only[jj,gg,hq];rfl
 ·(conv=>whnf)
  repeat(first|refine .no (by rw[Fz,pU I]) ?_|refine bZ ?_);(conv=>whnf)
  exact⟨rfl,_,_,_,rfl⟩
def agu(s:bj)(ap:s.length<100000000000000000):dz C 33 [.J (.str s)] λv=>∃a p e,v=.gy [a,.int 3 p,.int 3 e]:=by
 refine aa.z 33 ff rfl rfl ?_;refine N ?_;refine eh (λh=>?_) (λh=>?_)
 .refine N ?_;exact⟨rfl,_,_,_,rfl⟩
 refine N ?_;refine aW (anD aa s I) ?_;rintro v A ⟨rfl,a,p,e,rfl⟩;refine N ?_;refine eQ ?_;refine ch (λD=>?_) (λD=>?_)
 .refine N ?_;exact⟨rfl,_,_,_,rfl⟩
 .refine N ?_;exact⟨rfl,_,_,_,rfl⟩
def aaJ(x:cZ)(M:x.ok)(aB:AP x->(∀f∈x.funcs,wA f<100000000000000000)/\(m1 x).length<100000000000000000):dz C 10 [.J (.agg x.cells)] λv=>∃s e,v=.gy [.str s,.int 3 e]/\(e=0->AP x/\s=m1 x):=by
 refine aa.z 10 ff rfl rfl ?_;refine N ?_;refine aW (aqz aa x M) ?_;rintro v A ⟨rfl,b,rfl,aI⟩;cases b
 .refine N ?_;exact⟨rfl,_,19,rfl,λh=>by cases h⟩
 have aI:=aI rfl;have⟨cD,dp⟩:=aB aI;have dv:=aoJ aa x M aI.2.2.2.2.2.2.2.2.2.2.2 cD dp;refine N ?_;refine bn dv ?_;refine aW (agu aa (m1 x) dp) ?_;rintro v A ⟨rfl,a,p,e,rfl⟩;refine N ?_;refine eQ ?_;refine ch (λD=>?_) (λD=>?_)
 .refine N ?_;exact⟨rfl,_,0,rfl,λ_=>⟨aI,rfl⟩⟩
 .refine N ?_;exact⟨rfl,_,4,rfl,λh=>by cases h⟩
end
def H3{α:Type}{l:List α}{i j:Nat}{a:α}(h:i<l.length):i<(l.set j a).length:=by rw[kg];exact h
def adO{X c n}:jo X (.int c n)=.int c n:=lv (by simp only[cf])
def abS{X}{s:bj}:jo X (.str s)=.str s:=lv (by simp only[cf])
def abt{X}:jo X .undef=.undef:=lv (by simp only[cf])
def ai.JY(e:ai)(t:al)(p:Nat):ai:=.mk e.kind e.ay e.mem e.num e.aj e.types e.an e.cg e.aM e.bM e.bs e.kids t p
def XP{e:ai}{t p}:(e.JY t p).aA=e.aA:=by rw[ai.jD,ai.jD e];rfl
def Zi{e:ai}{t p}(h:e.b0):(e.JY t p).b0:=⟨(ai.mS _).2 ⟨h.one,((ai.mS _).1 h.1).2⟩,by have:=h.2;rw[ai.size_eq]at this ⊢;exact this⟩
def B0(f:cu)(t:al)(p:Nat):cu:={f with body:=f.body.JY t p}
def q6:al:=.mk [73,110,116] 1 []
def amZ{f:cu}{t p}:(B0 f t p).aA=f.aA:=by show cu.mk _ _ _ _ _ _ _ _ _ _ (f.body.JY t p).aA=_;rw[XP];rfl
def jq(x:cZ)(g:Nat)(f:cu):cZ:={x with dj:=g,funcs:=x.funcs.set 0 f}
def aoj{x:cZ}{g t p}(h:0<x.funcs.length):(jq x g (B0 x.funcs[0] t p)).aA=x.aA:=by show cZ.mk _ _ _ _ _ _ _ _ _ _ _ _ _ _ (List.map cu.aA (x.funcs.set 0 _))=_;rw[List.map_set,amZ,<-List.map_set,List.set_getElem_self];rfl
def ajF{x:cZ}{f mh:cu}:((List.map cu.row x.funcs).set 0 f.row).set 0 mh.row=List.map cu.row (x.funcs.set 0 mh):=by rw[List.set_set,List.map_set]
def aru{x:cZ}{g t p}(h:0<x.funcs.length)(B:x.ok):(jq x g (B0 x.funcs[0] t p)).ok:=by have⟨e5,cT,cN,g3,iw,cH,bC,cq,aX,c9,b4,eg,dc,fJ,eC⟩:=B;have⟨cL,dP,fW,gi,iW,gE,oc,rM⟩:=eC _ (fQ h);exact⟨e5,cT,cN,g3,iw,cH,bC,cq,aX,c9,b4,eg,dc,by show(List.set ..).length<100;rw[kg];exact fJ,nd eC ⟨cL,dP,fW,gi,iW,gE,oc,Zi rM⟩⟩
section
variable{C:Nat->cE}{ext:Nat->Option eS}{Q:e9}(aa:Env C ext Q)
include aa
variable{g:Nat}
attribute [local irreducible] cf eD h7
omit aa in
def As.imp{f bX b8 ov}(h:As C f bX b8)(a0:∀ak z aJ,b8 ak z aJ->ov ak z aJ):As C f bX ov:=λU Z H fV D F=>by have⟨ak,z,aJ,a,ax,az,bm,aq,aL⟩:=h U Z H fV D F;exact⟨ak,z,aJ,a,ax,az,bm,a0 _ _ _ aq,aL⟩
def afv(bI:g / 2=3)(aS:jW Q):As C 6 [.op g Q.W] λak z aJ=>ak=60/\z=aJ.length/\aJ=[.op g Q.W,.int 3 0]:=by
 have D:cf [60] (.op g Q.W)=false:=aS.cj bI rfl;have F:∀t:b9,cf [60] t=false->eD [60] [.op g Q.W,t]=false:=λt au=>by rw[eD,eD,eD,D,au];rfl
 refine bU.akT (P:=λaJ=>aJ=[.op g Q.W,.int 3 0]) ?_ (by rw[eD,eD,D];rfl);refine aa.y 6 ff rfl rfl ?_
 (conv=>whnf)
 repeat(refine bZ ?_;conv=>whnf)
 exact⟨_,rfl,F _ (by simp only[cf]),rfl⟩
open Classical in
def apo{x:cZ}(sR:x.ok)(br:0<x.funcs.length)(pos:Nat):dz C 11 [.J (.agg x.cells),.J (.agg [.int 3 x.kind,.str x.ay,.int 3 x.rel,.aH x.aj (x.fA.map hM.row),.aH x.an (x.dJ.map dX.row),.aH x.aM (x.d9.map dV.row),.aH x.bs (x.e2.map eG.row),.aH x.cp (x.dn.map em.row),.aH (2*zz (je 3) 49+true.toNat) (((List.map cu.row x.funcs).set 0 (B0 x.funcs[0] x.funcs[0].body.bL pos).row).set 0 (B0 x.funcs[0] q6 pos).row)])] λv=>v=.bool true:=by rw[ajF];have:=Hj aa x (jq x (2*zz (je 3) 49+true.toNat) (B0 x.funcs[0] q6 pos)) sR (aru br sR);have e:decide (x.aA=(jq x (2*zz (je 3) 49+true.toNat) (B0 x.funcs[0] q6 pos)).aA)=true:=r7 (aoj br).symm;rw[e]at this;exact this
open Classical in
def ai4{x:cZ}(sR:x.ok)(br:0<x.funcs.length)(pos:Nat):dz C 12 [.J (.agg x.funcs[0].body.cells),.J (.agg (x.funcs[0].body.JY q6 pos).cells)] λv=>v=.bool true:=by have B:=(sR.2.2.2.2.2.2.2.2.2.2.2.2.2.2 _ (fQ br)).2.2.2.2.2.2.2;have k:=SV aa x.funcs[0].body B _ (Zi (t:=q6) (p:=pos) B);rw[XP,r7 rfl]at k;exact k
def am7:aO:=[74,78,82,86,130,134,49,1045,1067,1049,1086]
def l3(bI:g / 2=3)(pos:Nat)(bq:pos<18446744073709551616):bU C am7 3 [.J (.op g Q.W),.J (.int 3 pos)] [] λv A=>v=.bool true:=by
 refine aa.y 3 ff rfl rfl ?_
 (conv=>whnf)
 repeat(refine bZ ?_;conv=>whnf)
 refine aW (aa.O0 g) ?_;rintro v A ⟨rfl,rfl⟩
 (conv=>whnf)
 repeat(refine da ?_;conv=>whnf)
 refine eQ (jQ (λfK=>?_) (λfK=>?_));rotate_left
 .refine N ?_;refine aW aa.Sc ?_;rintro v A ⟨rfl,rfl⟩
  (conv=>whnf)
  repeat(refine da ?_;conv=>whnf)
 have aS:jW Q:=⟨fK⟩;have at5:cf [74,78,82,86,130,134,49] (.op g Q.W)=false:=aS.cj bI rfl;have aut:cf [1045,1067,1049,1086] (.op g Q.W)=false:=aS.cj bI rfl;refine N ?_;refine⟨As.imp (afv aa bI aS) ?_⟩;rintro ak z aJ ⟨rfl,rfl,rfl⟩;refine N ?_;refine aW (bU.bS (l:=[.op g Q.W,.int 3 0]) (dy aa aS 0 2 (qG _) af af)) ?_;rintro v A ⟨⟨dC,rfl,vC⟩,bk,cY,rfl⟩;refine N ?_;refine aW (dy aa aS bk 4 cY af af) ?_;rintro v A ⟨⟨b3,rfl,ct⟩,bu,cy,rfl⟩;refine N ?_;refine aW (alR aa aS bI bu cy (1+dC) (1+b3) [103,101,111] I I I af) ?_;rintro v A ⟨x,b1,rfl,M,rfl,dl,br⟩;show ia [74,78,82,86,130,134,49] _ _ _ _;refine i6 trivial ?_;simp(disch:=first|assumption|with_unfolding_all rfl) only[gg,hq,dF,iI,iV,i1,i2,i3,i0,iY,jn,ij,lv,adO,abS,abt];refine N ?_;refine aW (R0 aa aS bI b1 dl x M) ?_;rintro v A ⟨⟨y,rfl,aE⟩,cP,gz,rfl⟩;have sR:x.ok:=M.ok;have Cd:y.ok:=afU aE M;have asu:cf [1045,1067,1049,1086] (.agg x.cells)=false:=B7 (M.cj af);have f0:cf [1045,1067,1049,1086] (.aH x.aj (x.fA.map hM.row))=false:=M.nw;have f1:cf [1045,1067,1049,1086] (.aH x.an (x.dJ.map dX.row))=false:=M.cK af;have f2:cf [1045,1067,1049,1086] (.aH x.aM (x.d9.map dV.row))=false:=M.tc af;have f3:cf [1045,1067,1049,1086] (.aH x.bs (x.e2.map eG.row))=false:=M.ka af;have f4:cf [1045,1067,1049,1086] (.aH x.cp (x.dn.map em.row))=false:=M.uZ af;have f5:cf [1045,1067,1049,1086] (.aH x.dj (x.funcs.map cu.row))=false:=M.kn af;have ny:(x.funcs.map cu.row).length=x.funcs.length:=bW;have fJ:=M.fJ;show ia [1045,1067,1049,1086] _ _ _ _;refine i6 trivial ?_;simp(disch:=first|assumption|with_unfolding_all rfl) only[gg,hq,dF,iI,iV,i1,i2,i3,i0,iY,jn,ij,lv,adO,abS,abt];refine N ?_;refine bV.mk ⟨mq x.funcs λf=>rfl,I⟩ ?_;refine bV.mk (by show _*320<=_;omega) ?_;have ag:=oF cu.row br;unfold cu.row at ag;simp only[lJ,ps]at ag;have sm:0<(x.funcs.map cu.row).length:=I;show nr _ _ _ _ _ _;refine N ?_;refine bV.mk sm ?_;show tJ _ _ _ _ _ _ _;show k4 _ _ _ _ _ _ _ _ _ _ _ _;refine Bk rfl (λk=>rfl) rfl rfl ?_;refine Bk rfl (λk=>rfl) rfl rfl ?_;refine tK rfl rfl rfl ?_
 (conv=>whnf)
 refine bV.mk sm (dU.mk _ ag ?_);refine N ?_;refine bV.mk (H3 sm) ?_;show tJ _ _ _ _ _ _ _;show k4 _ _ _ _ _ _ _ _ _ _ _ _;refine Bk rfl (λk=>rfl) rfl rfl ?_;refine Bk rfl (λk=>rfl) rfl rfl ?_;refine tK rfl rfl rfl ?_
 (conv=>whnf)
 refine bV.mk (H3 sm) (dU.mk _ (Qo sm) ?_);refine N ?_;refine aW (aaJ aa x sR (ac7 sR)) ?_;rintro v A ⟨rfl,s,e,rfl,aw⟩;refine N ?_;refine aW (aaJ aa y Cd (ac7 Cd)) ?_;rintro v A ⟨rfl,t,f,rfl,a1⟩;refine N ?_;refine ch (λD=>?_) (λD=>?_);rotate_left;refine N ?_;rotate_left;refine N ?_;refine ch (λF=>?_) (λF=>?_);obtain⟨v1,rfl⟩:=aw D;obtain⟨v2,rfl⟩:=a1 F;have ap:=anH aE v1 v2;refine N ?_;refine bn (Hj aa x y sR Cd) ?_;refine j0 (λaq=>?_) (λ_=>?_)
 .exfalso;rw[S6]at aq;simp[ap]at aq
 refine N ?_;rotate_left;refine N ?_;all_goals
  refine bn (apo aa sR br pos) ?_
  refine bV.mk sm (dU.mk _ ag ?_)
  refine N ?_
  refine bV.mk (H3 (H3 sm)) (dU.mk _ (Qo (H3 sm)) ?_)
  refine N ?_
  refine bn (ai4 aa sR br pos) ?_
  refine N ?_
  refine bn (Hj aa x y sR Cd) ?_
  refine N ?_
  refine bn (aqZ aa x y sR Cd) ?_
  refine N ?_
  refine .yes (beq_self_eq_true _) ?_
  refine N ?_
  refine bn (Hj aa y x Cd sR) ?_
  refine N ?_
  refine bn (Hj aa x y sR Cd) ?_
  refine N ?_
  refine .yes (by rw[p7,decide_eq_decide];exact eq_comm) ?_
  refine N ?_
  refine aW aa.Sc ?_
  rintro v A ⟨rfl,rfl⟩
  (conv=>whnf)
  repeat(refine da ?_;conv=>whnf)
end
end Go.Tx
