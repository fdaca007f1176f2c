/- Part of the proof of PrinterLines. -/
import Derived.Test.YtddaefckjmdfoaaGreatDoorW0
import Derived.Test.YtddaefckjmdfoaaGreatDoorL0
set_option linter.all false
namespace Go.Tx
open Go Go.Ev Go.RowKit
section
variable{P:Program}{bI:World}{f:Nat}
def aeG{w:World}{b}{D}(h:w.heap[b]?=some D):b<w.heap.size:=by
 rcases l7 b w.heap.size with g|g
 .exact g
 .rw[CO g] at h;cases h
def adJ(w)(b i)(V):IT b w (w.setCell ⟨b,i,none⟩ V):=
 ⟨by show(w.heap.modify b _).size=_;rw[Array.size_modify],λk az=>Below.heap_setCell _ _ _ _ az,rfl,rfl,rfl⟩
def akM{w:World}{b}{c}{el}(h:w.heap[b]?=some (.cells c el (0,0)))(i)(V):(w.setCell ⟨b,i,none⟩ V).heap[b]?=some (.cells (c.set! i V) el (0,0)):=by
 have aV:=aeG h;have b5:w.heap[b]=.cells c el (0,0):=by simpa [OE aV] using h
 show(w.heap.modify b _)[b]?=_;rw[OE (by simpa using aV),Array.getElem_modify_self,b5];rfl
def aqL(aI:Has P f)(aop:∀(b)(w),w.cell? ⟨b,0,none⟩=some (.pointer (some ⟨b,0,none⟩))->Calls P f #[.pointer (some ⟨b,0,none⟩)] w λe a8=>e=.returned (.tuple #[])/\a8=w)(v8:∀(b)(w),w.cell? ⟨b,0,none⟩=some (.pointer none)->w.shape? b=some (210,2)->w.frozen? ⟨b,0,none⟩=false->Calls P f #[.pointer (some ⟨b,0,none⟩)] w λe a8=>e=.returned (.tuple #[])/\a8=w.setCell ⟨b,0,none⟩ (.pointer (some ⟨b,0,none⟩))):tF P bI f JF:=by
 obtain⟨fn,B,F⟩:=aI;refine⟨fn,B,F,λargs H v ct ay aa w g0 cM R=>?_⟩;have eJ:∀aa:cE,bk aa (.eJ []) (.tuple #[]):=λaa=>by simp only[bk];exact⟨[],rfl,by simp only[cK]⟩
 unfold JF at ay;split at ay
 .rename_i a;split at ay
  .rename_i am br;obtain⟨X,L,rfl,ch,cM⟩:=cM.cons_inv;simp only[cK] at cM;subst cM;obtain⟨b,ca,av,rfl⟩:=Jq ch;have K:(H.get a).live=true:=by rw[br];rfl
   split at ay
   .rename_i q ad;cases ay;obtain⟨rM,tt,bx,v1,v2,dz,gg⟩:=EI R.rel br ad av;have v1:rM=.pointer none:=by simp only[bk] at v1;exact v1
    subst v1;refine(v8 b w (by unfold World.cell?;rw[bx];rfl) (by unfold World.shape?;rw[bx];rfl) (by unfold World.frozen?;rw[bx];rfl)).mono λe a8 bf=>?_;obtain⟨rfl,rfl⟩:=bf;exact⟨_,aa,rfl,eJ aa,Rel.Ce R.rel av K (adJ w b 0 _) (adB av (akM bx 0 _) ch v2 rfl gg) λ_=>trivial,Step.Ce av K (adJ w b 0 _)⟩
   .rename_i bF q ad;split at ay
    .rename_i e;cases ay;subst e;obtain⟨rM,tt,bx,v1,v2,dz,gg⟩:=EI R.rel br ad av;obtain⟨dA,fs,qz,rfl⟩:=Jq v1;rw[av] at qz;cases qz;refine(aop b w (by unfold World.cell?;rw[bx];rfl)).mono λe a8 bf=>?_;obtain⟨rfl,rfl⟩:=bf;exact⟨_,aa,rfl,eJ aa,R.rel,Step.refl _ _ _⟩
    .cases ay
   .cases ay
  .cases ay
 .cases ay
def aoV(am)(n):(wA am n).length=n:=by unfold wA;simp
open Classical in
def arW(aI:Has P f)(aol:∀(b)(N)(w),w.heap[b]?=some (.cells #[N,.slice none 0 0] 210 (0,0))->Calls P f #[.pointer (some ⟨b,0,none⟩)] w λe a8=>e=.returned (.string ⟨#[]⟩)/\Below w.heap.size w a8)(amK:∀(b g cap)(N)(l)(yu)(w),w.heap[b]?=some (.cells #[N,.slice (some ⟨g,0,none⟩) l.length cap] 210 (0,0))->w.heap[g]?=some (.cells yu 5 (0,0))->g≠b->l≠[]->l.length<=cap->l.length<=2147483647->yu.size=cap->(∀(M:Nat) x,l[M]?=some x->yu[M]?=some (.int .u8 x.toNat))->Calls P f #[.pointer (some ⟨b,0,none⟩)] w λe a8=>e=.returned (.string ⟨l.toArray⟩)/\IT g w a8):tF P bI f BT:=by
 obtain⟨fn,B,F⟩:=aI;refine⟨fn,B,F,λargs H v ct ay aa w g0 cM R=>?_⟩;unfold BT at ay;split at ay
 .rename_i a;split at ay
  .rename_i am br;obtain⟨X,L,rfl,ch,cM⟩:=cM.cons_inv;simp only[cK] at cM;subst cM;obtain⟨b,ca,av,rfl⟩:=Jq ch;have K:(H.get a).live=true:=by rw[br];rfl
   split at ay
   .rename_i N ad;cases ay;obtain⟨rM,tt,bx,v1,v2,dz,gg⟩:=EI R.rel br ad av;have v2:tt=.slice none 0 0:=by simp only[bk] at v2;exact v2
    subst v2;refine(aol b rM w bx).mono λe a8 bf=>?_;obtain⟨rfl,qz⟩:=bf;exact⟨_,aa,rfl,BX (s:=[]) ag,Rel.below R.rel qz,Step.below qz⟩
   .rename_i N a2 len ad;split at ay
    .rename_i lm n I8;split at ay
     .rename_i aw;cases ay;obtain⟨rfl,cb,dB,hq⟩:=aw;obtain⟨rM,tt,bx,v1,v2,dz,gg⟩:=EI R.rel br ad av;simp only[bk] at v2;obtain⟨g,sM,nr,rfl,j7,gS,_⟩:=v2;simp only[nI,Nat.sub_zero] at bx gS;have hJ:(H.get a2).live=true:=by rw[I8];rfl
      have ay:=R.rel.obj a2 eN;rw[I8] at ay;obtain⟨ja,fs,c,bS,cQ,eL,jU,nR,qR,qJ,mU⟩:=ay;rw[nr] at cQ;cases cQ;have jU:=jU rfl;subst jU;simp only[nI,DJ] at mU;have aon:g≠b:=λe=>dB (R.rel.inj a2 a eN eN hJ K g sM ca nr (by rw[e];exact av));have fy:=aoV lm n;refine(amK b g sM rM (wA lm n) c w (by rw[fy];simpa using bx) eL aon (λe=>by rw[e] at fy;simp at fy;omega) (by rw[fy];exact gS) (by rw[fy];exact j7) mU.1 (λM x bb=>?_)).mono λe a8 bf=>?_
      .have v9:M<n:=by
        rcases l7 M n with h|h
        .exact h
        .rw[qU Y] at bb;cases bb
       obtain⟨y,ap,XF⟩:=hq M v9;have I:x=UInt8.ofNat y:=by unfold wA at bb;rw[t7,List.getElem?_range v9] at bb;simp only[A5,XF,Option.some.injEq] at bb;exact bb.symm
       obtain⟨X,dS,fw,lB,pZ⟩:=qJ M v9;rw[XF] at dS;obtain⟨JC,vc,rfl,AU,dS⟩:=dS.cons_inv;have AU:JC=.int .u8 (y:Int):=by simp only[bk] at AU;obtain⟨_,_,rfl⟩:=AU;rw[show dm 4 y=(y:Int) from ke ap];rfl
       have:=pZ 0 ag;rw[DJ,sb] at this;rw[this,AU,I];show some (Value.int .u8 (y:Int))=some (.int .u8 ((UInt8.ofNat y).toNat:Int));rw[show(UInt8.ofNat y).toNat=y by simp;omega]
      .obtain⟨rfl,al⟩:=bf;exact⟨_,aa,rfl,BX (by rw[fy];omega),Rel.Ce R.rel nr hJ al trivial λ_=>trivial,Step.Ce nr hJ al⟩
     .cases ay
    .cases ay
   .cases ay
  .cases ay
 .cases ay
def ajI(am)(i n):(pi am i n).length=n:=by unfold pi;simp
open Classical in
def aqI(aI:Has P f)(XN:∀(a)(c)(sep)(w),Calls P f #[.slice a 0 c,.string sep] w λe a8=>e=.returned (.string ⟨#[]⟩)/\a8=w)(bo:∀(Fl D c)(bY:List ByteArray)(sep)(w),(∀(M) x,bY[M]?=some x->w.cell? ⟨Fl,D+M,none⟩=some (.string x))->Fl<w.heap.size->bY.length<=140737488355328->bY.length<=c->(Lib.join (bY.map (·.data.toList)) sep.data.toList).length<=140737488355328->Calls P f #[.slice (some ⟨Fl,D,none⟩) bY.length c,.string sep] w λe a8=>e=.returned (.string ⟨(Lib.join (bY.map (·.data.toList)) sep.data.toList).toArray⟩)/\Below w.heap.size w a8):tF P bI f D3:=by
 obtain⟨fn,B,F⟩:=aI;refine⟨fn,B,F,λargs H v ct ay aa w g0 cM R=>?_⟩;unfold D3 at ay;split at ay
 .cases ay;obtain⟨X,L,rfl,ch,cM⟩:=cM.cons_inv;obtain⟨er,L,rfl,i0,cM⟩:=cM.cons_inv;simp only[cK] at cM;subst cM;obtain⟨_,rfl⟩:=FH i0;have ch:X=.slice none 0 0:=by simp only[bk] at ch;exact ch
  subst ch;refine(XN none 0 _ w).mono λe a8 bf=>?_;obtain⟨rfl,rfl⟩:=bf;exact⟨_,aa,rfl,BX (s:=[]) (by decide),R.rel,Step.refl _ _ _⟩
 .rename_i a i len c u z bQ A8;obtain⟨X,L,rfl,ch,cM⟩:=cM.cons_inv;obtain⟨er,L,rfl,i0,cM⟩:=cM.cons_inv;simp only[cK] at cM;subst cM;obtain⟨_,rfl⟩:=FH i0;simp only[bk] at ch;obtain⟨b,ca,av,rfl,j7,gS,_⟩:=ch;split at ay
  .rename_i cb;cases ay;subst cb;refine(XN _ _ _ w).mono λe a8 bf=>?_;obtain⟨rfl,rfl⟩:=bf;exact⟨_,aa,rfl,BX (s:=[]) (by decide),R.rel,Step.refl _ _ _⟩
  .split at ay
   .rename_i am n el fa br;split at ay
    .rename_i aw;cases ay;obtain⟨rfl,vf,hq,bb⟩:=aw;have ay:=R.rel.obj a eN;rw[br] at ay;obtain⟨dA,fs,d8,bS,cQ,eL,jU,nR,qR,qJ,mU⟩:=ay;rw[av] at cQ;cases cQ;have fy:=ajI am i len;have C1:((pi am i len).map λs=>(⟨s.toArray⟩:ByteArray)).map (·.data.toList)=pi am i len:=by
      rw[List.map_map];conv=>rhs;rw[<-List.map_id (pi am i len)]
      rfl
     have dC:=bo b (i*1) (if u=true then ca - c else c) ((pi am i len).map λs=>⟨s.toArray⟩) ⟨(cL bQ A8).toArray⟩ w (λM x DZ=>?_) (aeG eL) (by rw[dt,fy];omega) (by rw[dt,fy];exact gS) (by rw[C1];show(Lib.join (pi am i len) (cL bQ A8)).length<=_;rw[<-Vj];omega)
     .rw[dt,fy,C1] at dC;refine dC.mono λe a8 bf=>?_;obtain⟨rfl,qz⟩:=bf;refine⟨_,aa,rfl,?_,Rel.below R.rel qz,Step.below qz⟩;have:Lib.join (pi am i len) (cL bQ A8)=ie (cL bQ A8) (pi am i len):=(Vj _ _).symm;show bk aa _ (.string ⟨(Lib.join (pi am i len) (cL bQ A8)).toArray⟩);rw[this];exact BX (by omega)
     .have v9:M<len:=by
       rcases l7 M len with h|h
       .exact h
       .rw[qU (by rw[dt];omega)] at DZ;cases DZ
      obtain⟨l,m,ad⟩:=hq M v9;have I:x=⟨(cL l m).toArray⟩:=by unfold pi at DZ;rw[t7,t7,List.getElem?_range v9] at DZ;simp only[A5,ad,Option.some.injEq] at DZ;exact DZ.symm
      obtain⟨X,dS,fw,lB,pZ⟩:=qJ (i+M) (by omega);rw[ad] at dS;obtain⟨JC,vc,rfl,AU,dS⟩:=dS.cons_inv;obtain⟨_,rfl⟩:=FH AU;have:=pZ 0 (by decide);rw[DJ,sb] at this;unfold World.cell?;rw[eL,I];show d8[i*1+M]?=_;rw[DJ,this];rfl
    .cases ay
   .cases ay
 .cases ay
end
end Go.Tx
namespace Go.Tx
open Go Go.Ev Go.RowKit
def arJ(W)(cy)(bY)(I:cy<=700->bY.length=cy):∃n,Cx J9 iZ (zo (AK (told W cy bY))) (A6 (AK (told W cy bY))) n 3 [.pw W] yD (λr _=>Rr r):=by
 have h:=mg (agm W cy bY I) (g:=6) ag;have aW:bL (λ_=>none) id [] yD:=⟨λa D ay=>(by cases ay),λs D ay=>(by cases ay),λs cP D bs ay=>(by cases ay),λs D ay=>(by cases ay)⟩;obtain⟨r,bw,v,aq,bh,bV,rfl,⟨n,aB⟩,_,_,dZ,_⟩:=h (λ_=>none) id yD [.pw W] aW ⟨_,_,rfl,by simp only[cd,cN,bp],rfl⟩;have au:v=.bool true:=by simpa only[bp] using dZ
 subst au;exact⟨n,aB n (ez n) λr _=>Rr r⟩
end Go.Tx
