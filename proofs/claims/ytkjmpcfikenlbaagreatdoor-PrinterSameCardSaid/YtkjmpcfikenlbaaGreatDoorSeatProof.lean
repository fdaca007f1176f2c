/- A part. -/
import Derived.Test.YtkjmpcfikenlbaaGreatDoorSeatLaw
import Derived.Test.YtkjmpcfikenlbaaGreatDoorRows
import Derived.Test.YtkjmpcfikenlbaaGreatDoorCards
import Derived.Test.YtkjmpcfikenlbaaGreatDoorTie
import Derived.WalkKit
import Derived.ProofKit
import Derived.OpenShut
import Derived.ChangeSlices
import Derived.LaidMore
import Derived.LaidOnce
import Derived.Stop.Joined
import Derived.SevenTiedAt
import Derived.Test.YtkjmpcfikenlbaaGreatDoorSeatFact
set_option linter.all false
namespace Go.Proofs.YtkjmpcfikenlbaaGreatDoor
open Go Go.Ev Go.Tx Go.ChangeShapes Go.WideShapes Go.ChangeAt Go.RowKit
section
variable{H:Type}{enc:TypeId×Value->H}
theorem post_kept{P:Program}{f:Func}{s:ChangeSpec}{apart fresh handsOn again:Bool}{W W':World}{args:Array Value}{v:Value}{ah gs:List (DataW H)}{before tF pv:List MemPlace}
 (hW:DataW.Whole enc P f.params.toList s.vars apart W args.toList ah gs before)
 (hres:∀(b:Nat)(fU:Nat->Bool)(aY:Bool),DataW.TrodAll enc P W' b fU aY f.resultTypes.toList (v.resultList f.resultTypes.size) (s.fn H (ah++gs)).results [])
 (hargs:∀fU:Nat->Bool,(∀p∈before,fU p.block=true)->DataW.TrodAll enc P W' 0 fU true f.params.toList args.toList (s.fn H (ah++gs)).args tF)
 (hvars:∀fU:Nat->Bool,(∀p∈before,fU p.block=true)->DataW.TrodVars enc P W' fU s.vars (s.fn H (ah++gs)).vars pv)
 (hps:before=tF++pv) (ar:W.keptBut W' (λ_=>False)) (hfz:∀a,a.block<W.heap.size->W'.frozen? a=W.frozen? a)
 (hok:∀(j:Nat)(t:TypeId)(r:Value),f.resultTypes[j]?=some t->(v.resultList f.resultTypes.size)[j]?=some r->Value.okWide P W' .any 0 t r):
 s.post enc P f apart fresh handsOn again W args v W':=by
 have hlt:∀p∈before,p.block<W.heap.size:=λp bq=>hW.lt p bq
 have hold:∀p∈before,(λb=>decide (b<W.heap.size)) p.block=true:=λp bq=>by simpa using hlt p bq
 refine⟨ah,gs,before,[],tF,pv,hW,hres _ _ _,hargs _ hold,hvars _ hold,World.keptBut_mono (λp bq=>bq.elim) ar,λ_=>?_⟩
 obtain⟨_,_,_,_,_,hz,hn⟩:=hW
 refine⟨hok,_,_,([]++tF)++pv,⟨[]++tF,pv,trodAll_append (hargs _ (λ_ _=>rfl)) (hres _ _ _),hvars _ (λ_ _=>rfl),rfl,?_,?_⟩,?_⟩
 .intro b off bq
  have hb:MemPlace.cell b off∈before:=by rw[hps];simpa using bq
  rw[hfz _ (hlt _ hb)]
  exact hz b off hb
 .intro aC
  have:=hn aC
  rw[hps]at this
  simpa using this
 .intro p bq _
  rw[hps]
  simpa using bq
end
section
variable{H:Type}{enc:TypeId×Value->H}
theorem returns_of_law{a:Assume}{C:Checked}{os:Os}{f:FuncId}{fn:Func}{s:ChangeSpec}{conds:List PathCond}{apart fresh handsOn again:Bool}{X:World->Prop}
 (own:ownKnob C.prog.godebug=none) (started:os.Started) (noInit:C.prog.inits.idxOf? f=none) (hfn:C.prog.funcs[f]?=some fn)
 (witness:∃(w:World)(tape:Tape)(i:Input),w.os=os/\(w.forCall tape i).Shaped C.prog/\i.vars=[]/\Input.okWide C.prog (w.forCall tape i) .any w.heap.size f i/\
  ((s.pre enc C.prog fn conds apart (w.forCall tape i).memory i.args/\X (w.forCall tape i).memory)/\sizedMet enc C.prog fn (OpenSpec.ofChange s) apart (w.forCall tape i).memory i.args)/\a.holds C.prog (lone (Frame.enter C.prog f i.args .normal) [] (w.forCall tape i)))
 (contract:∀(W:World)(base:Nat)(args:Array Value)(ah gs:List (DataW H))(before:List MemPlace),X W.memory->
  (∀(j:Nat) t v,fn.params[j]?=some t->args[j]?=some v->Value.okWide C.prog W .any base t v)->
  DataW.Whole enc C.prog fn.params.toList s.vars apart W args.toList ah gs before->W.ShapedOpen C.prog->
  Calls C.prog f args W λe W'=>∃v,e=.returned v/\s.post enc C.prog fn apart fresh handsOn again W args v W'):
 ReturnsInHanded a C os f .any (λw args=>(s.pre enc C.prog fn conds apart w args/\X w)/\sizedMet enc C.prog fn (OpenSpec.ofChange s) apart w args) (s.post enc C.prog fn apart fresh handsOn again):=by
 refine returnsInHanded_of_calls own started noInit witness ?_
 intro w tape i _ hsh _ hok hpre hholds
 obtain⟨_,_,_,fn',hfn',_,_,_,_,hval⟩:=hok
 have e:fn'=fn:=Option.some.inj (hfn'.symm.trans hfn)
 subst e
 obtain⟨⟨⟨ah,gs,before,hw,hc⟩,hx⟩,hz⟩:=hpre
 have hw':=DataW.Whole.of_heap (w':=w.forCall tape i) (by rfl) hw
 refine(contract (w.forCall tape i) w.heap.size i.args ah gs before hx hval hw' hsh).mono λe W' ⟨v,he,bq⟩=>?_
 subst he
 exact ChangeSpec.post_blind bq
end
theorem own:ownKnob Tryz.prog.godebug=none:=by kernel_rfl
theorem cells3:Tryz.prog.cellsOf 3=1:=by kernel_rfl
theorem door_met(os:Os)(args:Array Value):laidMetH Tryz.prog Rows.printerSameRow.laid ((World.doorLaid Tryz.prog 62 os).forCall (λ_ _=>0) ⟨#[],args,[]⟩).memory:=
 laidMetH_of_parts3 (fuel:=8) (laidMet_of_run' 8 (by kernel_rfl) (by kernel_rfl)) (by kernel_rfl) (by kernel_rfl)
set_option maxRecDepth 100000 in
theorem lifted(os:Os)(started:os.Started)(H:Type)(enc:TypeId×Value->H):
 ReturnsInHanded {} Tryz.checked os 3 .any (λw args=>(Rows.printerSameSpec.pre enc Tryz.prog Tryz.f3 [] false w args/\laidMetH Tryz.prog Rows.printerSameRow.laid w)/\sizedMet enc Tryz.prog Tryz.f3 (OpenSpec.ofChange Rows.printerSameSpec) false w args)
  (Rows.printerSameSpec.post enc Tryz.prog Tryz.f3 false true false false):=by
 refine returns_of_law (C:=Tryz.checked) (X:=λw=>laidMetH Tryz.prog Rows.printerSameRow.laid w) own started (by kernel_rfl) Tryz.func3
  (ChangeSpec.witness_shaped (enc:=enc) (C:=Tryz.checked) (os:=os) (X:=λw _=>laidMetH Tryz.prog Rows.printerSameRow.laid w) false (World.doorLaid Tryz.prog 62 os) #[.slice none 0 0,.int .i64 0] 8 rfl (World.shaped_of_RefB (by kernel_rfl) (by kernel_rfl)) (by kernel_rfl) (by kernel_rfl) (by kernel_rfl) (door_met os _)) ?_
 intro W base args ah gs before hL hval0 hW hsh
 have hval:∀(j:Nat) t v,Tryz.f3.params[j]?=some t->args[j]?=some v->Value.okWide Tryz.prog W .any base t v:=hval0
 have hW':=hW
 obtain⟨p,q,hA0,hV,rfl,hfz,hnd⟩:=hW
 have hA:DataW.TrodAll enc Tryz.prog W 0 (λ_=>true) true Tryz.f3.params.toList args.toList ah p:=hA0
 rw[Tryz.params3]at hA hval
 obtain⟨v0,v1,d0,d1,p,p1,rfl,rfl,rfl,h0,h1⟩:=trodAll_two hA
 obtain⟨rfl,rfl⟩:=trodVars_none hV
 obtain⟨ao,len,cap,rfl⟩:=okWide_slice Tryz.underlying22 (hval 0 22 v0 rfl rfl)
 obtain⟨z,rfl,rfl,rfl,wz⟩:=open_int Tryz.underlying3 (hval 1 3 v1 rfl rfl) h1
 have hz:-9223372036854775808<=z/\z<=9223372036854775807:=by
  have e:=wz
  simp only[Lit.wf,Bool.and_eq_true,decide_eq_true_eq]at e
  exact e
 have hzs:∀W':World,∀fU:Nat->Bool,DataW.Trod enc Tryz.prog W' 0 fU true 3 (.int .i64 z) (.lit (.int .i64 z)) []:=λW' fU=>shut_int Tryz.underlying3 wz
 clear hA0 hval0 hval
 obtain⟨fuel0,hf⟩:=h0
 have hw:HS W 1:=Tryz.laysM219.s1_3 W hsh
 have fin:∀W':World,W'.os=W.os->W'.output=W.output->(∀i,i<W.heap.size->W'.heap[i]?=W.heap[i]?)->
  (∀fU:Nat->Bool,(∀p'∈p++[]++[],fU p'.block=true)->DataW.TrodAll enc Tryz.prog W' 0 fU true [22,3] [.slice ao len cap,.int .i64 z] [d0,.lit (.int .i64 z)] (p++[]))->
  Rows.printerSameSpec.post enc Tryz.prog Tryz.f3 false true false false W #[.slice ao len cap,.int .i64 z] (.bool true) W':=by
  intro W' h1 F aq aL
  refine post_kept hW' (λ_ _ _=>trodAll_mk1 (shut_bool Tryz.underlying4 _)) aL (λfU _=>rfl) (pv:=[]) (by simp) ⟨h1,F,λi aN=>?_⟩ (λa aC=>?_) (ok_one (by kernel_rfl) rfl (okWide_bool_mk Tryz.underlying4 _))
  .rw[aq i aN]
   exact(World.keptBut_refl W (λ_=>False)).2.2 i aN
  .unfold World.frozen?
   rw[aq _ aC]
 rcases open_ints Tryz.underlying22 Tryz.underlying3 cells3 hf with⟨hcs,hx⟩|⟨a,len',cap',zs,hcs,hba,hl,hm,hzl,hx,hcell,hwz⟩
 .simp [Value.cells]at hcs
  obtain⟨rfl,rfl,rfl⟩:=hcs
  simp only[Prod.mk.injEq]at hx
  obtain⟨rfl,rfl⟩:=hx
  refine(walk3 none 0 0 z hz.1 hz.2 W hw (λa h=>by cases h) (λh=>by omega) (λa h=>by cases h)).mono λe W' ⟨he,h1,F,_,_,aq⟩=>?_
  subst he
  exact⟨_,rfl,fin W' h1 F aq λfU _=>trodAll_mk2 ⟨2,by simp[Value.cells,DataW.trod,Tryz.underlying22]⟩ (hzs W' _)⟩
 .simp [Value.cells]at hcs
  obtain⟨rfl,rfl,rfl⟩:=hcs
  simp only[Prod.mk.injEq]at hx
  obtain⟨rfl,rfl⟩:=hx
  simp only[if_true]at hzl
  have hcell':∀i,i<zs.length->∃x,W.cell? (a.add i)=some (.int .i64 x):=λi aN=>⟨_,hcell i aN⟩
  have hblk:0<zs.length->a.block<W.heap.size:=λh=>by
   have h1:=hcell 0 h
   rcases Nat.lt_or_ge a.block W.heap.size with F|F
   .exact F
   .exfalso
    have cW:(a.add 0).block=a.block:=block_add a 0
    unfold World.cell? at h1
    rw[cW,Array.getElem?_eq_none F]at h1
    cases h1
  refine(walk3 (some a) len cap z hz.1 hz.2 W hw (λa' h hlen=>by cases h;exact hblk (by omega)) (λ_=>⟨a,rfl⟩) (λa' h j hj=>by cases h;exact hcell' j (by omega))).mono λe W' ⟨he,h1,F,_,_,aq⟩=>?_
  subst he
  refine⟨_,rfl,fin W' h1 F aq λfU hsp=>trodAll_mk2 ⟨2,?_⟩ (hzs W' fU)⟩
  refine shut_ints 0 Tryz.underlying22 Tryz.underlying3 cells3 (Nat.zero_le _) hl hm ?_ (λi aN=>?_) hwz
  .by_cases hz0:zs.length=0
   .split<;>omega
   .rw[if_pos]
    .exact hzl
    .refine hsp (.cell a.block a.off) ?_
     exact List.mem_append_left _ (List.mem_append_left _ (MemPlace.mem_row.2 ⟨0,by omega,rfl⟩))
  .rw[<-hcell i aN]
   unfold World.cell?
   rw[block_add,aq _ (hblk (by omega))]
theorem row_holds:Rows.PrinterSameSaid:=
 OpenClaim.holds_of_wide 3 Tryz.f3 rfl rfl rfl rfl rfl rfl rfl ⟨rfl,rfl,rfl,rfl,rfl⟩ rfl rfl rfl rfl rfl (by kernel_rfl) Tryz.func3 facts
  (of_decide_eq_true (by kernel_rfl)) (by unfold Func.isWrapper;first|(rw[if_pos (by decide+kernel)];kernel_rfl)|(rw[if_neg (by decide+kernel)];exact⟨rfl,rfl⟩))
  (λos started H enc _=>lifted os started H enc)
end Go.Proofs.YtkjmpcfikenlbaaGreatDoor
