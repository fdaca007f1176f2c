/- For every list of numbers PrinterLines returns true: the row. No condition. -/
import Derived.Test.YtddaefckjmdfoaaGreatDoorSeatLaw
import Derived.Test.YtddaefckjmdfoaaGreatDoorRows
import Derived.Test.YtddaefckjmdfoaaGreatDoorCards
import Derived.Test.YtddaefckjmdfoaaGreatDoorTie
import Derived.WalkKit
import Derived.ProofKit
import Derived.OpenShut
import Derived.ChangeSlices
import Derived.LaidMore
import Derived.LaidOnce
import Derived.Stop.Joined
import Derived.SevenTiedAt
import Derived.Test.YtddaefckjmdfoaaGreatDoorSeatFact
set_option linter.all false
namespace Go.Proofs.YtddaefckjmdfoaaGreatDoor
open Go Go.Ev Go.Tx Go.ChangeShapes Go.WideShapes Go.ChangeAt Go.RowKit
section
variable{H:Type}{enc:TypeId×Value->H}
theorem post_kept{P:Program}{f:Func}{s:ChangeSpec}{apart fresh handsOn again:Bool}{W W':World}{args:Array Value}{v:Value}{ae gs:List (DataW H)}{before n7 pv:List MemPlace}
 (hW:DataW.Whole enc P f.params.toList s.vars apart W args.toList ae gs before)
 (hres:∀(b:Nat)(fF:Nat->Bool)(aJ:Bool),DataW.TrodAll enc P W' b fF aJ f.resultTypes.toList (v.resultList f.resultTypes.size) (s.fn H (ae++gs)).results [])
 (hargs:∀fF:Nat->Bool,(∀N∈before,fF N.block=true)->DataW.TrodAll enc P W' 0 fF true f.params.toList args.toList (s.fn H (ae++gs)).args n7)
 (hvars:∀fF:Nat->Bool,(∀N∈before,fF N.block=true)->DataW.TrodVars enc P W' fF s.vars (s.fn H (ae++gs)).vars pv)
 (hps:before=n7++pv) (hk:W.keptBut W' (λ_=>False)) (hfz:∀a,a.block<W.heap.size->W'.frozen? a=W.frozen? a)
 (hok:∀(M:Nat)(t:TypeId)(r:Value),f.resultTypes[M]?=some t->(v.resultList f.resultTypes.size)[M]?=some r->Value.okWide P W' .any 0 t r):
 s.post enc P f apart fresh handsOn again W args v W':=by
 have hlt:∀N∈before,N.block<W.heap.size:=λN hp=>hW.lt N hp
 have hold:∀N∈before,(λb=>decide (b<W.heap.size)) N.block=true:=λN hp=>by simpa using hlt N hp
 refine⟨ae,gs,before,[],n7,pv,hW,hres _ _ _,hargs _ hold,hvars _ hold,World.keptBut_mono (λN hp=>hp.elim) hk,λ_=>?_⟩
 obtain⟨_,_,_,_,_,hz,hn⟩:=hW
 refine⟨hok,_,_,([]++n7)++pv,⟨[]++n7,pv,trodAll_append (hargs _ (λ_ _=>rfl)) (hres _ _ _),hvars _ (λ_ _=>rfl),rfl,?_,?_⟩,?_⟩
 .intro b off hp
  have hb:MemPlace.cell b off∈before:=by rw[hps];simpa using hp
  rw[hfz _ (hlt _ hb)]
  exact hz b off hb
 .intro ha
  have:=hn ha
  rw[hps] at this
  simpa using this
 .intro N hp _
  rw[hps]
  simpa using hp
end
section
variable{H:Type}{enc:TypeId×Value->H}
theorem returns_of_law{a:Assume}{C:Checked}{os:Os}{f:FuncId}{fn:Func}{s:ChangeSpec}{conds:List PathCond}{apart fresh handsOn again:Bool}{X:World->Prop}
 (own:ownKnob C.prog.godebug=none) (started:os.Started) (noInit:C.prog.inits.idxOf? f=none) (hfn:C.prog.funcs[f]?=some fn)
 (witness:∃(w:World)(tape:Tape)(i:Input),w.os=os/\(w.forCall tape i).Shaped C.prog/\i.vars=[]/\Input.okWide C.prog (w.forCall tape i) .any w.heap.size f i/\
  ((s.pre enc C.prog fn conds apart (w.forCall tape i).memory i.args/\X (w.forCall tape i).memory)/\sizedMet enc C.prog fn (OpenSpec.ofChange s) apart (w.forCall tape i).memory i.args)/\a.holds C.prog (lone (Frame.enter C.prog f i.args .normal) [] (w.forCall tape i)))
 (contract:∀(W:World)(base:Nat)(args:Array Value)(ae gs:List (DataW H))(before:List MemPlace),X W.memory->
  (∀(M:Nat) t v,fn.params[M]?=some t->args[M]?=some v->Value.okWide C.prog W .any base t v)->
  DataW.Whole enc C.prog fn.params.toList s.vars apart W args.toList ae gs before->W.ShapedOpen C.prog->
  Calls C.prog f args W λe W'=>∃v,e=.returned v/\s.post enc C.prog fn apart fresh handsOn again W args v W'):
 ReturnsInHanded a C os f .any (λw args=>(s.pre enc C.prog fn conds apart w args/\X w)/\sizedMet enc C.prog fn (OpenSpec.ofChange s) apart w args) (s.post enc C.prog fn apart fresh handsOn again):=by
 refine returnsInHanded_of_calls own started noInit witness ?_
 intro w tape i _ hsh _ hok hpre hholds
 obtain⟨_,_,_,fn',hfn',_,_,_,_,hval⟩:=hok
 have e:fn'=fn:=Option.some.inj (hfn'.symm.trans hfn)
 subst e
 obtain⟨⟨⟨ae,gs,before,hw,hc⟩,hx⟩,hz⟩:=hpre
 have hw':=DataW.Whole.of_heap (w':=w.forCall tape i) (by rfl) hw
 refine(contract (w.forCall tape i) w.heap.size i.args ae gs before hx hval hw' hsh).mono λe W' ⟨v,he,hp⟩=>?_
 subst he
 exact ChangeSpec.post_blind hp
end
theorem laid_tab{W:World}(h:laidMetH Tryz.prog Rows.printerLinesRow.laid W):TabW W:=by
 have h:laidMet Tryz.prog Rows.printerLinesRow.laid W:=h
 obtain⟨ps,⟨_,_,_,_,_,_,_,_,_,_,⟨_,_,_,_,_,_,_,_,_,_,⟨g,t,d8,fuel,N,q,hg,hty,hvar,aJ,_,_⟩,_⟩,_⟩,_⟩:=h
 have hg':Tryz.prog.globalNamed "internal/strconv.uint64pow10"=some 0:=by kernel_rfl
 obtain rfl:=Option.some.inj (hg'.symm.trans hg)
 have ht':(Tryz.prog.globals[0]?).map (·.type)=some 297:=by kernel_rfl
 obtain rfl:=Option.some.inj (ht'.symm.trans hty)
 show World.var? Tryz.prog W "internal/strconv.uint64pow10"=_
 rw[hvar,<-Lib.cells_of_tab (k:=.u64) (zs:=Lib.pow10Tab) Tryz.underlying297 Tryz.underlying264 (by kernel_rfl) (by kernel_rfl) aJ]
theorem own:ownKnob Tryz.prog.godebug=none:=by kernel_rfl
theorem cells3:Tryz.prog.cellsOf 3=1:=by kernel_rfl
theorem door_met(os:Os)(args:Array Value):laidMetH Tryz.prog Rows.printerLinesRow.laid ((World.doorLaid Tryz.prog 62 os).forCall (λ_ _=>0) ⟨#[],args,[]⟩).memory:=
 laidMetH_of_parts3 (fuel:=8) (laidMet_of_run' 8 (by kernel_rfl) (by kernel_rfl)) (by kernel_rfl) (by kernel_rfl)
set_option maxRecDepth 100000 in
theorem lifted(os:Os)(started:os.Started)(H:Type)(enc:TypeId×Value->H):
 ReturnsInHanded {} Tryz.checked os 3 .any (λw args=>(Rows.printerLinesSpec.pre enc Tryz.prog Tryz.f3 [] false w args/\laidMetH Tryz.prog Rows.printerLinesRow.laid w)/\sizedMet enc Tryz.prog Tryz.f3 (OpenSpec.ofChange Rows.printerLinesSpec) false w args)
  (Rows.printerLinesSpec.post enc Tryz.prog Tryz.f3 false true false false):=by
 refine returns_of_law (C:=Tryz.checked) (X:=λw=>laidMetH Tryz.prog Rows.printerLinesRow.laid w) own started (by kernel_rfl) Tryz.func3
  (ChangeSpec.witness_shaped (enc:=enc) (C:=Tryz.checked) (os:=os) (X:=λw _=>laidMetH Tryz.prog Rows.printerLinesRow.laid w) false (World.doorLaid Tryz.prog 62 os) #[.slice none 0 0] 8 rfl (World.shaped_of_RefB (by kernel_rfl) (by kernel_rfl)) (by kernel_rfl) (by kernel_rfl) (by kernel_rfl) (door_met os _)) ?_
 intro W base args ae gs before hL hval0 hW hsh
 have hT:TabW W:=laid_tab (W:=W.memory) hL
 have hval:∀(M:Nat) t v,Tryz.f3.params[M]?=some t->args[M]?=some v->Value.okWide Tryz.prog W .any base t v:=hval0
 have hW':=hW
 obtain⟨N,q,hA0,hV,rfl,hfz,hnd⟩:=hW
 have hA:DataW.TrodAll enc Tryz.prog W 0 (λ_=>true) true Tryz.f3.params.toList args.toList ae N:=hA0
 rw[Tryz.params3] at hA hval
 obtain⟨v0,d0,rfl,rfl,h0⟩:=trodAll_one hA
 obtain⟨rfl,rfl⟩:=trodVars_none hV
 obtain⟨ao,len,cap,rfl⟩:=okWide_slice Tryz.underlying22 (hval 0 22 v0 rfl rfl)
 clear hA0 hval0 hval
 obtain⟨fuel0,hf⟩:=h0
 have hw:J0 W 1:=Tryz.laysM219.s1_3 W hsh
 have fin:∀W':World,W'.os=W.os->W'.output=W.output->(∀i,i<W.heap.size->W'.heap[i]?=W.heap[i]?)->
  (∀fF:Nat->Bool,(∀p'∈N++[],fF p'.block=true)->DataW.TrodAll enc Tryz.prog W' 0 fF true [22] [.slice ao len cap] [d0] N)->
  Rows.printerLinesSpec.post enc Tryz.prog Tryz.f3 false true false false W #[.slice ao len cap] (.bool true) W':=by
  intro W' h1 h2 h3 h4
  refine post_kept hW' (λ_ _ _=>trodAll_mk1 (shut_bool Tryz.underlying4 _)) h4 (λfF _=>rfl) (pv:=[]) (by simp) ⟨h1,h2,λi aH=>?_⟩ (λa ha=>?_) (ok_one (by kernel_rfl) rfl (okWide_bool_mk Tryz.underlying4 _))
  .rw[h3 i aH]
   exact(World.keptBut_refl W (λ_=>False)).2.2 i aH
  .unfold World.frozen?
   rw[h3 _ ha]
 rcases open_ints Tryz.underlying22 Tryz.underlying3 cells3 hf with⟨hcs,hx⟩|⟨a,len',cap',zs,hcs,hba,hl,hm,hz,hx,hcell,hwz⟩
 .simp [Value.cells] at hcs
  obtain⟨rfl,rfl,rfl⟩:=hcs
  simp only[Prod.mk.injEq] at hx
  obtain⟨rfl,rfl⟩:=hx
  refine(walk3 none 0 0 W hw hT (λa h=>by cases h) (λh=>by omega) (λa h=>by cases h)).mono λe W' ⟨he,h1,h2,_,_,h3⟩=>?_
  subst he
  exact⟨_,rfl,fin W' h1 h2 h3 λfF _=>trodAll_mk1 ⟨2,by simp [Value.cells,DataW.trod,Tryz.underlying22]⟩⟩
 .simp [Value.cells] at hcs
  obtain⟨rfl,rfl,rfl⟩:=hcs
  simp only[Prod.mk.injEq] at hx
  obtain⟨rfl,rfl⟩:=hx
  simp only[if_true] at hz
  have hcell':∀i,i<zs.length->∃x,W.cell? (a.add i)=some (.int .i64 x):=λi aH=>⟨_,hcell i aH⟩
  have hblk:0<zs.length->a.block<W.heap.size:=λh=>by
   have h1:=hcell 0 h
   rcases Nat.lt_or_ge a.block W.heap.size with h2|h2
   .exact h2
   .exfalso
    have c9:(a.add 0).block=a.block:=block_add a 0
    unfold World.cell? at h1
    rw[c9,Array.getElem?_eq_none h2] at h1
    cases h1
  refine(walk3 (some a) len cap W hw hT (λa' h hlen=>by cases h;exact hblk (by omega)) (λ_=>⟨a,rfl⟩) (λa' h M hj=>by cases h;exact hcell' M (by omega))).mono λe W' ⟨he,h1,h2,_,_,h3⟩=>?_
  subst he
  refine⟨_,rfl,fin W' h1 h2 h3 λfF hsp=>trodAll_mk1 ⟨2,?_⟩⟩
  refine shut_ints 0 Tryz.underlying22 Tryz.underlying3 cells3 (Nat.zero_le _) hl hm ?_ (λi aH=>?_) hwz
  .by_cases hz0:zs.length=0
   .split<;>omega
   .rw[if_pos]
    .exact hz
    .refine hsp (.cell a.block a.off) ?_
     exact List.mem_append_left _ (MemPlace.mem_row.2 ⟨0,by omega,rfl⟩)
  .rw[<-hcell i aH]
   unfold World.cell?
   rw[block_add,h3 _ (hblk (by omega))]
theorem row_holds:Rows.PrinterLinesSaid:=
 OpenClaim.holds_of_wide 3 Tryz.f3 rfl rfl rfl rfl rfl rfl rfl ⟨rfl,rfl,rfl,rfl,rfl⟩ rfl rfl rfl rfl rfl (by kernel_rfl) Tryz.func3 facts
  (of_decide_eq_true (by kernel_rfl)) (by unfold Func.isWrapper;first|(rw[if_pos (by decide+kernel)];kernel_rfl)|(rw[if_neg (by decide+kernel)];exact⟨rfl,rfl⟩))
  (λos started H enc _=>lifted os started H enc)
end Go.Proofs.YtddaefckjmdfoaaGreatDoor
