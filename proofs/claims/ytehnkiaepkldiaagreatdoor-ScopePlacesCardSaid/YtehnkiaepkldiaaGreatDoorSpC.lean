/- The code of some functions as explicit equations, a code node each (printed by a program, checked by the kernel). -/
import Derived.Test.YtehnkiaepkldiaaGreatDoorSpB
namespace Go.Sp
open Go Go.Ev Go.Proofs
set_option linter.unusedVariables false
set_option maxRecDepth 100000
noncomputable def K7 (c : Go.Code) : CC := ccode (pgF Tryz.prog) [0, 2] 6 c
noncomputable def b7 : Go.Code := bodyOf Tryz.f7
noncomputable def c7x0 : Go.Code := cB (bodyOf Tryz.f7)
theorem f7_eq (n : Nat) (call : CallK) (T : TT) (H : Heap) (kn : TT → Heap → Bool) (kx : X → TT → Heap → Bool) : (K7 b7).f n call T H kn kx =
  CC.f (K7 c7x0) n call (TT.setSlot T 1 (AV.nil NK.p)) H kn kx := by kernel_rfl
theorem c7x0_eq (n : Nat) (call : CallK) (T : TT) (H : Heap) (kn : TT → Heap → Bool) (kx : X → TT → Heap → Bool) : (K7 c7x0).f n call T H kn kx =
  cellsN (TT.slot T 0) 1 fun c => appC c [AV.int 3 0] fun l => bIf true (newO H (varObj 64 2 l) fun a H => kx X.ret (TT.setSlot T 1 (AV.ptr a 0 0 2)) H) false := by kernel_rfl
theorem e7_eq (n : Nat) (call : CallK) (args : List AV) (H : Heap) (k : Res → Heap → Bool) : (cfn (pgF Tryz.prog) Go.Sp.E0 Go.Sp.extS 7).f n call args H k =
  lenC args 1 (initT args fun T => CC.f (K7 b7) n call T H (fun T H => noDs T (k (Res.val (TT.slot T 1)) H)) fun x T H => xCase x (fun x => false) (noDs T (k (Res.val (TT.slot T 1)) H)) fun v => noDs T (k (Res.pan v) H)) := by kernel_rfl
end Go.Sp

namespace Go.Sp
open Go Go.Ev Go.Proofs
set_option linter.unusedVariables false
set_option maxRecDepth 100000
noncomputable def K9 (c : Go.Code) : CC := ccode (pgF Tryz.prog) [0, 1, 3, 4, 5, 6] 14 c
noncomputable def b9 : Go.Code := bodyOf Tryz.f9
noncomputable def c9x0 : Go.Code := cB (bodyOf Tryz.f9)
noncomputable def c9x1 : Go.Code := cB (cB (bodyOf Tryz.f9))
theorem f9_eq (n : Nat) (call : CallK) (T : TT) (H : Heap) (kn : TT → Heap → Bool) (kx : X → TT → Heap → Bool) : (K9 b9).f n call T H kn kx =
  cellsN (TT.slot T 1) 1 fun c => newO H (varObj 9 1 c) fun a H => CC.f (K9 c9x0) n call (TT.setSlot (TT.setSlot (TT.setSlot T 2 (AV.ptr a 0 0 1)) 3 (AV.int 3 0)) 4 (AV.bool false)) H kn kx := by kernel_rfl
theorem c9x0_eq (n : Nat) (call : CallK) (T : TT) (H : Heap) (kn : TT → Heap → Bool) (kx : X → TT → Heap → Bool) : (K9 c9x0).f n call T H kn kx =
  call 15 [TT.slot T 0, AV.fn 19 [] [TT.slot T 2]] H fun r H => resCase r (fun v => CC.f (K9 c9x1) n call (TT.setSlot T 5 v) H kn kx) fun v => kx (X.panic v) T H := by kernel_rfl
theorem c9x1_eq (n : Nat) (call : CallK) (T : TT) (H : Heap) (kn : TT → Heap → Bool) (kx : X → TT → Heap → Bool) : (K9 c9x1).f n call T H kn kx =
  vInt (TT.slot T 5) fun c n =>
    bIf (Nat.beq c 3)
      (bIf (Nat.ble (Nat.succ n) 2147483648)
        (bIf true
          (bIf true
            (bIf (Nat.ble (Nat.succ n) 0)
              (vInt (TT.slot T 5) fun c1 a => bIf (Nat.beq c1 3) (bIf true (forceB (leqN 9223372036854775808 18446744073709551616 0 a) fun r => kx X.ret (TT.setSlot (TT.setSlot T 3 (AV.int 3 0)) 4 (AV.bool r)) H) false) false)
              (vInt (TT.slot T 5) fun c1 a => bIf (Nat.beq c1 3) (bIf true (forceB (leqN 9223372036854775808 18446744073709551616 0 a) fun r => kx X.ret (TT.setSlot (TT.setSlot T 3 (AV.int 3 n)) 4 (AV.bool r)) H) false) false))
            false)
          false)
        (bIf (Nat.ble 9223372036854775808 n)
          (bIf true
            (bIf true (vInt (TT.slot T 5) fun c1 a => bIf (Nat.beq c1 3) (bIf true (forceB (leqN 9223372036854775808 18446744073709551616 0 a) fun r => kx X.ret (TT.setSlot (TT.setSlot T 3 (AV.int 3 0)) 4 (AV.bool r)) H) false) false) false)
            false)
          false))
      false := by kernel_rfl
theorem e9_eq (n : Nat) (call : CallK) (args : List AV) (H : Heap) (k : Res → Heap → Bool) : (cfn (pgF Tryz.prog) Go.Sp.E0 Go.Sp.extS 9).f n call args H k =
  lenC args 2
    (initT args fun T =>
      CC.f (K9 b9) n call T H (fun T H => noDs T (k (Res.val (AV.tup [TT.slot T 3, TT.slot T 4])) H)) fun x T H => xCase x (fun x => false) (noDs T (k (Res.val (AV.tup [TT.slot T 3, TT.slot T 4])) H)) fun v => noDs T (k (Res.pan v) H)) := by kernel_rfl
end Go.Sp

namespace Go.Sp
open Go Go.Ev Go.Proofs
set_option linter.unusedVariables false
set_option maxRecDepth 100000
noncomputable def K13 (c : Go.Code) : CC := ccode (pgF Tryz.prog) [0, 1, 4] 11 c
noncomputable def b13 : Go.Code := bodyOf Tryz.f13
noncomputable def c13x0 : Go.Code := cB (bodyOf Tryz.f13)
theorem f13_eq (n : Nat) (call : CallK) (T : TT) (H : Heap) (kn : TT → Heap → Bool) (kx : X → TT → Heap → Bool) : (K13 b13).f n call T H kn kx =
  CC.f (K13 c13x0) n call (TT.setSlot T 2 (AV.bool false)) H kn kx := by kernel_rfl
theorem c13x0_eq (n : Nat) (call : CallK) (T : TT) (H : Heap) (kn : TT → Heap → Bool) (kx : X → TT → Heap → Bool) : (K13 c13x0).f n call T H kn kx =
  call 12 [TT.slot T 0, TT.slot T 1] H fun r H =>
    resCase r
      (fun v =>
        vInt (TT.slot T 1) fun c1 a =>
          bIf (Nat.beq c1 3) (bIf true (forceNat (subN 18446744073709551616 a 1) fun r => vInt v fun c1 a => bIf (Nat.beq c1 3) (bIf true (forceB (Nat.beq a r) fun r => kx X.ret (TT.setSlot T 2 (AV.bool r)) H) false) false) false) false)
      fun v => kx (X.panic v) T H := by kernel_rfl
theorem e13_eq (n : Nat) (call : CallK) (args : List AV) (H : Heap) (k : Res → Heap → Bool) : (cfn (pgF Tryz.prog) Go.Sp.E0 Go.Sp.extS 13).f n call args H k =
  lenC args 2 (initT args fun T => CC.f (K13 b13) n call T H (fun T H => noDs T (k (Res.val (TT.slot T 2)) H)) fun x T H => xCase x (fun x => false) (noDs T (k (Res.val (TT.slot T 2)) H)) fun v => noDs T (k (Res.pan v) H)) := by kernel_rfl
end Go.Sp

namespace Go.Sp
open Go Go.Ev Go.Proofs
set_option linter.unusedVariables false
set_option maxRecDepth 100000
noncomputable def K15 (c : Go.Code) : CC := ccode (pgF Tryz.prog) [0, 1, 4, 5, 7, 8, 9, 16] 19 c
noncomputable def b15 : Go.Code := bodyOf Tryz.f15
noncomputable def c15x0 : Go.Code := cB (bodyOf Tryz.f15)
noncomputable def c15x1 : Go.Code := cB (cA (cB (bodyOf Tryz.f15)))
noncomputable def c15x2 : Go.Code := cA (cA (cB (cA (cB (bodyOf Tryz.f15)))))
noncomputable def c15x3 : Go.Code := cB (cA (cA (cB (cA (cB (bodyOf Tryz.f15))))))
noncomputable def c15x4 : Go.Code := cB (cB (cA (cA (cB (cA (cB (bodyOf Tryz.f15)))))))
noncomputable def c15x5 : Go.Code := cB (cA (cA (cB (cB (cA (cA (cB (cA (cB (bodyOf Tryz.f15))))))))))
noncomputable def c15x6 : Go.Code := cB (cB (cA (cA (cB (cB (cA (cA (cB (cA (cB (bodyOf Tryz.f15)))))))))))
noncomputable def c15x7 : Go.Code := cB (cB (cB (cA (cA (cB (cA (cB (bodyOf Tryz.f15))))))))
noncomputable def c15x8 : Go.Code := cB (cB (bodyOf Tryz.f15))
theorem f15_eq (n : Nat) (call : CallK) (T : TT) (H : Heap) (kn : TT → Heap → Bool) (kx : X → TT → Heap → Bool) : (K15 b15).f n call T H kn kx =
  CC.f (K15 c15x0) n call (TT.setSlot T 2 (AV.int 3 0)) H kn kx := by kernel_rfl
theorem c15x0_eq (n : Nat) (call : CallK) (T : TT) (H : Heap) (kn : TT → Heap → Bool) (kx : X → TT → Heap → Bool) : (K15 c15x0).f n call T H kn kx =
  vSliceN (TT.slot T 0) (CC.f (K15 c15x1) n call (TT.setSlot (TT.setSlot T 4 (AV.int 3 0)) 5 (AV.int 3 0)) H (fun T H => CC.f (K15 c15x8) n call T H kn kx) kx) fun x x_1 l x_2 x_3 x_4 =>
    CC.f (K15 c15x1) n call (TT.setSlot (TT.setSlot T 4 (AV.int 3 l)) 5 (AV.int 3 0)) H (fun T H => CC.f (K15 c15x8) n call T H kn kx) kx := by kernel_rfl
theorem c15x1_eq (n : Nat) (call : CallK) (T : TT) (H : Heap) (kn : TT → Heap → Bool) (kx : X → TT → Heap → Bool) : (K15 c15x1).f n call T H kn kx =
  loopN (fun again T H => CC.f (K15 c15x2) n call T H again fun x T H => xCase x (fun i => bIf (Nat.beq i 0) (kn T H) (kx (X.exit i) T H)) (kx X.ret T H) fun v => kx (X.panic v) T H) n T H := by kernel_rfl
theorem c15x2_eq (n : Nat) (call : CallK) (T : TT) (H : Heap) (kn : TT → Heap → Bool) (kx : X → TT → Heap → Bool) : (K15 c15x2).f n call T H kn kx =
  vInt (TT.slot T 5) fun c1 a =>
    vInt (TT.slot T 4) fun c2 b => bIf (Nat.beq c1 3) (bIf (Nat.beq c2 3) (forceB (lssN 9223372036854775808 18446744073709551616 a b) fun r => CC.f (K15 c15x3) n call (TT.setSlot T 6 (AV.bool r)) H kn kx) false) false := by kernel_rfl
theorem c15x3_eq (n : Nat) (call : CallK) (T : TT) (H : Heap) (kn : TT → Heap → Bool) (kx : X → TT → Heap → Bool) : (K15 c15x3).f n call T H kn kx =
  vBool (TT.slot T 6) fun v => bIf v (CC.f (K15 c15x4) n call T H kn kx) (kx (X.exit 0) T H) := by kernel_rfl
theorem c15x4_eq (n : Nat) (call : CallK) (T : TT) (H : Heap) (kn : TT → Heap → Bool) (kx : X → TT → Heap → Bool) : (K15 c15x4).f n call T H kn kx =
  CC.f (K15 c15x5) n call (TT.setSlot T 3 (TT.slot T 5)) H (fun T H => CC.f (K15 c15x7) n call T H kn kx) fun x T H =>
    xCase x (fun i => bIf (Nat.beq i 1) (CC.f (K15 c15x7) n call T H kn kx) (kx (X.exit i) T H)) (kx X.ret T H) fun v => kx (X.panic v) T H := by kernel_rfl
theorem c15x5_eq (n : Nat) (call : CallK) (T : TT) (H : Heap) (kn : TT → Heap → Bool) (kx : X → TT → Heap → Bool) : (K15 c15x5).f n call T H kn kx =
  vSlice (TT.slot T 0) fun a i0 l c u z =>
    asIdx (TT.slot T 3) l fun j =>
      bIf (Nat.beq z 9)
        (forceNat (Nat.add i0 j) fun r =>
          getO H a fun o =>
            oCells o fun rs n_1 z' x x_1 x_2 =>
              bIf (Nat.ble (Nat.succ r) n_1)
                (bIf (Nat.beq z z')
                  (Go.Ev.rowAt rs r fun row =>
                    bIf (Nat.beq 9 z)
                      (bIf true
                        (vFn (TT.slot T 1) fun f xs ys => appC [AV.agg 9 row] ys fun r => appC xs r fun args => call f args H fun r H => resCase r (fun v => CC.f (K15 c15x6) n call (TT.setSlot T 7 v) H kn kx) fun v => kx (X.panic v) T H)
                        false)
                      (dropC row 0 fun q =>
                        takeC q 9 fun q =>
                          vFn (TT.slot T 1) fun f xs ys => appC [AV.agg 9 q] ys fun r => appC xs r fun args => call f args H fun r H => resCase r (fun v => CC.f (K15 c15x6) n call (TT.setSlot T 7 v) H kn kx) fun v => kx (X.panic v) T H))
                  false)
                false)
        false := by kernel_rfl
theorem c15x6_eq (n : Nat) (call : CallK) (T : TT) (H : Heap) (kn : TT → Heap → Bool) (kx : X → TT → Heap → Bool) : (K15 c15x6).f n call T H kn kx =
  vBool (TT.slot T 7) fun v => bIf v (kx X.ret (TT.setSlot T 2 (TT.slot T 3)) H) (kn T H) := by kernel_rfl
theorem c15x7_eq (n : Nat) (call : CallK) (T : TT) (H : Heap) (kn : TT → Heap → Bool) (kx : X → TT → Heap → Bool) : (K15 c15x7).f n call T H kn kx =
  vInt (TT.slot T 5) fun c1 a => bIf (Nat.beq c1 3) (bIf true (forceNat (addN 18446744073709551616 a 1) fun r => kn (TT.setSlot T 5 (AV.int 3 r)) H) false) false := by kernel_rfl
theorem c15x8_eq (n : Nat) (call : CallK) (T : TT) (H : Heap) (kn : TT → Heap → Bool) (kx : X → TT → Heap → Bool) : (K15 c15x8).f n call T H kn kx =
  kx X.ret (TT.setSlot T 2 (AV.int 3 18446744073709551615)) H := by kernel_rfl
theorem e15_eq (n : Nat) (call : CallK) (args : List AV) (H : Heap) (k : Res → Heap → Bool) : (cfn (pgF Tryz.prog) Go.Sp.E0 Go.Sp.extS 15).f n call args H k =
  lenC args 2 (initT args fun T => CC.f (K15 b15) n call T H (fun T H => noDs T (k (Res.val (TT.slot T 2)) H)) fun x T H => xCase x (fun x => false) (noDs T (k (Res.val (TT.slot T 2)) H)) fun v => noDs T (k (Res.pan v) H)) := by kernel_rfl
end Go.Sp

namespace Go.Sp
open Go Go.Ev Go.Proofs
set_option linter.unusedVariables false
set_option maxRecDepth 100000
noncomputable def K16 (c : Go.Code) : CC := ccode (pgF Tryz.prog) [0, 1, 2, 3] 16 c
noncomputable def b16 : Go.Code := bodyOf Tryz.f16
noncomputable def c16x0 : Go.Code := cB (bodyOf Tryz.f16)
theorem f16_eq (n : Nat) (call : CallK) (T : TT) (H : Heap) (kn : TT → Heap → Bool) (kx : X → TT → Heap → Bool) : (K16 b16).f n call T H kn kx =
  cellsN (TT.slot T 0) 9 fun c => newO H (varObj 39 9 c) fun a H => CC.f (K16 c16x0) n call (TT.setSlot (TT.setSlot T 2 (AV.ptr a 0 0 9)) 3 (AV.bool false)) H kn kx := by kernel_rfl
theorem c16x0_eq (n : Nat) (call : CallK) (T : TT) (H : Heap) (kn : TT → Heap → Bool) (kx : X → TT → Heap → Bool) : (K16 c16x0).f n call T H kn kx =
  rowOf (TT.slot T 1) H fun s z row =>
    nthC row s fun v =>
      vPtr (TT.slot T 2) fun a r s z =>
        forceNat (Nat.add s 1) fun s =>
          getO H a fun o =>
            oCells o fun rs n z' x x_1 x_2 =>
              bIf (Nat.ble (Nat.succ r) n)
                (bIf (Nat.beq z z')
                  (Go.Ev.rowAt rs r fun row =>
                    nthC row s fun v_1 =>
                      bIf (keyOk (pgF Tryz.prog) 9 v_1)
                        (vMap v fun a =>
                          getO H a fun o =>
                            oMap o fun es x =>
                              lookIn (AV.bool false) v_1 false es fun v =>
                                vBool v fun b =>
                                  bIf b (bIf false (kx X.ret (TT.setSlot T 3 AV.undef) H) (kx X.ret (TT.setSlot T 3 (AV.bool false)) H))
                                    (vPtr (TT.slot T 2) fun a r s z =>
                                      forceNat (Nat.add s 3) fun s =>
                                        getO H a fun o =>
                                          oCells o fun rs n z' x x_3 x_4 =>
                                            bIf (Nat.ble (Nat.succ r) n)
                                              (bIf (Nat.beq z z')
                                                (Go.Ev.rowAt rs r fun row =>
                                                  nthC row s fun v =>
                                                    call 17 [v, AV.fn 18 [] [TT.slot T 1]] H fun r H =>
                                                      resCase r
                                                        (fun v =>
                                                          vBool v fun b =>
                                                            bIf b (bIf true (kx X.ret (TT.setSlot T 3 (AV.bool false)) H) (kx X.ret (TT.setSlot T 3 (AV.bool false)) H))
                                                              (bIf true (kx X.ret (TT.setSlot T 3 (AV.bool true)) H) (kx X.ret (TT.setSlot T 3 (AV.bool false)) H)))
                                                        fun v => kx (X.panic v) T H)
                                                false)
                                              false))
                        false)
                  false)
                false := by kernel_rfl
theorem e16_eq (n : Nat) (call : CallK) (args : List AV) (H : Heap) (k : Res → Heap → Bool) : (cfn (pgF Tryz.prog) Go.Sp.E0 Go.Sp.extS 16).f n call args H k =
  lenC args 2 (initT args fun T => CC.f (K16 b16) n call T H (fun T H => noDs T (k (Res.val (TT.slot T 3)) H)) fun x T H => xCase x (fun x => false) (noDs T (k (Res.val (TT.slot T 3)) H)) fun v => noDs T (k (Res.pan v) H)) := by kernel_rfl
end Go.Sp

namespace Go.Sp
open Go Go.Ev Go.Proofs
set_option linter.unusedVariables false
set_option maxRecDepth 100000
noncomputable def K17 (c : Go.Code) : CC := ccode (pgF Tryz.prog) [0, 1, 4] 9 c
noncomputable def b17 : Go.Code := bodyOf Tryz.f17
noncomputable def c17x0 : Go.Code := cB (bodyOf Tryz.f17)
theorem f17_eq (n : Nat) (call : CallK) (T : TT) (H : Heap) (kn : TT → Heap → Bool) (kx : X → TT → Heap → Bool) : (K17 b17).f n call T H kn kx =
  CC.f (K17 c17x0) n call (TT.setSlot T 2 (AV.bool false)) H kn kx := by kernel_rfl
theorem c17x0_eq (n : Nat) (call : CallK) (T : TT) (H : Heap) (kn : TT → Heap → Bool) (kx : X → TT → Heap → Bool) : (K17 c17x0).f n call T H kn kx =
  call 44 [TT.slot T 0, TT.slot T 1] H fun r H =>
    resCase r (fun v => vInt v fun c1 a => bIf (Nat.beq c1 3) (bIf true (forceB (leqN 9223372036854775808 18446744073709551616 0 a) fun r => kx X.ret (TT.setSlot T 2 (AV.bool r)) H) false) false) fun v => kx (X.panic v) T H := by kernel_rfl
theorem e17_eq (n : Nat) (call : CallK) (args : List AV) (H : Heap) (k : Res → Heap → Bool) : (cfn (pgF Tryz.prog) Go.Sp.E0 Go.Sp.extS 17).f n call args H k =
  lenC args 2 (initT args fun T => CC.f (K17 b17) n call T H (fun T H => noDs T (k (Res.val (TT.slot T 2)) H)) fun x T H => xCase x (fun x => false) (noDs T (k (Res.val (TT.slot T 2)) H)) fun v => noDs T (k (Res.pan v) H)) := by kernel_rfl
end Go.Sp

namespace Go.Sp
open Go Go.Ev Go.Proofs
set_option linter.unusedVariables false
set_option maxRecDepth 100000
noncomputable def K18 (c : Go.Code) : CC := ccode (pgF Tryz.prog) [0, 1, 2, 3] 9 c
noncomputable def b18 : Go.Code := bodyOf Tryz.f18
noncomputable def c18x0 : Go.Code := cB (bodyOf Tryz.f18)
theorem f18_eq (n : Nat) (call : CallK) (T : TT) (H : Heap) (kn : TT → Heap → Bool) (kx : X → TT → Heap → Bool) : (K18 b18).f n call T H kn kx =
  cellsN (TT.slot T 0) 2 fun c => newO H (varObj 41 2 c) fun a H => CC.f (K18 c18x0) n call (TT.setSlot (TT.setSlot T 2 (AV.ptr a 0 0 2)) 3 (AV.bool false)) H kn kx := by kernel_rfl
theorem c18x0_eq (n : Nat) (call : CallK) (T : TT) (H : Heap) (kn : TT → Heap → Bool) (kx : X → TT → Heap → Bool) : (K18 c18x0).f n call T H kn kx =
  rowOf (TT.slot T 1) H fun s z row =>
    nthC row s fun v =>
      vPtr (TT.slot T 2) fun a r s z =>
        forceNat (Nat.add s 0) fun s =>
          getO H a fun o =>
            oCells o fun rs n z' x x_1 x_2 =>
              bIf (Nat.ble (Nat.succ r) n)
                (bIf (Nat.beq z z')
                  (Go.Ev.rowAt rs r fun row =>
                    nthC row s fun v_1 =>
                      bIf (keyOk (pgF Tryz.prog) 9 v_1)
                        (vMap v fun a => getO H a fun o => oMap o fun es x => lookIn (AV.bool false) v_1 false es fun v => vBool v fun b => bIf b (kx X.ret (TT.setSlot T 3 (AV.bool false)) H) (kx X.ret (TT.setSlot T 3 (AV.bool true)) H))
                        false)
                  false)
                false := by kernel_rfl
theorem e18_eq (n : Nat) (call : CallK) (args : List AV) (H : Heap) (k : Res → Heap → Bool) : (cfn (pgF Tryz.prog) Go.Sp.E0 Go.Sp.extS 18).f n call args H k =
  lenC args 2 (initT args fun T => CC.f (K18 b18) n call T H (fun T H => noDs T (k (Res.val (TT.slot T 3)) H)) fun x T H => xCase x (fun x => false) (noDs T (k (Res.val (TT.slot T 3)) H)) fun v => noDs T (k (Res.pan v) H)) := by kernel_rfl
end Go.Sp

namespace Go.Sp
open Go Go.Ev Go.Proofs
set_option linter.unusedVariables false
set_option maxRecDepth 100000
noncomputable def K19 (c : Go.Code) : CC := ccode (pgF Tryz.prog) [0, 1, 2, 3] 8 c
noncomputable def b19 : Go.Code := bodyOf Tryz.f19
noncomputable def c19x0 : Go.Code := cB (bodyOf Tryz.f19)
theorem f19_eq (n : Nat) (call : CallK) (T : TT) (H : Heap) (kn : TT → Heap → Bool) (kx : X → TT → Heap → Bool) : (K19 b19).f n call T H kn kx =
  cellsN (TT.slot T 0) 9 fun c => newO H (varObj 39 9 c) fun a H => CC.f (K19 c19x0) n call (TT.setSlot (TT.setSlot T 2 (AV.ptr a 0 0 9)) 3 (AV.bool false)) H kn kx := by kernel_rfl
theorem c19x0_eq (n : Nat) (call : CallK) (T : TT) (H : Heap) (kn : TT → Heap → Bool) (kx : X → TT → Heap → Bool) : (K19 c19x0).f n call T H kn kx =
  vPtr (TT.slot T 2) fun a r s z =>
    forceNat (Nat.add s 1) fun s =>
      getO H a fun o =>
        oCells o fun rs n z' x x_1 x_2 =>
          bIf (Nat.ble (Nat.succ r) n)
            (bIf (Nat.beq z z')
              (Go.Ev.rowAt rs r fun row => nthC row s fun v => rowOf (TT.slot T 1) H fun s z row => nthC row s fun v_1 => vStr v fun l n => vStr v_1 fun l' n' => forceB (strEq l n l' n') fun r => kx X.ret (TT.setSlot T 3 (AV.bool r)) H) false)
            false := by kernel_rfl
theorem e19_eq (n : Nat) (call : CallK) (args : List AV) (H : Heap) (k : Res → Heap → Bool) : (cfn (pgF Tryz.prog) Go.Sp.E0 Go.Sp.extS 19).f n call args H k =
  lenC args 2 (initT args fun T => CC.f (K19 b19) n call T H (fun T H => noDs T (k (Res.val (TT.slot T 3)) H)) fun x T H => xCase x (fun x => false) (noDs T (k (Res.val (TT.slot T 3)) H)) fun v => noDs T (k (Res.pan v) H)) := by kernel_rfl
end Go.Sp

namespace Go.Sp
open Go Go.Ev Go.Proofs
set_option linter.unusedVariables false
set_option maxRecDepth 100000
noncomputable def K43 (c : Go.Code) : CC := ccode (pgF Tryz.prog) [0, 1, 2, 3] 9 c
noncomputable def b43 : Go.Code := bodyOf Tryz.f43
noncomputable def c43x0 : Go.Code := cB (bodyOf Tryz.f43)
theorem f43_eq (n : Nat) (call : CallK) (T : TT) (H : Heap) (kn : TT → Heap → Bool) (kx : X → TT → Heap → Bool) : (K43 b43).f n call T H kn kx =
  cellsN (TT.slot T 0) 2 fun c => newO H (varObj 41 2 c) fun a H => CC.f (K43 c43x0) n call (TT.setSlot (TT.setSlot T 2 (AV.ptr a 0 0 2)) 3 (AV.bool false)) H kn kx := by kernel_rfl
theorem c43x0_eq (n : Nat) (call : CallK) (T : TT) (H : Heap) (kn : TT → Heap → Bool) (kx : X → TT → Heap → Bool) : (K43 c43x0).f n call T H kn kx =
  vPtr (TT.slot T 2) fun a r s z =>
    forceNat (Nat.add s 0) fun s =>
      getO H a fun o =>
        oCells o fun rs n z' x x_1 x_2 =>
          bIf (Nat.ble (Nat.succ r) n)
            (bIf (Nat.beq z z')
              (Go.Ev.rowAt rs r fun row =>
                nthC row s fun v =>
                  vPtr (TT.slot T 1) fun a r s z =>
                    forceNat (Nat.add s 0) fun s =>
                      getO H a fun o =>
                        oCells o fun rs n z' x x_3 x_4 =>
                          bIf (Nat.ble (Nat.succ r) n)
                            (bIf (Nat.beq z z') (Go.Ev.rowAt rs r fun row => nthC row s fun v_1 => vStr v fun l n => vStr v_1 fun l' n' => forceB (strEq l n l' n') fun r => kx X.ret (TT.setSlot T 3 (AV.bool r)) H) false) false)
              false)
            false := by kernel_rfl
theorem e43_eq (n : Nat) (call : CallK) (args : List AV) (H : Heap) (k : Res → Heap → Bool) : (cfn (pgF Tryz.prog) Go.Sp.E0 Go.Sp.extS 43).f n call args H k =
  lenC args 2 (initT args fun T => CC.f (K43 b43) n call T H (fun T H => noDs T (k (Res.val (TT.slot T 3)) H)) fun x T H => xCase x (fun x => false) (noDs T (k (Res.val (TT.slot T 3)) H)) fun v => noDs T (k (Res.pan v) H)) := by kernel_rfl
end Go.Sp

namespace Go.Sp
open Go Go.Ev Go.Proofs
set_option linter.unusedVariables false
set_option maxRecDepth 100000
noncomputable def K44 (c : Go.Code) : CC := ccode (pgF Tryz.prog) [0, 1, 4, 5, 7, 8, 9, 16] 19 c
noncomputable def b44 : Go.Code := bodyOf Tryz.f44
noncomputable def c44x0 : Go.Code := cB (bodyOf Tryz.f44)
noncomputable def c44x1 : Go.Code := cB (cA (cB (bodyOf Tryz.f44)))
noncomputable def c44x2 : Go.Code := cA (cA (cB (cA (cB (bodyOf Tryz.f44)))))
noncomputable def c44x3 : Go.Code := cB (cA (cA (cB (cA (cB (bodyOf Tryz.f44))))))
noncomputable def c44x4 : Go.Code := cB (cB (cA (cA (cB (cA (cB (bodyOf Tryz.f44)))))))
noncomputable def c44x5 : Go.Code := cB (cA (cA (cB (cB (cA (cA (cB (cA (cB (bodyOf Tryz.f44))))))))))
noncomputable def c44x6 : Go.Code := cB (cB (cA (cA (cB (cB (cA (cA (cB (cA (cB (bodyOf Tryz.f44)))))))))))
noncomputable def c44x7 : Go.Code := cB (cB (cB (cA (cA (cB (cA (cB (bodyOf Tryz.f44))))))))
noncomputable def c44x8 : Go.Code := cB (cB (bodyOf Tryz.f44))
theorem f44_eq (n : Nat) (call : CallK) (T : TT) (H : Heap) (kn : TT → Heap → Bool) (kx : X → TT → Heap → Bool) : (K44 b44).f n call T H kn kx =
  CC.f (K44 c44x0) n call (TT.setSlot T 2 (AV.int 3 0)) H kn kx := by kernel_rfl
theorem c44x0_eq (n : Nat) (call : CallK) (T : TT) (H : Heap) (kn : TT → Heap → Bool) (kx : X → TT → Heap → Bool) : (K44 c44x0).f n call T H kn kx =
  vSliceN (TT.slot T 0) (CC.f (K44 c44x1) n call (TT.setSlot (TT.setSlot T 4 (AV.int 3 0)) 5 (AV.int 3 0)) H (fun T H => CC.f (K44 c44x8) n call T H kn kx) kx) fun x x_1 l x_2 x_3 x_4 =>
    CC.f (K44 c44x1) n call (TT.setSlot (TT.setSlot T 4 (AV.int 3 l)) 5 (AV.int 3 0)) H (fun T H => CC.f (K44 c44x8) n call T H kn kx) kx := by kernel_rfl
theorem c44x1_eq (n : Nat) (call : CallK) (T : TT) (H : Heap) (kn : TT → Heap → Bool) (kx : X → TT → Heap → Bool) : (K44 c44x1).f n call T H kn kx =
  loopN (fun again T H => CC.f (K44 c44x2) n call T H again fun x T H => xCase x (fun i => bIf (Nat.beq i 0) (kn T H) (kx (X.exit i) T H)) (kx X.ret T H) fun v => kx (X.panic v) T H) n T H := by kernel_rfl
theorem c44x2_eq (n : Nat) (call : CallK) (T : TT) (H : Heap) (kn : TT → Heap → Bool) (kx : X → TT → Heap → Bool) : (K44 c44x2).f n call T H kn kx =
  vInt (TT.slot T 5) fun c1 a =>
    vInt (TT.slot T 4) fun c2 b => bIf (Nat.beq c1 3) (bIf (Nat.beq c2 3) (forceB (lssN 9223372036854775808 18446744073709551616 a b) fun r => CC.f (K44 c44x3) n call (TT.setSlot T 6 (AV.bool r)) H kn kx) false) false := by kernel_rfl
theorem c44x3_eq (n : Nat) (call : CallK) (T : TT) (H : Heap) (kn : TT → Heap → Bool) (kx : X → TT → Heap → Bool) : (K44 c44x3).f n call T H kn kx =
  vBool (TT.slot T 6) fun v => bIf v (CC.f (K44 c44x4) n call T H kn kx) (kx (X.exit 0) T H) := by kernel_rfl
theorem c44x4_eq (n : Nat) (call : CallK) (T : TT) (H : Heap) (kn : TT → Heap → Bool) (kx : X → TT → Heap → Bool) : (K44 c44x4).f n call T H kn kx =
  CC.f (K44 c44x5) n call (TT.setSlot T 3 (TT.slot T 5)) H (fun T H => CC.f (K44 c44x7) n call T H kn kx) fun x T H =>
    xCase x (fun i => bIf (Nat.beq i 1) (CC.f (K44 c44x7) n call T H kn kx) (kx (X.exit i) T H)) (kx X.ret T H) fun v => kx (X.panic v) T H := by kernel_rfl
theorem c44x5_eq (n : Nat) (call : CallK) (T : TT) (H : Heap) (kn : TT → Heap → Bool) (kx : X → TT → Heap → Bool) : (K44 c44x5).f n call T H kn kx =
  vSlice (TT.slot T 0) fun a i0 l c u z =>
    asIdx (TT.slot T 3) l fun j =>
      bIf (Nat.beq z 2)
        (forceNat (Nat.add i0 j) fun r =>
          getO H a fun o =>
            oCells o fun rs n_1 z' x x_1 x_2 =>
              bIf (Nat.ble (Nat.succ r) n_1)
                (bIf (Nat.beq z z')
                  (Go.Ev.rowAt rs r fun row =>
                    bIf (Nat.beq 2 z)
                      (bIf true
                        (vFn (TT.slot T 1) fun f xs ys => appC [AV.agg 2 row] ys fun r => appC xs r fun args => call f args H fun r H => resCase r (fun v => CC.f (K44 c44x6) n call (TT.setSlot T 7 v) H kn kx) fun v => kx (X.panic v) T H)
                        false)
                      (dropC row 0 fun q =>
                        takeC q 2 fun q =>
                          vFn (TT.slot T 1) fun f xs ys => appC [AV.agg 2 q] ys fun r => appC xs r fun args => call f args H fun r H => resCase r (fun v => CC.f (K44 c44x6) n call (TT.setSlot T 7 v) H kn kx) fun v => kx (X.panic v) T H))
                  false)
                false)
        false := by kernel_rfl
theorem c44x6_eq (n : Nat) (call : CallK) (T : TT) (H : Heap) (kn : TT → Heap → Bool) (kx : X → TT → Heap → Bool) : (K44 c44x6).f n call T H kn kx =
  vBool (TT.slot T 7) fun v => bIf v (kx X.ret (TT.setSlot T 2 (TT.slot T 3)) H) (kn T H) := by kernel_rfl
theorem c44x7_eq (n : Nat) (call : CallK) (T : TT) (H : Heap) (kn : TT → Heap → Bool) (kx : X → TT → Heap → Bool) : (K44 c44x7).f n call T H kn kx =
  vInt (TT.slot T 5) fun c1 a => bIf (Nat.beq c1 3) (bIf true (forceNat (addN 18446744073709551616 a 1) fun r => kn (TT.setSlot T 5 (AV.int 3 r)) H) false) false := by kernel_rfl
theorem c44x8_eq (n : Nat) (call : CallK) (T : TT) (H : Heap) (kn : TT → Heap → Bool) (kx : X → TT → Heap → Bool) : (K44 c44x8).f n call T H kn kx =
  kx X.ret (TT.setSlot T 2 (AV.int 3 18446744073709551615)) H := by kernel_rfl
theorem e44_eq (n : Nat) (call : CallK) (args : List AV) (H : Heap) (k : Res → Heap → Bool) : (cfn (pgF Tryz.prog) Go.Sp.E0 Go.Sp.extS 44).f n call args H k =
  lenC args 2 (initT args fun T => CC.f (K44 b44) n call T H (fun T H => noDs T (k (Res.val (TT.slot T 2)) H)) fun x T H => xCase x (fun x => false) (noDs T (k (Res.val (TT.slot T 2)) H)) fun v => noDs T (k (Res.pan v) H)) := by kernel_rfl
end Go.Sp
