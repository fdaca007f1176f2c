/- The code of Order and wrong as explicit equations. -/
import Derived.Test.YtehnkiaepkldiaaGreatDoorSpB
namespace Go.Sp
open Go Go.Ev Go.Proofs
set_option linter.unusedVariables false
set_option maxRecDepth 100000
noncomputable def K8 (c : Go.Code) : CC := ccode (pgF Tryz.prog) [0, 2, 3, 4, 5, 6, 7, 8, 10, 11, 12, 18, 26, 31] 43 c
noncomputable def b8 : Go.Code := bodyOf Tryz.f8
noncomputable def c8x0 : Go.Code := cB (bodyOf Tryz.f8)
noncomputable def c8x1 : Go.Code := cB (cA (cB (bodyOf Tryz.f8)))
noncomputable def c8x2 : Go.Code := cA (cA (cB (cA (cB (bodyOf Tryz.f8)))))
noncomputable def c8x3 : Go.Code := cB (cA (cA (cB (cA (cB (bodyOf Tryz.f8))))))
noncomputable def c8x4 : Go.Code := cB (cB (cA (cA (cB (cA (cB (bodyOf Tryz.f8)))))))
noncomputable def c8x5 : Go.Code := cB (cA (cA (cB (cB (cA (cA (cB (cA (cB (bodyOf Tryz.f8))))))))))
noncomputable def c8x6 : Go.Code := cB (cB (cA (cA (cB (cB (cA (cA (cB (cA (cB (bodyOf Tryz.f8)))))))))))
noncomputable def c8x7 : Go.Code := cB (cB (cB (cA (cA (cB (cB (cA (cA (cB (cA (cB (bodyOf Tryz.f8))))))))))))
noncomputable def c8x8 : Go.Code := cB (cB (cB (cA (cA (cB (cA (cB (bodyOf Tryz.f8))))))))
noncomputable def c8x9 : Go.Code := cB (cB (bodyOf Tryz.f8))
noncomputable def c8x10 : Go.Code := cB (cB (cB (bodyOf Tryz.f8)))
noncomputable def c8x11 : Go.Code := cB (cB (cB (cB (bodyOf Tryz.f8))))
noncomputable def c8x12 : Go.Code := cA (cA (cA (cB (cB (cB (cB (bodyOf Tryz.f8)))))))
noncomputable def c8x13 : Go.Code := cB (cA (cA (cA (cA (cB (cB (cB (cB (bodyOf Tryz.f8)))))))))
noncomputable def c8x14 : Go.Code := cB (cA (cA (cA (cB (cB (cB (cB (bodyOf Tryz.f8))))))))
noncomputable def c8x15 : Go.Code := cB (cA (cB (cA (cA (cA (cB (cB (cB (cB (bodyOf Tryz.f8))))))))))
noncomputable def c8x16 : Go.Code := cB (cA (cB (cA (cB (cA (cA (cA (cB (cB (cB (cB (bodyOf Tryz.f8))))))))))))
noncomputable def c8x17 : Go.Code := cB (cB (cA (cB (cA (cA (cA (cB (cB (cB (cB (bodyOf Tryz.f8)))))))))))
noncomputable def c8x18 : Go.Code := cB (cB (cB (cA (cB (cA (cA (cA (cB (cB (cB (cB (bodyOf Tryz.f8))))))))))))
noncomputable def c8x19 : Go.Code := cB (cB (cB (cB (cB (bodyOf Tryz.f8)))))
theorem f8_eq (n : Nat) (call : CallK) (T : TT) (H : Heap) (kn : TT → Heap → Bool) (kx : X → TT → Heap → Bool) : (K8 b8).f n call T H kn kx =
  CC.f (K8 c8x0) n call (TT.setSlot (TT.setSlot T 1 (AV.nil NK.s)) 2 (AV.int 3 0)) H kn kx := by kernel_rfl
theorem c8x0_eq (n : Nat) (call : CallK) (T : TT) (H : Heap) (kn : TT → Heap → Bool) (kx : X → TT → Heap → Bool) : (K8 c8x0).f n call T H kn kx =
  vSliceN (TT.slot T 0) (CC.f (K8 c8x1) n call (TT.setSlot (TT.setSlot T 8 (AV.int 3 0)) 9 (AV.int 3 0)) H (fun T H => CC.f (K8 c8x9) n call T H kn kx) kx) fun x x_1 l x_2 x_3 x_4 =>
    CC.f (K8 c8x1) n call (TT.setSlot (TT.setSlot T 8 (AV.int 3 l)) 9 (AV.int 3 0)) H (fun T H => CC.f (K8 c8x9) n call T H kn kx) kx := by kernel_rfl
theorem c8x1_eq (n : Nat) (call : CallK) (T : TT) (H : Heap) (kn : TT → Heap → Bool) (kx : X → TT → Heap → Bool) : (K8 c8x1).f n call T H kn kx =
  loopN (fun again T H => CC.f (K8 c8x2) n call T H again fun x T H => xCase x (fun i => bIf (Nat.beq i 0) (kn T H) (kx (X.exit i) T H)) (kx X.ret T H) fun v => kx (X.panic v) T H) n T H := by kernel_rfl
theorem c8x2_eq (n : Nat) (call : CallK) (T : TT) (H : Heap) (kn : TT → Heap → Bool) (kx : X → TT → Heap → Bool) : (K8 c8x2).f n call T H kn kx =
  vInt (TT.slot T 9) fun c1 a =>
    vInt (TT.slot T 8) fun c2 b => bIf (Nat.beq c1 3) (bIf (Nat.beq c2 3) (forceB (lssN 9223372036854775808 18446744073709551616 a b) fun r => CC.f (K8 c8x3) n call (TT.setSlot T 10 (AV.bool r)) H kn kx) false) false := by kernel_rfl
theorem c8x3_eq (n : Nat) (call : CallK) (T : TT) (H : Heap) (kn : TT → Heap → Bool) (kx : X → TT → Heap → Bool) : (K8 c8x3).f n call T H kn kx =
  vBool (TT.slot T 10) fun v => bIf v (CC.f (K8 c8x4) n call T H kn kx) (kx (X.exit 0) T H) := by kernel_rfl
theorem c8x4_eq (n : Nat) (call : CallK) (T : TT) (H : Heap) (kn : TT → Heap → Bool) (kx : X → TT → Heap → Bool) : (K8 c8x4).f n call T H kn kx =
  CC.f (K8 c8x5) n call (TT.setSlot T 3 (TT.slot T 9)) H (fun T H => CC.f (K8 c8x8) n call T H kn kx) fun x T H =>
    xCase x (fun i => bIf (Nat.beq i 1) (CC.f (K8 c8x8) n call T H kn kx) (kx (X.exit i) T H)) (kx X.ret T H) fun v => kx (X.panic v) T H := by kernel_rfl
theorem c8x5_eq (n : Nat) (call : CallK) (T : TT) (H : Heap) (kn : TT → Heap → Bool) (kx : X → TT → Heap → Bool) : (K8 c8x5).f n call T H kn kx =
  call 14 [TT.slot T 0, TT.slot T 3] H fun r H => resCase r (fun v => CC.f (K8 c8x6) n call (TT.setSlot T 4 v) H kn kx) fun v => kx (X.panic v) T H := by kernel_rfl
theorem c8x6_eq (n : Nat) (call : CallK) (T : TT) (H : Heap) (kn : TT → Heap → Bool) (kx : X → TT → Heap → Bool) : (K8 c8x6).f n call T H kn kx =
  vInt (TT.slot T 4) fun c1 a => bIf (Nat.beq c1 3) (bIf true (bIf (Nat.beq a 0) (CC.f (K8 c8x7) n call (TT.setSlot T 11 (AV.bool false)) H kn kx) (CC.f (K8 c8x7) n call (TT.setSlot T 11 (AV.bool true)) H kn kx)) false) false := by kernel_rfl
theorem c8x7_eq (n : Nat) (call : CallK) (T : TT) (H : Heap) (kn : TT → Heap → Bool) (kx : X → TT → Heap → Bool) : (K8 c8x7).f n call T H kn kx =
  vBool (TT.slot T 11) fun v => bIf v (kx X.ret (TT.setSlot (TT.setSlot T 1 (AV.nil NK.s)) 2 (TT.slot T 4)) H) (kn T H) := by kernel_rfl
theorem c8x8_eq (n : Nat) (call : CallK) (T : TT) (H : Heap) (kn : TT → Heap → Bool) (kx : X → TT → Heap → Bool) : (K8 c8x8).f n call T H kn kx =
  vInt (TT.slot T 9) fun c1 a => bIf (Nat.beq c1 3) (bIf true (forceNat (addN 18446744073709551616 a 1) fun r => kn (TT.setSlot T 9 (AV.int 3 r)) H) false) false := by kernel_rfl
theorem c8x9_eq (n : Nat) (call : CallK) (T : TT) (H : Heap) (kn : TT → Heap → Bool) (kx : X → TT → Heap → Bool) : (K8 c8x9).f n call T H kn kx =
  newO H (AObj.map [] 0) fun a H =>
    newO H (varObj 66 1 [AV.nil NK.m]) fun a_1 H =>
      bIf true
        (getO H a_1 fun o =>
          oCells o fun rs n_1 z' el u ro =>
            bIf ro false
              (bIf (Nat.ble 1 n_1)
                (bIf (Nat.beq 1 z')
                  (bIf true (bIf true (setRow rs 0 [AV.map a] fun rs => putO H a_1 (AObj.cells rs n_1 1 el u ro) fun H => CC.f (K8 c8x10) n call (TT.setSlot T 5 (AV.ptr a_1 0 0 1)) H kn kx) false)
                    (Go.Ev.rowAt rs 0 fun row =>
                      takeC row 0 fun q =>
                        dropC row 1 fun w => appC [AV.map a] w fun w => appC q w fun row => setRow rs 0 row fun rs => putO H a_1 (AObj.cells rs n_1 1 el u ro) fun H => CC.f (K8 c8x10) n call (TT.setSlot T 5 (AV.ptr a_1 0 0 1)) H kn kx))
                  false)
                false))
        false := by kernel_rfl
theorem c8x10_eq (n : Nat) (call : CallK) (T : TT) (H : Heap) (kn : TT → Heap → Bool) (kx : X → TT → Heap → Bool) : (K8 c8x10).f n call T H kn kx =
  CC.f (K8 c8x11) n call (TT.setSlot T 6 (AV.nil NK.s)) H kn kx := by kernel_rfl
theorem c8x11_eq (n : Nat) (call : CallK) (T : TT) (H : Heap) (kn : TT → Heap → Bool) (kx : X → TT → Heap → Bool) : (K8 c8x11).f n call T H kn kx =
  loopN (fun again T H => CC.f (K8 c8x12) n call T H again fun x T H => xCase x (fun i => bIf (Nat.beq i 2) (CC.f (K8 c8x19) n call T H kn kx) (kx (X.exit i) T H)) (kx X.ret T H) fun v => kx (X.panic v) T H) n T H := by kernel_rfl
theorem c8x12_eq (n : Nat) (call : CallK) (T : TT) (H : Heap) (kn : TT → Heap → Bool) (kx : X → TT → Heap → Bool) : (K8 c8x12).f n call T H kn kx =
  vSliceN (TT.slot T 6)
    (vSliceN (TT.slot T 0) (vInt (AV.int 3 0) fun c1 a => vInt (AV.int 3 0) fun c2 b => bIf (Nat.beq c1 3) (bIf (Nat.beq c2 3) (forceB (lssN 9223372036854775808 18446744073709551616 a b) fun r => CC.f (K8 c8x13) n call (TT.setSlot T 12 (AV.bool r)) H (fun T H => CC.f (K8 c8x14) n call T H kn kx) kx) false) false)
      fun x x_1 l x_2 x_3 x_4 => vInt (AV.int 3 0) fun c1 a => vInt (AV.int 3 l) fun c2 b => bIf (Nat.beq c1 3) (bIf (Nat.beq c2 3) (forceB (lssN 9223372036854775808 18446744073709551616 a b) fun r => CC.f (K8 c8x13) n call (TT.setSlot T 12 (AV.bool r)) H (fun T H => CC.f (K8 c8x14) n call T H kn kx) kx) false) false)
    fun x x_1 l x_2 x_3 x_4 =>
    vSliceN (TT.slot T 0) (vInt (AV.int 3 l) fun c1 a => vInt (AV.int 3 0) fun c2 b => bIf (Nat.beq c1 3) (bIf (Nat.beq c2 3) (forceB (lssN 9223372036854775808 18446744073709551616 a b) fun r => CC.f (K8 c8x13) n call (TT.setSlot T 12 (AV.bool r)) H (fun T H => CC.f (K8 c8x14) n call T H kn kx) kx) false) false)
      fun x x_5 l_1 x_6 x_7 x_8 => vInt (AV.int 3 l) fun c1 a => vInt (AV.int 3 l_1) fun c2 b => bIf (Nat.beq c1 3) (bIf (Nat.beq c2 3) (forceB (lssN 9223372036854775808 18446744073709551616 a b) fun r => CC.f (K8 c8x13) n call (TT.setSlot T 12 (AV.bool r)) H (fun T H => CC.f (K8 c8x14) n call T H kn kx) kx) false) false := by kernel_rfl
theorem c8x13_eq (n : Nat) (call : CallK) (T : TT) (H : Heap) (kn : TT → Heap → Bool) (kx : X → TT → Heap → Bool) : (K8 c8x13).f n call T H kn kx =
  vBool (TT.slot T 12) fun v => bIf v (kn T H) (kx (X.exit 2) T H) := by kernel_rfl
theorem c8x14_eq (n : Nat) (call : CallK) (T : TT) (H : Heap) (kn : TT → Heap → Bool) (kx : X → TT → Heap → Bool) : (K8 c8x14).f n call T H kn kx =
  call 15 [TT.slot T 0, AV.fn 16 [] [TT.slot T 5]] H fun r H =>
    resCase r (fun v => CC.f (K8 c8x15) n call (TT.setSlot T 7 v) H kn fun x T H => xCase x (fun i => bIf (Nat.beq i 3) (kn T H) (kx (X.exit i) T H)) (kx X.ret T H) fun v => kx (X.panic v) T H) fun v => kx (X.panic v) T H := by kernel_rfl
theorem c8x15_eq (n : Nat) (call : CallK) (T : TT) (H : Heap) (kn : TT → Heap → Bool) (kx : X → TT → Heap → Bool) : (K8 c8x15).f n call T H kn kx =
  vInt (TT.slot T 7) fun c1 a =>
    bIf (Nat.beq c1 3) (bIf true (forceB (lssN 9223372036854775808 18446744073709551616 a 0) fun r => CC.f (K8 c8x16) n call (TT.setSlot T 13 (AV.bool r)) H (fun T H => CC.f (K8 c8x17) n call T H kn kx) kx) false) false := by kernel_rfl
theorem c8x16_eq (n : Nat) (call : CallK) (T : TT) (H : Heap) (kn : TT → Heap → Bool) (kx : X → TT → Heap → Bool) : (K8 c8x16).f n call T H kn kx =
  vBool (TT.slot T 13) fun v => bIf v (kx X.ret (TT.setSlot (TT.setSlot T 1 (AV.nil NK.s)) 2 (AV.int 3 8)) H) (kn T H) := by kernel_rfl
theorem c8x17_eq (n : Nat) (call : CallK) (T : TT) (H : Heap) (kn : TT → Heap → Bool) (kx : X → TT → Heap → Bool) : (K8 c8x17).f n call T H kn kx =
  cellsN (TT.slot T 7) 1 fun c =>
    putRows [c] (Rows.r0 []) 0 fun rs => newO H (AObj.cells rs 1 1 3 false false) fun a H => srcRows 1 (AV.slice a 0 1 1 false 1) H fun m l => appendTo 3 1 8 (TT.slot T 6) m l H fun v H => CC.f (K8 c8x18) n call (TT.setSlot T 6 v) H kn kx := by kernel_rfl
theorem c8x18_eq (n : Nat) (call : CallK) (T : TT) (H : Heap) (kn : TT → Heap → Bool) (kx : X → TT → Heap → Bool) : (K8 c8x18).f n call T H kn kx =
  rowOf (TT.slot T 5) H fun s z row =>
    nthC row s fun w =>
      vSlice (TT.slot T 0) fun a i0 l c u z =>
        asIdx (TT.slot T 7) l fun j =>
          bIf (Nat.beq z 9)
            (forceNat (Nat.add i0 j) fun r =>
              forceNat 1 fun s =>
                getO H a fun o =>
                  oCells o fun rs n z' x x_1 x_2 =>
                    bIf (Nat.ble (Nat.succ r) n)
                      (bIf (Nat.beq z z')
                        (Go.Ev.rowAt rs r fun row => nthC row s fun w_1 => bIf (keyOk (pgF Tryz.prog) 9 w_1) (vMap w fun a => getO H a fun o => oMap o fun es clk => updIn w_1 (AV.bool true) es clk fun o => putO H a o fun H => kn T H) false)
                        false)
                      false)
            false := by kernel_rfl
theorem c8x19_eq (n : Nat) (call : CallK) (T : TT) (H : Heap) (kn : TT → Heap → Bool) (kx : X → TT → Heap → Bool) : (K8 c8x19).f n call T H kn kx =
  kx X.ret (TT.setSlot (TT.setSlot T 1 (TT.slot T 6)) 2 (AV.int 3 0)) H := by kernel_rfl
theorem e8_eq (n : Nat) (call : CallK) (args : List AV) (H : Heap) (k : Res → Heap → Bool) : (cfn (pgF Tryz.prog) Go.Sp.E0 Go.Sp.extS 8).f n call args H k =
  lenC args 1
    (initT args fun T =>
      CC.f (K8 b8) n call T H (fun T H => noDs T (k (Res.val (AV.tup [TT.slot T 1, TT.slot T 2])) H)) fun x T H => xCase x (fun x => false) (noDs T (k (Res.val (AV.tup [TT.slot T 1, TT.slot T 2])) H)) fun v => noDs T (k (Res.pan v) H)) := by kernel_rfl
end Go.Sp

namespace Go.Sp
open Go Go.Ev Go.Proofs
set_option linter.unusedVariables false
set_option maxRecDepth 100000
noncomputable def K14 (c : Go.Code) : CC := ccode (pgF Tryz.prog) [0, 1, 4, 5, 6, 8, 9, 10, 11, 25, 27, 28, 29, 30, 39, 56, 64] 66 c
noncomputable def b14 : Go.Code := bodyOf Tryz.f14
noncomputable def c14x0 : Go.Code := cB (bodyOf Tryz.f14)
noncomputable def c14x1 : Go.Code := cB (cB (bodyOf Tryz.f14))
noncomputable def c14x2 : Go.Code := cB (cA (cB (cB (bodyOf Tryz.f14))))
noncomputable def c14x3 : Go.Code := cB (cB (cA (cB (cB (bodyOf Tryz.f14)))))
noncomputable def c14x4 : Go.Code := cB (cB (cB (bodyOf Tryz.f14)))
noncomputable def c14x5 : Go.Code := cB (cA (cB (cB (cB (bodyOf Tryz.f14)))))
noncomputable def c14x6 : Go.Code := cA (cA (cB (cA (cB (cB (cB (bodyOf Tryz.f14)))))))
noncomputable def c14x7 : Go.Code := cB (cA (cA (cB (cA (cB (cB (cB (bodyOf Tryz.f14))))))))
noncomputable def c14x8 : Go.Code := cB (cB (cA (cA (cB (cA (cB (cB (cB (bodyOf Tryz.f14)))))))))
noncomputable def c14x9 : Go.Code := cB (cA (cA (cB (cB (cA (cA (cB (cA (cB (cB (cB (bodyOf Tryz.f14))))))))))))
noncomputable def c14x10 : Go.Code := cB (cA (cB (cA (cA (cB (cB (cA (cA (cB (cA (cB (cB (cB (bodyOf Tryz.f14))))))))))))))
noncomputable def c14x11 : Go.Code := cB (cB (cA (cA (cB (cB (cA (cA (cB (cA (cB (cB (cB (bodyOf Tryz.f14)))))))))))))
noncomputable def c14x12 : Go.Code := cB (cB (cB (cA (cA (cB (cB (cA (cA (cB (cA (cB (cB (cB (bodyOf Tryz.f14))))))))))))))
noncomputable def c14x13 : Go.Code := cB (cA (cB (cB (cB (cA (cA (cB (cB (cA (cA (cB (cA (cB (cB (cB (bodyOf Tryz.f14))))))))))))))))
noncomputable def c14x14 : Go.Code := cB (cB (cB (cB (cA (cA (cB (cB (cA (cA (cB (cA (cB (cB (cB (bodyOf Tryz.f14)))))))))))))))
noncomputable def c14x15 : Go.Code := cB (cB (cB (cB (cB (cA (cA (cB (cB (cA (cA (cB (cA (cB (cB (cB (bodyOf Tryz.f14))))))))))))))))
noncomputable def c14x16 : Go.Code := cB (cB (cB (cA (cA (cB (cA (cB (cB (cB (bodyOf Tryz.f14))))))))))
noncomputable def c14x17 : Go.Code := cB (cB (cB (cB (bodyOf Tryz.f14))))
theorem f14_eq (n : Nat) (call : CallK) (T : TT) (H : Heap) (kn : TT → Heap → Bool) (kx : X → TT → Heap → Bool) : (K14 b14).f n call T H kn kx =
  CC.f (K14 c14x0) n call (TT.setSlot T 2 (AV.int 3 0)) H kn kx := by kernel_rfl
theorem c14x0_eq (n : Nat) (call : CallK) (T : TT) (H : Heap) (kn : TT → Heap → Bool) (kx : X → TT → Heap → Bool) : (K14 c14x0).f n call T H kn kx =
  vSlice (TT.slot T 0) fun a i0 l c u z =>
    asIdx (TT.slot T 1) l fun j =>
      bIf (Nat.beq z 9)
        (forceNat (Nat.add i0 j) fun r =>
          getO H a fun o =>
            oCells o fun rs n_1 z' x x_1 x_2 =>
              bIf (Nat.ble (Nat.succ r) n_1)
                (bIf (Nat.beq z z')
                  (Go.Ev.rowAt rs r fun row =>
                    bIf (Nat.beq 9 z)
                      (bIf true
                        (newO H (varObj 39 9 [AV.int 3 0, AV.str 0 0, AV.int 3 0, AV.nil NK.s, AV.nil NK.s, AV.nil NK.s, AV.nil NK.s, AV.nil NK.s, AV.nil NK.s]) fun a H =>
                          bIf true
                            (getO H a fun o =>
                              oCells o fun rs n_2 z' el u ro =>
                                bIf ro false
                                  (bIf (Nat.ble 1 n_2)
                                    (bIf (Nat.beq 9 z')
                                      (bIf true (bIf true (setRow rs 0 row fun rs => putO H a (AObj.cells rs n_2 9 el u ro) fun H => CC.f (K14 c14x1) n call (TT.setSlot T 3 (AV.ptr a 0 0 9)) H kn kx) false)
                                        (Go.Ev.rowAt rs 0 fun row_1 =>
                                          takeC row_1 0 fun q =>
                                            dropC row_1 9 fun w =>
                                              appC row w fun w => appC q w fun row => setRow rs 0 row fun rs => putO H a (AObj.cells rs n_2 9 el u ro) fun H => CC.f (K14 c14x1) n call (TT.setSlot T 3 (AV.ptr a 0 0 9)) H kn kx))
                                      false)
                                    false))
                            false)
                        false)
                      (dropC row 0 fun q =>
                        takeC q 9 fun q =>
                          newO H (varObj 39 9 [AV.int 3 0, AV.str 0 0, AV.int 3 0, AV.nil NK.s, AV.nil NK.s, AV.nil NK.s, AV.nil NK.s, AV.nil NK.s, AV.nil NK.s]) fun a H =>
                            bIf true
                              (getO H a fun o =>
                                oCells o fun rs n_2 z' el u ro =>
                                  bIf ro false
                                    (bIf (Nat.ble 1 n_2)
                                      (bIf (Nat.beq 9 z')
                                        (bIf true (bIf true (setRow rs 0 q fun rs => putO H a (AObj.cells rs n_2 9 el u ro) fun H => CC.f (K14 c14x1) n call (TT.setSlot T 3 (AV.ptr a 0 0 9)) H kn kx) false)
                                          (Go.Ev.rowAt rs 0 fun row =>
                                            takeC row 0 fun q_1 =>
                                              dropC row 9 fun w =>
                                                appC q w fun w => appC q_1 w fun row => setRow rs 0 row fun rs => putO H a (AObj.cells rs n_2 9 el u ro) fun H => CC.f (K14 c14x1) n call (TT.setSlot T 3 (AV.ptr a 0 0 9)) H kn kx))
                                        false)
                                      false))
                              false))
                  false)
                false)
        false := by kernel_rfl
theorem c14x1_eq (n : Nat) (call : CallK) (T : TT) (H : Heap) (kn : TT → Heap → Bool) (kx : X → TT → Heap → Bool) : (K14 c14x1).f n call T H kn kx =
  vPtr (TT.slot T 3) fun a r s z =>
    forceNat (Nat.add s 1) fun s =>
      getO H a fun o =>
        oCells o fun rs n_1 z' x x_1 x_2 =>
          bIf (Nat.ble (Nat.succ r) n_1)
            (bIf (Nat.beq z z')
              (Go.Ev.rowAt rs r fun row =>
                nthC row s fun v =>
                  call 9 [TT.slot T 0, v] H fun r H =>
                    resCase r (fun v => vTup v fun l => nthC l 0 fun v_1 => vTup v fun l => nthC l 1 fun v => CC.f (K14 c14x2) n call (TT.setSlot T 4 v_1) H (fun T H => CC.f (K14 c14x4) n call T H kn kx) kx) fun v => kx (X.panic v) T H)
              false)
            false := by kernel_rfl
theorem c14x2_eq (n : Nat) (call : CallK) (T : TT) (H : Heap) (kn : TT → Heap → Bool) (kx : X → TT → Heap → Bool) : (K14 c14x2).f n call T H kn kx =
  vInt (TT.slot T 4) fun c1 a =>
    vInt (TT.slot T 1) fun c2 b => bIf (Nat.beq c1 3) (bIf (Nat.beq c2 3) (forceB (lssN 9223372036854775808 18446744073709551616 a b) fun r => CC.f (K14 c14x3) n call (TT.setSlot T 9 (AV.bool r)) H kn kx) false) false := by kernel_rfl
theorem c14x3_eq (n : Nat) (call : CallK) (T : TT) (H : Heap) (kn : TT → Heap → Bool) (kx : X → TT → Heap → Bool) : (K14 c14x3).f n call T H kn kx =
  vBool (TT.slot T 9) fun v => bIf v (kx X.ret (TT.setSlot T 2 (AV.int 3 5)) H) (kn T H) := by kernel_rfl
theorem c14x4_eq (n : Nat) (call : CallK) (T : TT) (H : Heap) (kn : TT → Heap → Bool) (kx : X → TT → Heap → Bool) : (K14 c14x4).f n call T H kn kx =
  vPtr (TT.slot T 3) fun a r s z =>
    forceNat (Nat.add s 3) fun s =>
      getO H a fun o =>
        oCells o fun rs n_1 z' x x_1 x_2 =>
          bIf (Nat.ble (Nat.succ r) n_1)
            (bIf (Nat.beq z z')
              (Go.Ev.rowAt rs r fun row =>
                nthC row s fun v =>
                  vSliceN v (CC.f (K14 c14x5) n call (TT.setSlot (TT.setSlot (TT.setSlot T 10 v) 11 (AV.int 3 0)) 12 (AV.int 3 0)) H (fun T H => CC.f (K14 c14x17) n call T H kn kx) kx) fun x x_3 l x_4 x_5 x_6 =>
                    CC.f (K14 c14x5) n call (TT.setSlot (TT.setSlot (TT.setSlot T 10 v) 11 (AV.int 3 l)) 12 (AV.int 3 0)) H (fun T H => CC.f (K14 c14x17) n call T H kn kx) kx)
              false)
            false := by kernel_rfl
theorem c14x5_eq (n : Nat) (call : CallK) (T : TT) (H : Heap) (kn : TT → Heap → Bool) (kx : X → TT → Heap → Bool) : (K14 c14x5).f n call T H kn kx =
  loopN (fun again T H => CC.f (K14 c14x6) n call T H again fun x T H => xCase x (fun i => bIf (Nat.beq i 0) (kn T H) (kx (X.exit i) T H)) (kx X.ret T H) fun v => kx (X.panic v) T H) n T H := by kernel_rfl
theorem c14x6_eq (n : Nat) (call : CallK) (T : TT) (H : Heap) (kn : TT → Heap → Bool) (kx : X → TT → Heap → Bool) : (K14 c14x6).f n call T H kn kx =
  vInt (TT.slot T 12) fun c1 a =>
    vInt (TT.slot T 11) fun c2 b => bIf (Nat.beq c1 3) (bIf (Nat.beq c2 3) (forceB (lssN 9223372036854775808 18446744073709551616 a b) fun r => CC.f (K14 c14x7) n call (TT.setSlot T 13 (AV.bool r)) H kn kx) false) false := by kernel_rfl
theorem c14x7_eq (n : Nat) (call : CallK) (T : TT) (H : Heap) (kn : TT → Heap → Bool) (kx : X → TT → Heap → Bool) : (K14 c14x7).f n call T H kn kx =
  vBool (TT.slot T 13) fun v => bIf v (CC.f (K14 c14x8) n call T H kn kx) (kx (X.exit 0) T H) := by kernel_rfl
theorem c14x8_eq (n : Nat) (call : CallK) (T : TT) (H : Heap) (kn : TT → Heap → Bool) (kx : X → TT → Heap → Bool) : (K14 c14x8).f n call T H kn kx =
  vSlice (TT.slot T 10) fun a i0 l c u z =>
    asIdx (TT.slot T 12) l fun j =>
      bIf (Nat.beq z 2)
        (forceNat (Nat.add i0 j) fun r =>
          getO H a fun o =>
            oCells o fun rs n_1 z' x x_1 x_2 =>
              bIf (Nat.ble (Nat.succ r) n_1)
                (bIf (Nat.beq z z')
                  (Go.Ev.rowAt rs r fun row =>
                    bIf (Nat.beq 2 z)
                      (bIf true
                        (newO H (varObj 41 2 [AV.str 0 0, AV.int 3 0]) fun a H =>
                          bIf true
                            (getO H a fun o =>
                              oCells o fun rs n_2 z' el u ro =>
                                bIf ro false
                                  (bIf (Nat.ble 1 n_2)
                                    (bIf (Nat.beq 2 z')
                                      (bIf true
                                        (bIf true
                                          (setRow rs 0 row fun rs =>
                                            putO H a (AObj.cells rs n_2 2 el u ro) fun H =>
                                              CC.f (K14 c14x9) n call (TT.setSlot (TT.setSlot T 6 (AV.ptr a 0 0 2)) 5 (TT.slot T 12)) H (fun T H => CC.f (K14 c14x16) n call T H kn kx) fun x T H =>
                                                xCase x (fun i => bIf (Nat.beq i 1) (CC.f (K14 c14x16) n call T H kn kx) (kx (X.exit i) T H)) (kx X.ret T H) fun v => kx (X.panic v) T H)
                                          false)
                                        (Go.Ev.rowAt rs 0 fun row_1 =>
                                          takeC row_1 0 fun q =>
                                            dropC row_1 2 fun w =>
                                              appC row w fun w =>
                                                appC q w fun row =>
                                                  setRow rs 0 row fun rs =>
                                                    putO H a (AObj.cells rs n_2 2 el u ro) fun H =>
                                                      CC.f (K14 c14x9) n call (TT.setSlot (TT.setSlot T 6 (AV.ptr a 0 0 2)) 5 (TT.slot T 12)) H (fun T H => CC.f (K14 c14x16) n call T H kn kx) fun x T H =>
                                                        xCase x (fun i => bIf (Nat.beq i 1) (CC.f (K14 c14x16) n call T H kn kx) (kx (X.exit i) T H)) (kx X.ret T H) fun v => kx (X.panic v) T H))
                                      false)
                                    false))
                            false)
                        false)
                      (dropC row 0 fun q =>
                        takeC q 2 fun q =>
                          newO H (varObj 41 2 [AV.str 0 0, AV.int 3 0]) fun a H =>
                            bIf true
                              (getO H a fun o =>
                                oCells o fun rs n_2 z' el u ro =>
                                  bIf ro false
                                    (bIf (Nat.ble 1 n_2)
                                      (bIf (Nat.beq 2 z')
                                        (bIf true
                                          (bIf true
                                            (setRow rs 0 q fun rs =>
                                              putO H a (AObj.cells rs n_2 2 el u ro) fun H =>
                                                CC.f (K14 c14x9) n call (TT.setSlot (TT.setSlot T 6 (AV.ptr a 0 0 2)) 5 (TT.slot T 12)) H (fun T H => CC.f (K14 c14x16) n call T H kn kx) fun x T H =>
                                                  xCase x (fun i => bIf (Nat.beq i 1) (CC.f (K14 c14x16) n call T H kn kx) (kx (X.exit i) T H)) (kx X.ret T H) fun v => kx (X.panic v) T H)
                                            false)
                                          (Go.Ev.rowAt rs 0 fun row =>
                                            takeC row 0 fun q_1 =>
                                              dropC row 2 fun w =>
                                                appC q w fun w =>
                                                  appC q_1 w fun row =>
                                                    setRow rs 0 row fun rs =>
                                                      putO H a (AObj.cells rs n_2 2 el u ro) fun H =>
                                                        CC.f (K14 c14x9) n call (TT.setSlot (TT.setSlot T 6 (AV.ptr a 0 0 2)) 5 (TT.slot T 12)) H (fun T H => CC.f (K14 c14x16) n call T H kn kx) fun x T H =>
                                                          xCase x (fun i => bIf (Nat.beq i 1) (CC.f (K14 c14x16) n call T H kn kx) (kx (X.exit i) T H)) (kx X.ret T H) fun v => kx (X.panic v) T H))
                                        false)
                                      false))
                              false))
                  false)
                false)
        false := by kernel_rfl
theorem c14x9_eq (n : Nat) (call : CallK) (T : TT) (H : Heap) (kn : TT → Heap → Bool) (kx : X → TT → Heap → Bool) : (K14 c14x9).f n call T H kn kx =
  vPtr (TT.slot T 3) fun a r s z =>
    forceNat (Nat.add s 3) fun s =>
      getO H a fun o =>
        oCells o fun rs n_1 z' x x_1 x_2 =>
          bIf (Nat.ble (Nat.succ r) n_1)
            (bIf (Nat.beq z z')
              (Go.Ev.rowAt rs r fun row =>
                nthC row s fun v =>
                  vSliceN v
                    (asIdx (TT.slot T 5) 2147483648 fun j =>
                      bIf (Nat.beq j 0)
                        (bIf true
                          (call 17 [AV.nil NK.s, AV.fn 43 [] [TT.slot T 6]] H fun r H => resCase r (fun v => CC.f (K14 c14x10) n call (TT.setSlot T 14 v) H (fun T H => CC.f (K14 c14x11) n call T H kn kx) kx) fun v => kx (X.panic v) T H)
                          false)
                        false)
                    fun a i0 l c u z =>
                    bIf (Nat.beq z 2)
                      (asIdx (TT.slot T 5) 2147483648 fun j =>
                        bIf (Nat.ble 0 j)
                          (bIf u
                            (bIf (Nat.ble j l)
                              (bIf (Nat.ble 1 j)
                                (forceNat (Nat.add i0 0) fun i0 =>
                                  forceNat (Nat.sub j 0) fun l =>
                                    call 17 [AV.slice a i0 l (Nat.add c 0) true z, AV.fn 43 [] [TT.slot T 6]] H fun r H =>
                                      resCase r (fun v => CC.f (K14 c14x10) n call (TT.setSlot T 14 v) H (fun T H => CC.f (K14 c14x11) n call T H kn kx) kx) fun v => kx (X.panic v) T H)
                                (bIf true
                                  (call 17 [AV.slice a i0 0 c true z, AV.fn 43 [] [TT.slot T 6]] H fun r H =>
                                    resCase r (fun v => CC.f (K14 c14x10) n call (TT.setSlot T 14 v) H (fun T H => CC.f (K14 c14x11) n call T H kn kx) kx) fun v => kx (X.panic v) T H)
                                  false))
                              false)
                            (bIf (Nat.ble j c)
                              (bIf (Nat.ble 1 c)
                                (forceNat (Nat.add i0 0) fun i0 =>
                                  forceNat (Nat.sub j 0) fun l =>
                                    forceNat (Nat.sub c 0) fun c =>
                                      call 17 [AV.slice a i0 l c false z, AV.fn 43 [] [TT.slot T 6]] H fun r H =>
                                        resCase r (fun v => CC.f (K14 c14x10) n call (TT.setSlot T 14 v) H (fun T H => CC.f (K14 c14x11) n call T H kn kx) kx) fun v => kx (X.panic v) T H)
                                (call 17 [AV.slice a i0 0 0 false z, AV.fn 43 [] [TT.slot T 6]] H fun r H =>
                                  resCase r (fun v => CC.f (K14 c14x10) n call (TT.setSlot T 14 v) H (fun T H => CC.f (K14 c14x11) n call T H kn kx) kx) fun v => kx (X.panic v) T H))
                              false))
                          false)
                      false)
              false)
            false := by kernel_rfl
theorem c14x10_eq (n : Nat) (call : CallK) (T : TT) (H : Heap) (kn : TT → Heap → Bool) (kx : X → TT → Heap → Bool) : (K14 c14x10).f n call T H kn kx =
  vBool (TT.slot T 14) fun v => bIf v (kx X.ret (TT.setSlot T 2 (AV.int 3 5)) H) (kn T H) := by kernel_rfl
theorem c14x11_eq (n : Nat) (call : CallK) (T : TT) (H : Heap) (kn : TT → Heap → Bool) (kx : X → TT → Heap → Bool) : (K14 c14x11).f n call T H kn kx =
  vPtr (TT.slot T 6) fun a r s z =>
    forceNat (Nat.add s 0) fun s =>
      getO H a fun o =>
        oCells o fun rs n_1 z' x x_1 x_2 =>
          bIf (Nat.ble (Nat.succ r) n_1)
            (bIf (Nat.beq z z')
              (Go.Ev.rowAt rs r fun row =>
                nthC row s fun v =>
                  call 9 [TT.slot T 0, v] H fun r H =>
                    resCase r (fun v => vTup v fun l => nthC l 0 fun v_1 => vTup v fun l => nthC l 1 fun v => CC.f (K14 c14x12) n call (TT.setSlot (TT.setSlot T 7 v_1) 8 v) H kn kx) fun v => kx (X.panic v) T H)
              false)
            false := by kernel_rfl
theorem c14x12_eq (n : Nat) (call : CallK) (T : TT) (H : Heap) (kn : TT → Heap → Bool) (kx : X → TT → Heap → Bool) : (K14 c14x12).f n call T H kn kx =
  vBool (TT.slot T 8) fun b =>
    bIf b
      (vSlice (TT.slot T 0) fun a i0 l c u z =>
        asIdx (TT.slot T 7) l fun j =>
          bIf (Nat.beq z 9)
            (forceNat (Nat.add i0 j) fun r =>
              forceNat 0 fun s =>
                getO H a fun o =>
                  oCells o fun rs n_1 z' x x_1 x_2 =>
                    bIf (Nat.ble (Nat.succ r) n_1)
                      (bIf (Nat.beq z z')
                        (Go.Ev.rowAt rs r fun row =>
                          nthC row s fun v =>
                            vInt v fun c1 a =>
                              bIf (Nat.beq c1 3)
                                (bIf true
                                  (forceB (Nat.beq a 2) fun r =>
                                    bIf false (CC.f (K14 c14x13) n call (TT.setSlot T 15 (AV.bool true)) H (fun T H => CC.f (K14 c14x14) n call T H kn kx) kx)
                                      (CC.f (K14 c14x13) n call (TT.setSlot T 15 (AV.bool r)) H (fun T H => CC.f (K14 c14x14) n call T H kn kx) kx))
                                  false)
                                false)
                        false)
                      false)
            false)
      (bIf true (CC.f (K14 c14x13) n call (TT.setSlot T 15 (AV.bool true)) H (fun T H => CC.f (K14 c14x14) n call T H kn kx) kx) (CC.f (K14 c14x13) n call (TT.setSlot T 15 AV.undef) H (fun T H => CC.f (K14 c14x14) n call T H kn kx) kx)) := by kernel_rfl
theorem c14x13_eq (n : Nat) (call : CallK) (T : TT) (H : Heap) (kn : TT → Heap → Bool) (kx : X → TT → Heap → Bool) : (K14 c14x13).f n call T H kn kx =
  vBool (TT.slot T 15) fun v => bIf v (kx X.ret (TT.setSlot T 2 (AV.int 3 8)) H) (kn T H) := by kernel_rfl
theorem c14x14_eq (n : Nat) (call : CallK) (T : TT) (H : Heap) (kn : TT → Heap → Bool) (kx : X → TT → Heap → Bool) : (K14 c14x14).f n call T H kn kx =
  vSlice (TT.slot T 0) fun a i0 l c u z =>
    asIdx (TT.slot T 7) l fun j =>
      bIf (Nat.beq z 9)
        (forceNat (Nat.add i0 j) fun r =>
          forceNat 2 fun s =>
            getO H a fun o =>
              oCells o fun rs n_1 z' x x_1 x_2 =>
                bIf (Nat.ble (Nat.succ r) n_1)
                  (bIf (Nat.beq z z')
                    (Go.Ev.rowAt rs r fun row =>
                      nthC row s fun w =>
                        vPtr (TT.slot T 6) fun a r s z =>
                          forceNat (Nat.add s 1) fun s =>
                            getO H a fun o =>
                              oCells o fun rs n_2 z' x x_3 x_4 =>
                                bIf (Nat.ble (Nat.succ r) n_2)
                                  (bIf (Nat.beq z z')
                                    (Go.Ev.rowAt rs r fun row =>
                                      nthC row s fun w_1 =>
                                        vInt w fun c1 a =>
                                          vInt w_1 fun c2 b =>
                                            bIf (Nat.beq c1 3) (bIf (Nat.beq c2 3) (forceB (lssN 9223372036854775808 18446744073709551616 a b) fun r => CC.f (K14 c14x15) n call (TT.setSlot T 16 (AV.bool r)) H kn kx) false) false)
                                    false)
                                  false)
                    false)
                  false)
        false := by kernel_rfl
theorem c14x15_eq (n : Nat) (call : CallK) (T : TT) (H : Heap) (kn : TT → Heap → Bool) (kx : X → TT → Heap → Bool) : (K14 c14x15).f n call T H kn kx =
  vBool (TT.slot T 16) fun v => bIf v (kx X.ret (TT.setSlot T 2 (AV.int 3 16)) H) (kn T H) := by kernel_rfl
theorem c14x16_eq (n : Nat) (call : CallK) (T : TT) (H : Heap) (kn : TT → Heap → Bool) (kx : X → TT → Heap → Bool) : (K14 c14x16).f n call T H kn kx =
  vInt (TT.slot T 12) fun c1 a => bIf (Nat.beq c1 3) (bIf true (forceNat (addN 18446744073709551616 a 1) fun r => kn (TT.setSlot T 12 (AV.int 3 r)) H) false) false := by kernel_rfl
theorem c14x17_eq (n : Nat) (call : CallK) (T : TT) (H : Heap) (kn : TT → Heap → Bool) (kx : X → TT → Heap → Bool) : (K14 c14x17).f n call T H kn kx =
  kx X.ret (TT.setSlot T 2 (AV.int 3 0)) H := by kernel_rfl
theorem e14_eq (n : Nat) (call : CallK) (args : List AV) (H : Heap) (k : Res → Heap → Bool) : (cfn (pgF Tryz.prog) Go.Sp.E0 Go.Sp.extS 14).f n call args H k =
  lenC args 2 (initT args fun T => CC.f (K14 b14) n call T H (fun T H => noDs T (k (Res.val (TT.slot T 2)) H)) fun x T H => xCase x (fun x => false) (noDs T (k (Res.val (TT.slot T 2)) H)) fun v => noDs T (k (Res.pan v) H)) := by kernel_rfl
end Go.Sp
