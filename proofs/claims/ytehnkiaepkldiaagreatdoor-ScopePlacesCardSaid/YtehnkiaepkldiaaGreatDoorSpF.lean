/- The code of the law as explicit equations. -/
import Derived.Test.YtehnkiaepkldiaaGreatDoorSpB
namespace Go.Sp
open Go Go.Ev Go.Proofs
set_option linter.unusedVariables false
set_option maxRecDepth 100000
noncomputable def K3 (c : Go.Code) : CC := ccode (pgF Tryz.prog) [0, 2, 3, 4, 5, 6, 8, 10, 11, 12, 14, 15, 16, 17, 20, 31, 42, 43, 44, 45, 46, 56, 61, 62, 63, 64, 85, 97, 112, 113, 114, 121] 135 c
noncomputable def b3 : Go.Code := bodyOf Tryz.f3
noncomputable def c3x0 : Go.Code := cB (bodyOf Tryz.f3)
noncomputable def c3x1 : Go.Code := cB (cA (cB (bodyOf Tryz.f3)))
noncomputable def c3x2 : Go.Code := cB (cB (bodyOf Tryz.f3))
noncomputable def c3x3 : Go.Code := cB (cB (cB (bodyOf Tryz.f3)))
noncomputable def c3x4 : Go.Code := cB (cB (cB (cB (bodyOf Tryz.f3))))
noncomputable def c3x5 : Go.Code := cB (cA (cB (cB (cB (cB (bodyOf Tryz.f3))))))
noncomputable def c3x6 : Go.Code := cB (cB (cB (cB (cB (bodyOf Tryz.f3)))))
noncomputable def c3x7 : Go.Code := cB (cA (cB (cB (cB (cB (cB (bodyOf Tryz.f3)))))))
noncomputable def c3x8 : Go.Code := cB (cB (cB (cB (cB (cB (bodyOf Tryz.f3))))))
noncomputable def c3x9 : Go.Code := cB (cB (cB (cB (cB (cB (cB (bodyOf Tryz.f3)))))))
noncomputable def c3x10 : Go.Code := cB (cA (cB (cB (cB (cB (cB (cB (cB (bodyOf Tryz.f3)))))))))
noncomputable def c3x11 : Go.Code := cA (cA (cB (cA (cB (cB (cB (cB (cB (cB (cB (bodyOf Tryz.f3)))))))))))
noncomputable def c3x12 : Go.Code := cB (cA (cA (cB (cA (cB (cB (cB (cB (cB (cB (cB (bodyOf Tryz.f3))))))))))))
noncomputable def c3x13 : Go.Code := cB (cB (cA (cA (cB (cA (cB (cB (cB (cB (cB (cB (cB (bodyOf Tryz.f3)))))))))))))
noncomputable def c3x14 : Go.Code := cB (cA (cA (cB (cB (cA (cA (cB (cA (cB (cB (cB (cB (cB (cB (cB (bodyOf Tryz.f3))))))))))))))))
noncomputable def c3x15 : Go.Code := cB (cA (cB (cA (cA (cB (cB (cA (cA (cB (cA (cB (cB (cB (cB (cB (cB (cB (bodyOf Tryz.f3))))))))))))))))))
noncomputable def c3x16 : Go.Code := cB (cB (cA (cA (cB (cB (cA (cA (cB (cA (cB (cB (cB (cB (cB (cB (cB (bodyOf Tryz.f3)))))))))))))))))
noncomputable def c3x17 : Go.Code := cB (cA (cB (cB (cA (cA (cB (cB (cA (cA (cB (cA (cB (cB (cB (cB (cB (cB (cB (bodyOf Tryz.f3)))))))))))))))))))
noncomputable def c3x18 : Go.Code := cA (cA (cB (cA (cB (cB (cA (cA (cB (cB (cA (cA (cB (cA (cB (cB (cB (cB (cB (cB (cB (bodyOf Tryz.f3)))))))))))))))))))))
noncomputable def c3x19 : Go.Code := cB (cA (cA (cB (cA (cB (cB (cA (cA (cB (cB (cA (cA (cB (cA (cB (cB (cB (cB (cB (cB (cB (bodyOf Tryz.f3))))))))))))))))))))))
noncomputable def c3x20 : Go.Code := cB (cB (cA (cA (cB (cA (cB (cB (cA (cA (cB (cB (cA (cA (cB (cA (cB (cB (cB (cB (cB (cB (cB (bodyOf Tryz.f3)))))))))))))))))))))))
noncomputable def c3x21 : Go.Code := cB (cA (cA (cB (cB (cA (cA (cB (cA (cB (cB (cA (cA (cB (cB (cA (cA (cB (cA (cB (cB (cB (cB (cB (cB (cB (bodyOf Tryz.f3))))))))))))))))))))))))))
noncomputable def c3x22 : Go.Code := cB (cB (cA (cA (cB (cB (cA (cA (cB (cA (cB (cB (cA (cA (cB (cB (cA (cA (cB (cA (cB (cB (cB (cB (cB (cB (cB (bodyOf Tryz.f3)))))))))))))))))))))))))))
noncomputable def c3x23 : Go.Code := cB (cB (cB (cA (cA (cB (cB (cA (cA (cB (cA (cB (cB (cA (cA (cB (cB (cA (cA (cB (cA (cB (cB (cB (cB (cB (cB (cB (bodyOf Tryz.f3))))))))))))))))))))))))))))
noncomputable def c3x24 : Go.Code := cB (cB (cB (cA (cA (cB (cA (cB (cB (cA (cA (cB (cB (cA (cA (cB (cA (cB (cB (cB (cB (cB (cB (cB (bodyOf Tryz.f3))))))))))))))))))))))))
noncomputable def c3x25 : Go.Code := cB (cB (cB (cA (cA (cB (cB (cA (cA (cB (cA (cB (cB (cB (cB (cB (cB (cB (bodyOf Tryz.f3))))))))))))))))))
noncomputable def c3x26 : Go.Code := cB (cA (cB (cB (cB (cA (cA (cB (cB (cA (cA (cB (cA (cB (cB (cB (cB (cB (cB (cB (bodyOf Tryz.f3))))))))))))))))))))
noncomputable def c3x27 : Go.Code := cB (cB (cA (cB (cB (cB (cA (cA (cB (cB (cA (cA (cB (cA (cB (cB (cB (cB (cB (cB (cB (bodyOf Tryz.f3)))))))))))))))))))))
noncomputable def c3x28 : Go.Code := cB (cB (cB (cB (cA (cA (cB (cB (cA (cA (cB (cA (cB (cB (cB (cB (cB (cB (cB (bodyOf Tryz.f3)))))))))))))))))))
noncomputable def c3x29 : Go.Code := cB (cB (cB (cA (cA (cB (cA (cB (cB (cB (cB (cB (cB (cB (bodyOf Tryz.f3))))))))))))))
noncomputable def c3x30 : Go.Code := cB (cB (cB (cB (cB (cB (cB (cB (bodyOf Tryz.f3))))))))
noncomputable def c3x31 : Go.Code := cB (cB (cB (cB (cB (cB (cB (cB (cB (bodyOf Tryz.f3)))))))))
noncomputable def c3x32 : Go.Code := cB (cA (cB (cB (cB (cB (cB (cB (cB (cB (cB (bodyOf Tryz.f3)))))))))))
noncomputable def c3x33 : Go.Code := cA (cA (cB (cA (cB (cB (cB (cB (cB (cB (cB (cB (cB (bodyOf Tryz.f3)))))))))))))
noncomputable def c3x34 : Go.Code := cB (cA (cA (cB (cA (cB (cB (cB (cB (cB (cB (cB (cB (cB (bodyOf Tryz.f3))))))))))))))
noncomputable def c3x35 : Go.Code := cB (cB (cA (cA (cB (cA (cB (cB (cB (cB (cB (cB (cB (cB (cB (bodyOf Tryz.f3)))))))))))))))
noncomputable def c3x36 : Go.Code := cB (cA (cA (cB (cB (cA (cA (cB (cA (cB (cB (cB (cB (cB (cB (cB (cB (cB (bodyOf Tryz.f3))))))))))))))))))
noncomputable def c3x37 : Go.Code := cB (cB (cA (cA (cB (cB (cA (cA (cB (cA (cB (cB (cB (cB (cB (cB (cB (cB (cB (bodyOf Tryz.f3)))))))))))))))))))
noncomputable def c3x38 : Go.Code := cB (cB (cB (cA (cA (cB (cA (cB (cB (cB (cB (cB (cB (cB (cB (cB (bodyOf Tryz.f3))))))))))))))))
noncomputable def c3x39 : Go.Code := cB (cB (cB (cB (cB (cB (cB (cB (cB (cB (bodyOf Tryz.f3))))))))))
noncomputable def r3g0 : Rg := cops (pgF Tryz.prog) [0, 2, 3, 4, 5, 6, 8, 10, 11, 12, 14, 15, 16, 17, 20, 31, 42, 43, 44, 45, 46, 56, 61, 62, 63, 64, 85, 97, 112, 113, 114, 121] 135 (opsOf (cA (cA (cB (cA (cB (cB (cB (cB (bodyOf Tryz.f3)))))))))) [some 35, some 34, some 33, some 32] ((opsOf (cA (cA (cB (cA (cB (cB (cB (cB (bodyOf Tryz.f3)))))))))).toList.drop 4)
noncomputable def r3g1 : Rg := cops (pgF Tryz.prog) [0, 2, 3, 4, 5, 6, 8, 10, 11, 12, 14, 15, 16, 17, 20, 31, 42, 43, 44, 45, 46, 56, 61, 62, 63, 64, 85, 97, 112, 113, 114, 121] 135 (opsOf (cA (cA (cB (cA (cA (cB (cB (cA (cA (cB (cA (cB (cB (cB (cB (cB (cB (cB (bodyOf Tryz.f3)))))))))))))))))))) [some 51, some 50, some 49] ((opsOf (cA (cA (cB (cA (cA (cB (cB (cA (cA (cB (cA (cB (cB (cB (cB (cB (cB (cB (bodyOf Tryz.f3)))))))))))))))))))).toList.drop 3)
noncomputable def r3g2 : Rg := cops (pgF Tryz.prog) [0, 2, 3, 4, 5, 6, 8, 10, 11, 12, 14, 15, 16, 17, 20, 31, 42, 43, 44, 45, 46, 56, 61, 62, 63, 64, 85, 97, 112, 113, 114, 121] 135 (opsOf (cA (cB (cB (cB (cB (cB (cB (cB (cB (cB (cB (bodyOf Tryz.f3))))))))))))) [some 125, some 124, some 123] ((opsOf (cA (cB (cB (cB (cB (cB (cB (cB (cB (cB (cB (bodyOf Tryz.f3))))))))))))).toList.drop 3)
noncomputable def r3g3 : Rg := cops (pgF Tryz.prog) [0, 2, 3, 4, 5, 6, 8, 10, 11, 12, 14, 15, 16, 17, 20, 31, 42, 43, 44, 45, 46, 56, 61, 62, 63, 64, 85, 97, 112, 113, 114, 121] 135 (opsOf (cA (cB (cB (cB (cB (cB (cB (cB (cB (cB (cB (bodyOf Tryz.f3))))))))))))) [some 132, some 131, some 130, some 129, some 128, some 127, some 126, some 125, some 124, some 123] ((opsOf (cA (cB (cB (cB (cB (cB (cB (cB (cB (cB (cB (bodyOf Tryz.f3))))))))))))).toList.drop 10)
theorem f3_eq (n : Nat) (call : CallK) (T : TT) (H : Heap) (kn : TT → Heap → Bool) (kx : X → TT → Heap → Bool) : (K3 b3).f n call T H kn kx =
  CC.f (K3 c3x0) n call (TT.setSlot T 1 (AV.bool false)) H kn kx := by kernel_rfl
theorem c3x0_eq (n : Nat) (call : CallK) (T : TT) (H : Heap) (kn : TT → Heap → Bool) (kx : X → TT → Heap → Bool) : (K3 c3x0).f n call T H kn kx =
  call 4 [TT.slot T 0] H fun r H =>
    resCase r
      (fun v =>
        vBool v fun b =>
          bIf b (CC.f (K3 c3x1) n call (TT.setSlot T 14 (AV.bool false)) H (fun T H => CC.f (K3 c3x2) n call T H kn kx) kx) (CC.f (K3 c3x1) n call (TT.setSlot T 14 (AV.bool true)) H (fun T H => CC.f (K3 c3x2) n call T H kn kx) kx))
      fun v => kx (X.panic v) T H := by kernel_rfl
theorem c3x1_eq (n : Nat) (call : CallK) (T : TT) (H : Heap) (kn : TT → Heap → Bool) (kx : X → TT → Heap → Bool) : (K3 c3x1).f n call T H kn kx =
  vBool (TT.slot T 14) fun v => bIf v (call 5 [] H fun r H => resCase r (fun v => kx X.ret (TT.setSlot T 1 v) H) fun v => kx (X.panic v) T H) (kn T H) := by kernel_rfl
theorem c3x2_eq (n : Nat) (call : CallK) (T : TT) (H : Heap) (kn : TT → Heap → Bool) (kx : X → TT → Heap → Bool) : (K3 c3x2).f n call T H kn kx =
  call 7 [TT.slot T 0] H fun r H => resCase r (fun v => call 6 [v] H fun r H => resCase r (fun v => CC.f (K3 c3x3) n call (TT.setSlot T 2 v) H kn kx) fun v => kx (X.panic v) T H) fun v => kx (X.panic v) T H := by kernel_rfl
theorem c3x3_eq (n : Nat) (call : CallK) (T : TT) (H : Heap) (kn : TT → Heap → Bool) (kx : X → TT → Heap → Bool) : (K3 c3x3).f n call T H kn kx =
  call 8 [TT.slot T 2] H fun r H => resCase r (fun v => vTup v fun l => nthC l 0 fun v_1 => vTup v fun l => nthC l 1 fun v => CC.f (K3 c3x4) n call (TT.setSlot (TT.setSlot T 3 v_1) 4 v) H kn kx) fun v => kx (X.panic v) T H := by kernel_rfl
theorem c3x4_eq (n : Nat) (call : CallK) (T : TT) (H : Heap) (kn : TT → Heap → Bool) (kx : X → TT → Heap → Bool) : (K3 c3x4).f n call T H kn kx =
  vInt (TT.slot T 4) fun c1 a =>
    bIf (Nat.beq c1 3)
      (bIf true
        (bIf (Nat.beq a 0) (CC.f (K3 c3x5) n call (TT.setSlot T 15 (AV.bool false)) H (fun T H => CC.f (K3 c3x6) n call T H kn kx) kx) (CC.f (K3 c3x5) n call (TT.setSlot T 15 (AV.bool true)) H (fun T H => CC.f (K3 c3x6) n call T H kn kx) kx))
        false)
      false := by kernel_rfl
theorem c3x5_eq (n : Nat) (call : CallK) (T : TT) (H : Heap) (kn : TT → Heap → Bool) (kx : X → TT → Heap → Bool) : (K3 c3x5).f n call T H kn kx =
  vBool (TT.slot T 15) fun v =>
    bIf v
      (vSliceN (TT.slot T 3) (bIf true (bIf true (forceB true fun r => Rg.f r3g0 call [AV.bool r, AV.bool r, AV.int 3 0, TT.slot T 3] T H (fun T H => kx X.ret T H) fun T v H => kx (X.panic v) T H) false) false) fun x x_1 l x_2 x_3 x_4 =>
        bIf true (bIf true (forceB (Nat.beq l 0) fun r => Rg.f r3g0 call [AV.bool r, AV.bool r, AV.int 3 l, TT.slot T 3] T H (fun T H => kx X.ret T H) fun T v H => kx (X.panic v) T H) false) false)
      (kn T H) := by kernel_rfl
theorem r3g0_true (v1 v2 v3 : AV) (call : CallK) (T : TT) (H : Heap) (k : TT → Heap → Bool) (kp : TT → AV → Heap → Bool) : r3g0.f call [AV.bool true, v1, v2, v3] T H k kp =
  call 5 [] H fun r H => resCase r (fun v => bIf true (k (TT.setSlot T 1 v) H) (k (TT.setSlot T 1 (AV.bool false)) H)) fun v => kp T v H := by kernel_rfl
theorem r3g0_false (v1 v2 v3 : AV) (call : CallK) (T : TT) (H : Heap) (k : TT → Heap → Bool) (kp : TT → AV → Heap → Bool) : r3g0.f call [AV.bool false, v1, v2, v3] T H k kp =
  bIf false (k (TT.setSlot T 1 AV.undef) H) (k (TT.setSlot T 1 (AV.bool false)) H) := by kernel_rfl
theorem c3x6_eq (n : Nat) (call : CallK) (T : TT) (H : Heap) (kn : TT → Heap → Bool) (kx : X → TT → Heap → Bool) : (K3 c3x6).f n call T H kn kx =
  vSliceN (TT.slot T 3)
    (vSliceN (TT.slot T 2)
      (bIf true
        (bIf true
          (bIf true (CC.f (K3 c3x7) n call (TT.setSlot T 16 (AV.bool false)) H (fun T H => CC.f (K3 c3x8) n call T H kn kx) kx) (CC.f (K3 c3x7) n call (TT.setSlot T 16 (AV.bool true)) H (fun T H => CC.f (K3 c3x8) n call T H kn kx) kx)) false)
        false)
      fun x x_1 l x_2 x_3 x_4 =>
      bIf true
        (bIf true
          (bIf (Nat.beq 0 l) (CC.f (K3 c3x7) n call (TT.setSlot T 16 (AV.bool false)) H (fun T H => CC.f (K3 c3x8) n call T H kn kx) kx)
            (CC.f (K3 c3x7) n call (TT.setSlot T 16 (AV.bool true)) H (fun T H => CC.f (K3 c3x8) n call T H kn kx) kx))
          false)
        false)
    fun x x_1 l x_2 x_3 x_4 =>
    vSliceN (TT.slot T 2)
      (bIf true
        (bIf true
          (bIf (Nat.beq l 0) (CC.f (K3 c3x7) n call (TT.setSlot T 16 (AV.bool false)) H (fun T H => CC.f (K3 c3x8) n call T H kn kx) kx)
            (CC.f (K3 c3x7) n call (TT.setSlot T 16 (AV.bool true)) H (fun T H => CC.f (K3 c3x8) n call T H kn kx) kx))
          false)
        false)
      fun x x_5 l_1 x_6 x_7 x_8 =>
      bIf true
        (bIf true
          (bIf (Nat.beq l l_1) (CC.f (K3 c3x7) n call (TT.setSlot T 16 (AV.bool false)) H (fun T H => CC.f (K3 c3x8) n call T H kn kx) kx)
            (CC.f (K3 c3x7) n call (TT.setSlot T 16 (AV.bool true)) H (fun T H => CC.f (K3 c3x8) n call T H kn kx) kx))
          false)
        false := by kernel_rfl
theorem c3x7_eq (n : Nat) (call : CallK) (T : TT) (H : Heap) (kn : TT → Heap → Bool) (kx : X → TT → Heap → Bool) : (K3 c3x7).f n call T H kn kx =
  vBool (TT.slot T 16) fun v => bIf v (kx X.ret (TT.setSlot T 1 (AV.bool false)) H) (kn T H) := by kernel_rfl
theorem c3x8_eq (n : Nat) (call : CallK) (T : TT) (H : Heap) (kn : TT → Heap → Bool) (kx : X → TT → Heap → Bool) : (K3 c3x8).f n call T H kn kx =
  CC.f (K3 c3x9) n call (TT.setSlot T 5 (AV.nil NK.s)) H kn kx := by kernel_rfl
theorem c3x9_eq (n : Nat) (call : CallK) (T : TT) (H : Heap) (kn : TT → Heap → Bool) (kx : X → TT → Heap → Bool) : (K3 c3x9).f n call T H kn kx =
  vSliceN (TT.slot T 3) (CC.f (K3 c3x10) n call (TT.setSlot (TT.setSlot (TT.setSlot T 17 (TT.slot T 3)) 18 (AV.int 3 0)) 19 (AV.int 3 0)) H (fun T H => CC.f (K3 c3x30) n call T H kn kx) kx) fun x x_1 l x_2 x_3 x_4 =>
    CC.f (K3 c3x10) n call (TT.setSlot (TT.setSlot (TT.setSlot T 17 (TT.slot T 3)) 18 (AV.int 3 l)) 19 (AV.int 3 0)) H (fun T H => CC.f (K3 c3x30) n call T H kn kx) kx := by kernel_rfl
theorem c3x10_eq (n : Nat) (call : CallK) (T : TT) (H : Heap) (kn : TT → Heap → Bool) (kx : X → TT → Heap → Bool) : (K3 c3x10).f n call T H kn kx =
  loopN (fun again T H => CC.f (K3 c3x11) n call T H again fun x T H => xCase x (fun i => bIf (Nat.beq i 0) (kn T H) (kx (X.exit i) T H)) (kx X.ret T H) fun v => kx (X.panic v) T H) n T H := by kernel_rfl
theorem c3x11_eq (n : Nat) (call : CallK) (T : TT) (H : Heap) (kn : TT → Heap → Bool) (kx : X → TT → Heap → Bool) : (K3 c3x11).f n call T H kn kx =
  vInt (TT.slot T 19) fun c1 a =>
    vInt (TT.slot T 18) fun c2 b => bIf (Nat.beq c1 3) (bIf (Nat.beq c2 3) (forceB (lssN 9223372036854775808 18446744073709551616 a b) fun r => CC.f (K3 c3x12) n call (TT.setSlot T 20 (AV.bool r)) H kn kx) false) false := by kernel_rfl
theorem c3x12_eq (n : Nat) (call : CallK) (T : TT) (H : Heap) (kn : TT → Heap → Bool) (kx : X → TT → Heap → Bool) : (K3 c3x12).f n call T H kn kx =
  vBool (TT.slot T 20) fun v => bIf v (CC.f (K3 c3x13) n call T H kn kx) (kx (X.exit 0) T H) := by kernel_rfl
theorem c3x13_eq (n : Nat) (call : CallK) (T : TT) (H : Heap) (kn : TT → Heap → Bool) (kx : X → TT → Heap → Bool) : (K3 c3x13).f n call T H kn kx =
  vSlice (TT.slot T 17) fun a i0 l c u z =>
    asIdx (TT.slot T 19) l fun j =>
      bIf (Nat.beq z 1)
        (forceNat (Nat.add i0 j) fun r =>
          getO H a fun o =>
            oCells o fun rs n_1 z' x x_1 x_2 =>
              bIf (Nat.ble (Nat.succ r) n_1)
                (bIf (Nat.beq z z')
                  (Go.Ev.rowAt rs r fun row =>
                    nthC row 0 fun v =>
                      CC.f (K3 c3x14) n call (TT.setSlot T 6 v) H (fun T H => CC.f (K3 c3x29) n call T H kn kx) fun x T H =>
                        xCase x (fun i => bIf (Nat.beq i 1) (CC.f (K3 c3x29) n call T H kn kx) (kx (X.exit i) T H)) (kx X.ret T H) fun v => kx (X.panic v) T H)
                  false)
                false)
        false := by kernel_rfl
theorem c3x14_eq (n : Nat) (call : CallK) (T : TT) (H : Heap) (kn : TT → Heap → Bool) (kx : X → TT → Heap → Bool) : (K3 c3x14).f n call T H kn kx =
  vInt (TT.slot T 6) fun c1 a =>
    bIf (Nat.beq c1 3)
      (bIf true
        (forceB (lssN 9223372036854775808 18446744073709551616 a 0) fun r =>
          Rg.f r3g1 call [AV.bool r, AV.bool r, TT.slot T 6] T H (fun T H => CC.f (K3 c3x15) n call T H (fun T H => CC.f (K3 c3x16) n call T H kn kx) kx) fun T v H => kx (X.panic v) T H)
        false)
      false := by kernel_rfl
theorem r3g1_true (v1 v2 : AV) (call : CallK) (T : TT) (H : Heap) (k : TT → Heap → Bool) (kp : TT → AV → Heap → Bool) : r3g1.f call [AV.bool true, v1, v2] T H k kp =
  bIf true (k (TT.setSlot T 21 (AV.bool true)) H) (k (TT.setSlot T 21 AV.undef) H) := by kernel_rfl
theorem r3g1_false (v1 v2 : AV) (call : CallK) (T : TT) (H : Heap) (k : TT → Heap → Bool) (kp : TT → AV → Heap → Bool) : r3g1.f call [AV.bool false, v1, v2] T H k kp =
  vSliceN (TT.slot T 2)
    (vInt (TT.slot T 6) fun c1 a => bIf (Nat.beq c1 3) (bIf true (forceB (leqN 9223372036854775808 18446744073709551616 0 a) fun r => bIf false (k (TT.setSlot T 21 (AV.bool true)) H) (k (TT.setSlot T 21 (AV.bool r)) H)) false) false)
    fun x x_1 l x_2 x_3 x_4 =>
    vInt (TT.slot T 6) fun c1 a => bIf (Nat.beq c1 3) (bIf true (forceB (leqN 9223372036854775808 18446744073709551616 l a) fun r => bIf false (k (TT.setSlot T 21 (AV.bool true)) H) (k (TT.setSlot T 21 (AV.bool r)) H)) false) false := by kernel_rfl
theorem c3x15_eq (n : Nat) (call : CallK) (T : TT) (H : Heap) (kn : TT → Heap → Bool) (kx : X → TT → Heap → Bool) : (K3 c3x15).f n call T H kn kx =
  vBool (TT.slot T 21) fun v => bIf v (kx X.ret (TT.setSlot T 1 (AV.bool false)) H) (kn T H) := by kernel_rfl
theorem c3x16_eq (n : Nat) (call : CallK) (T : TT) (H : Heap) (kn : TT → Heap → Bool) (kx : X → TT → Heap → Bool) : (K3 c3x16).f n call T H kn kx =
  vSlice (TT.slot T 2) fun a i0 l c u z =>
    asIdx (TT.slot T 6) l fun j =>
      bIf (Nat.beq z 9)
        (forceNat (Nat.add i0 j) fun r =>
          forceNat 3 fun s =>
            getO H a fun o =>
              oCells o fun rs n_1 z' x x_1 x_2 =>
                bIf (Nat.ble (Nat.succ r) n_1)
                  (bIf (Nat.beq z z')
                    (Go.Ev.rowAt rs r fun row =>
                      nthC row s fun v =>
                        vSliceN v (CC.f (K3 c3x17) n call (TT.setSlot (TT.setSlot (TT.setSlot T 22 v) 23 (AV.int 3 0)) 24 (AV.int 3 0)) H (fun T H => CC.f (K3 c3x25) n call T H kn kx) kx) fun x x_3 l x_4 x_5 x_6 =>
                          CC.f (K3 c3x17) n call (TT.setSlot (TT.setSlot (TT.setSlot T 22 v) 23 (AV.int 3 l)) 24 (AV.int 3 0)) H (fun T H => CC.f (K3 c3x25) n call T H kn kx) kx)
                    false)
                  false)
        false := by kernel_rfl
theorem c3x17_eq (n : Nat) (call : CallK) (T : TT) (H : Heap) (kn : TT → Heap → Bool) (kx : X → TT → Heap → Bool) : (K3 c3x17).f n call T H kn kx =
  loopN (fun again T H => CC.f (K3 c3x18) n call T H again fun x T H => xCase x (fun i => bIf (Nat.beq i 2) (kn T H) (kx (X.exit i) T H)) (kx X.ret T H) fun v => kx (X.panic v) T H) n T H := by kernel_rfl
theorem c3x18_eq (n : Nat) (call : CallK) (T : TT) (H : Heap) (kn : TT → Heap → Bool) (kx : X → TT → Heap → Bool) : (K3 c3x18).f n call T H kn kx =
  vInt (TT.slot T 24) fun c1 a =>
    vInt (TT.slot T 23) fun c2 b => bIf (Nat.beq c1 3) (bIf (Nat.beq c2 3) (forceB (lssN 9223372036854775808 18446744073709551616 a b) fun r => CC.f (K3 c3x19) n call (TT.setSlot T 25 (AV.bool r)) H kn kx) false) false := by kernel_rfl
theorem c3x19_eq (n : Nat) (call : CallK) (T : TT) (H : Heap) (kn : TT → Heap → Bool) (kx : X → TT → Heap → Bool) : (K3 c3x19).f n call T H kn kx =
  vBool (TT.slot T 25) fun v => bIf v (CC.f (K3 c3x20) n call T H kn kx) (kx (X.exit 2) T H) := by kernel_rfl
theorem c3x20_eq (n : Nat) (call : CallK) (T : TT) (H : Heap) (kn : TT → Heap → Bool) (kx : X → TT → Heap → Bool) : (K3 c3x20).f n call T H kn kx =
  vSlice (TT.slot T 22) fun a i0 l c u z =>
    asIdx (TT.slot T 24) l fun j =>
      bIf (Nat.beq z 2)
        (forceNat (Nat.add i0 j) fun r =>
          getO H a fun o =>
            oCells o fun rs n_1 z' x x_1 x_2 =>
              bIf (Nat.ble (Nat.succ r) n_1)
                (bIf (Nat.beq z z')
                  (Go.Ev.rowAt rs r fun row =>
                    bIf (Nat.beq 2 z)
                      (bIf true
                        (newO H (varObj 41 2 [AV.str 0 0, AV.int 3 0]) fun a H =>
                          bIf true
                            (getO H a fun o =>
                              oCells o fun rs n_2 z' el u ro =>
                                bIf ro false
                                  (bIf (Nat.ble 1 n_2)
                                    (bIf (Nat.beq 2 z')
                                      (bIf true
                                        (bIf true
                                          (setRow rs 0 row fun rs =>
                                            putO H a (AObj.cells rs n_2 2 el u ro) fun H =>
                                              CC.f (K3 c3x21) n call (TT.setSlot T 7 (AV.ptr a 0 0 2)) H (fun T H => CC.f (K3 c3x24) n call T H kn kx) fun x T H =>
                                                xCase x (fun i => bIf (Nat.beq i 3) (CC.f (K3 c3x24) n call T H kn kx) (kx (X.exit i) T H)) (kx X.ret T H) fun v => kx (X.panic v) T H)
                                          false)
                                        (Go.Ev.rowAt rs 0 fun row_1 =>
                                          takeC row_1 0 fun q =>
                                            dropC row_1 2 fun w =>
                                              appC row w fun w =>
                                                appC q w fun row =>
                                                  setRow rs 0 row fun rs =>
                                                    putO H a (AObj.cells rs n_2 2 el u ro) fun H =>
                                                      CC.f (K3 c3x21) n call (TT.setSlot T 7 (AV.ptr a 0 0 2)) H (fun T H => CC.f (K3 c3x24) n call T H kn kx) fun x T H =>
                                                        xCase x (fun i => bIf (Nat.beq i 3) (CC.f (K3 c3x24) n call T H kn kx) (kx (X.exit i) T H)) (kx X.ret T H) fun v => kx (X.panic v) T H))
                                      false)
                                    false))
                            false)
                        false)
                      (dropC row 0 fun q =>
                        takeC q 2 fun q =>
                          newO H (varObj 41 2 [AV.str 0 0, AV.int 3 0]) fun a H =>
                            bIf true
                              (getO H a fun o =>
                                oCells o fun rs n_2 z' el u ro =>
                                  bIf ro false
                                    (bIf (Nat.ble 1 n_2)
                                      (bIf (Nat.beq 2 z')
                                        (bIf true
                                          (bIf true
                                            (setRow rs 0 q fun rs =>
                                              putO H a (AObj.cells rs n_2 2 el u ro) fun H =>
                                                CC.f (K3 c3x21) n call (TT.setSlot T 7 (AV.ptr a 0 0 2)) H (fun T H => CC.f (K3 c3x24) n call T H kn kx) fun x T H =>
                                                  xCase x (fun i => bIf (Nat.beq i 3) (CC.f (K3 c3x24) n call T H kn kx) (kx (X.exit i) T H)) (kx X.ret T H) fun v => kx (X.panic v) T H)
                                            false)
                                          (Go.Ev.rowAt rs 0 fun row =>
                                            takeC row 0 fun q_1 =>
                                              dropC row 2 fun w =>
                                                appC q w fun w =>
                                                  appC q_1 w fun row =>
                                                    setRow rs 0 row fun rs =>
                                                      putO H a (AObj.cells rs n_2 2 el u ro) fun H =>
                                                        CC.f (K3 c3x21) n call (TT.setSlot T 7 (AV.ptr a 0 0 2)) H (fun T H => CC.f (K3 c3x24) n call T H kn kx) fun x T H =>
                                                          xCase x (fun i => bIf (Nat.beq i 3) (CC.f (K3 c3x24) n call T H kn kx) (kx (X.exit i) T H)) (kx X.ret T H) fun v => kx (X.panic v) T H))
                                        false)
                                      false))
                              false))
                  false)
                false)
        false := by kernel_rfl
theorem c3x21_eq (n : Nat) (call : CallK) (T : TT) (H : Heap) (kn : TT → Heap → Bool) (kx : X → TT → Heap → Bool) : (K3 c3x21).f n call T H kn kx =
  vPtr (TT.slot T 7) fun a r s z =>
    forceNat (Nat.add s 0) fun s =>
      getO H a fun o =>
        oCells o fun rs n_1 z' x x_1 x_2 =>
          bIf (Nat.ble (Nat.succ r) n_1)
            (bIf (Nat.beq z z')
              (Go.Ev.rowAt rs r fun row =>
                nthC row s fun v =>
                  call 9 [TT.slot T 5, v] H fun r H =>
                    resCase r (fun v => vTup v fun l => nthC l 0 fun v_1 => vTup v fun l => nthC l 1 fun v => CC.f (K3 c3x22) n call (TT.setSlot (TT.setSlot T 8 v_1) 9 v) H kn kx) fun v => kx (X.panic v) T H)
              false)
            false := by kernel_rfl
theorem c3x22_eq (n : Nat) (call : CallK) (T : TT) (H : Heap) (kn : TT → Heap → Bool) (kx : X → TT → Heap → Bool) : (K3 c3x22).f n call T H kn kx =
  vBool (TT.slot T 9) fun b =>
    bIf b
      (vSlice (TT.slot T 5) fun a i0 l c u z =>
        asIdx (TT.slot T 8) l fun j =>
          bIf (Nat.beq z 9)
            (forceNat (Nat.add i0 j) fun r =>
              forceNat 2 fun s =>
                getO H a fun o =>
                  oCells o fun rs n_1 z' x x_1 x_2 =>
                    bIf (Nat.ble (Nat.succ r) n_1)
                      (bIf (Nat.beq z z')
                        (Go.Ev.rowAt rs r fun row =>
                          nthC row s fun w =>
                            vPtr (TT.slot T 7) fun a r s z =>
                              forceNat (Nat.add s 1) fun s =>
                                getO H a fun o =>
                                  oCells o fun rs n_2 z' x x_3 x_4 =>
                                    bIf (Nat.ble (Nat.succ r) n_2)
                                      (bIf (Nat.beq z z')
                                        (Go.Ev.rowAt rs r fun row =>
                                          nthC row s fun w_1 =>
                                            vInt w fun c1 a =>
                                              vInt w_1 fun c2 b =>
                                                bIf (Nat.beq c1 3)
                                                  (bIf (Nat.beq c2 3)
                                                    (forceB (lssN 9223372036854775808 18446744073709551616 a b) fun r =>
                                                      bIf false (CC.f (K3 c3x23) n call (TT.setSlot T 26 (AV.bool true)) H kn kx) (CC.f (K3 c3x23) n call (TT.setSlot T 26 (AV.bool r)) H kn kx))
                                                    false)
                                                  false)
                                        false)
                                      false)
                        false)
                      false)
            false)
      (bIf true (CC.f (K3 c3x23) n call (TT.setSlot T 26 (AV.bool true)) H kn kx) (CC.f (K3 c3x23) n call (TT.setSlot T 26 AV.undef) H kn kx)) := by kernel_rfl
theorem c3x23_eq (n : Nat) (call : CallK) (T : TT) (H : Heap) (kn : TT → Heap → Bool) (kx : X → TT → Heap → Bool) : (K3 c3x23).f n call T H kn kx =
  vBool (TT.slot T 26) fun v => bIf v (kx X.ret (TT.setSlot T 1 (AV.bool false)) H) (kn T H) := by kernel_rfl
theorem c3x24_eq (n : Nat) (call : CallK) (T : TT) (H : Heap) (kn : TT → Heap → Bool) (kx : X → TT → Heap → Bool) : (K3 c3x24).f n call T H kn kx =
  vInt (TT.slot T 24) fun c1 a => bIf (Nat.beq c1 3) (bIf true (forceNat (addN 18446744073709551616 a 1) fun r => kn (TT.setSlot T 24 (AV.int 3 r)) H) false) false := by kernel_rfl
theorem c3x25_eq (n : Nat) (call : CallK) (T : TT) (H : Heap) (kn : TT → Heap → Bool) (kx : X → TT → Heap → Bool) : (K3 c3x25).f n call T H kn kx =
  vSlice (TT.slot T 2) fun a i0 l c u z =>
    asIdx (TT.slot T 6) l fun j =>
      bIf (Nat.beq z 9)
        (forceNat (Nat.add i0 j) fun r =>
          forceNat 1 fun s =>
            getO H a fun o =>
              oCells o fun rs n_1 z' x x_1 x_2 =>
                bIf (Nat.ble (Nat.succ r) n_1)
                  (bIf (Nat.beq z z')
                    (Go.Ev.rowAt rs r fun row =>
                      nthC row s fun v =>
                        call 9 [TT.slot T 5, v] H fun r H =>
                          resCase r (fun v => vTup v fun l => nthC l 0 fun v_1 => vTup v fun l => nthC l 1 fun v => CC.f (K3 c3x26) n call (TT.setSlot T 10 v) H (fun T H => CC.f (K3 c3x28) n call T H kn kx) kx) fun v => kx (X.panic v) T H)
                    false)
                  false)
        false := by kernel_rfl
theorem c3x26_eq (n : Nat) (call : CallK) (T : TT) (H : Heap) (kn : TT → Heap → Bool) (kx : X → TT → Heap → Bool) : (K3 c3x26).f n call T H kn kx =
  CC.f (K3 c3x27) n call (TT.setSlot T 27 (TT.slot T 10)) H kn kx := by kernel_rfl
theorem c3x27_eq (n : Nat) (call : CallK) (T : TT) (H : Heap) (kn : TT → Heap → Bool) (kx : X → TT → Heap → Bool) : (K3 c3x27).f n call T H kn kx =
  vBool (TT.slot T 27) fun v => bIf v (kx X.ret (TT.setSlot T 1 (AV.bool false)) H) (kn T H) := by kernel_rfl
theorem c3x28_eq (n : Nat) (call : CallK) (T : TT) (H : Heap) (kn : TT → Heap → Bool) (kx : X → TT → Heap → Bool) : (K3 c3x28).f n call T H kn kx =
  vSlice (TT.slot T 2) fun a i0 l c u z =>
    asIdx (TT.slot T 6) l fun j =>
      bIf (Nat.beq z 9)
        (forceNat (Nat.add i0 j) fun r =>
          getO H a fun o =>
            oCells o fun rs n z' x x_1 x_2 =>
              bIf (Nat.ble (Nat.succ r) n)
                (bIf (Nat.beq z z')
                  (Go.Ev.rowAt rs r fun row =>
                    bIf (Nat.beq 9 z)
                      (bIf true
                        (bIf true
                          (putRows [row] (Rows.r0 []) 0 fun rs => newO H (AObj.cells rs 1 9 39 false false) fun a H => srcRows 9 (AV.slice a 0 1 1 false 9) H fun m l => appendTo 39 9 176 (TT.slot T 5) m l H fun v H => kn (TT.setSlot T 5 v) H)
                          false)
                        false)
                      (dropC row 0 fun q =>
                        takeC q 9 fun q =>
                          bIf true
                            (putRows [q] (Rows.r0 []) 0 fun rs => newO H (AObj.cells rs 1 9 39 false false) fun a H => srcRows 9 (AV.slice a 0 1 1 false 9) H fun m l => appendTo 39 9 176 (TT.slot T 5) m l H fun v H => kn (TT.setSlot T 5 v) H)
                            false))
                  false)
                false)
        false := by kernel_rfl
theorem c3x29_eq (n : Nat) (call : CallK) (T : TT) (H : Heap) (kn : TT → Heap → Bool) (kx : X → TT → Heap → Bool) : (K3 c3x29).f n call T H kn kx =
  vInt (TT.slot T 19) fun c1 a => bIf (Nat.beq c1 3) (bIf true (forceNat (addN 18446744073709551616 a 1) fun r => kn (TT.setSlot T 19 (AV.int 3 r)) H) false) false := by kernel_rfl
theorem c3x30_eq (n : Nat) (call : CallK) (T : TT) (H : Heap) (kn : TT → Heap → Bool) (kx : X → TT → Heap → Bool) : (K3 c3x30).f n call T H kn kx =
  call 8 [TT.slot T 5] H fun r H => resCase r (fun v => vTup v fun l => nthC l 0 fun v_1 => vTup v fun l => nthC l 1 fun v => CC.f (K3 c3x31) n call (TT.setSlot (TT.setSlot T 11 v_1) 12 v) H kn kx) fun v => kx (X.panic v) T H := by kernel_rfl
theorem c3x31_eq (n : Nat) (call : CallK) (T : TT) (H : Heap) (kn : TT → Heap → Bool) (kx : X → TT → Heap → Bool) : (K3 c3x31).f n call T H kn kx =
  vSliceN (TT.slot T 11) (CC.f (K3 c3x32) n call (TT.setSlot (TT.setSlot T 28 (AV.int 3 0)) 29 (AV.int 3 0)) H (fun T H => CC.f (K3 c3x39) n call T H kn kx) kx) fun x x_1 l x_2 x_3 x_4 =>
    CC.f (K3 c3x32) n call (TT.setSlot (TT.setSlot T 28 (AV.int 3 l)) 29 (AV.int 3 0)) H (fun T H => CC.f (K3 c3x39) n call T H kn kx) kx := by kernel_rfl
theorem c3x32_eq (n : Nat) (call : CallK) (T : TT) (H : Heap) (kn : TT → Heap → Bool) (kx : X → TT → Heap → Bool) : (K3 c3x32).f n call T H kn kx =
  loopN (fun again T H => CC.f (K3 c3x33) n call T H again fun x T H => xCase x (fun i => bIf (Nat.beq i 4) (kn T H) (kx (X.exit i) T H)) (kx X.ret T H) fun v => kx (X.panic v) T H) n T H := by kernel_rfl
theorem c3x33_eq (n : Nat) (call : CallK) (T : TT) (H : Heap) (kn : TT → Heap → Bool) (kx : X → TT → Heap → Bool) : (K3 c3x33).f n call T H kn kx =
  vInt (TT.slot T 29) fun c1 a =>
    vInt (TT.slot T 28) fun c2 b => bIf (Nat.beq c1 3) (bIf (Nat.beq c2 3) (forceB (lssN 9223372036854775808 18446744073709551616 a b) fun r => CC.f (K3 c3x34) n call (TT.setSlot T 30 (AV.bool r)) H kn kx) false) false := by kernel_rfl
theorem c3x34_eq (n : Nat) (call : CallK) (T : TT) (H : Heap) (kn : TT → Heap → Bool) (kx : X → TT → Heap → Bool) : (K3 c3x34).f n call T H kn kx =
  vBool (TT.slot T 30) fun v => bIf v (CC.f (K3 c3x35) n call T H kn kx) (kx (X.exit 4) T H) := by kernel_rfl
theorem c3x35_eq (n : Nat) (call : CallK) (T : TT) (H : Heap) (kn : TT → Heap → Bool) (kx : X → TT → Heap → Bool) : (K3 c3x35).f n call T H kn kx =
  CC.f (K3 c3x36) n call (TT.setSlot T 13 (TT.slot T 29)) H (fun T H => CC.f (K3 c3x38) n call T H kn kx) fun x T H =>
    xCase x (fun i => bIf (Nat.beq i 5) (CC.f (K3 c3x38) n call T H kn kx) (kx (X.exit i) T H)) (kx X.ret T H) fun v => kx (X.panic v) T H := by kernel_rfl
theorem c3x36_eq (n : Nat) (call : CallK) (T : TT) (H : Heap) (kn : TT → Heap → Bool) (kx : X → TT → Heap → Bool) : (K3 c3x36).f n call T H kn kx =
  vSlice (TT.slot T 11) fun a i0 l c u z =>
    asIdx (TT.slot T 13) l fun j =>
      bIf (Nat.beq z 1)
        (forceNat (Nat.add i0 j) fun r =>
          getO H a fun o =>
            oCells o fun rs n_1 z' x x_1 x_2 =>
              bIf (Nat.ble (Nat.succ r) n_1)
                (bIf (Nat.beq z z')
                  (Go.Ev.rowAt rs r fun row =>
                    nthC row 0 fun v =>
                      vInt v fun c1 a =>
                        vInt (TT.slot T 13) fun c2 b =>
                          bIf (Nat.beq c1 3) (bIf (Nat.beq c2 3) (bIf (Nat.beq a b) (CC.f (K3 c3x37) n call (TT.setSlot T 31 (AV.bool false)) H kn kx) (CC.f (K3 c3x37) n call (TT.setSlot T 31 (AV.bool true)) H kn kx)) false) false)
                  false)
                false)
        false := by kernel_rfl
theorem c3x37_eq (n : Nat) (call : CallK) (T : TT) (H : Heap) (kn : TT → Heap → Bool) (kx : X → TT → Heap → Bool) : (K3 c3x37).f n call T H kn kx =
  vBool (TT.slot T 31) fun v => bIf v (kx X.ret (TT.setSlot T 1 (AV.bool false)) H) (kn T H) := by kernel_rfl
theorem c3x38_eq (n : Nat) (call : CallK) (T : TT) (H : Heap) (kn : TT → Heap → Bool) (kx : X → TT → Heap → Bool) : (K3 c3x38).f n call T H kn kx =
  vInt (TT.slot T 29) fun c1 a => bIf (Nat.beq c1 3) (bIf true (forceNat (addN 18446744073709551616 a 1) fun r => kn (TT.setSlot T 29 (AV.int 3 r)) H) false) false := by kernel_rfl
theorem c3x39_eq (n : Nat) (call : CallK) (T : TT) (H : Heap) (kn : TT → Heap → Bool) (kx : X → TT → Heap → Bool) : (K3 c3x39).f n call T H kn kx =
  vInt (TT.slot T 12) fun c1 a => bIf (Nat.beq c1 3) (bIf true (forceB (Nat.beq a 0) fun r => Rg.f r3g2 call [AV.bool r, AV.bool r, TT.slot T 12] T H (fun T H => kx X.ret T H) fun T v H => kx (X.panic v) T H) false) false := by kernel_rfl
theorem r3g2_true (v1 v2 : AV) (call : CallK) (T : TT) (H : Heap) (k : TT → Heap → Bool) (kp : TT → AV → Heap → Bool) : r3g2.f call [AV.bool true, v1, v2] T H k kp =
  vSliceN (TT.slot T 11)
    (vSliceN (TT.slot T 2)
      (bIf true
        (bIf true
          (forceB true fun r =>
            bIf true (Rg.f r3g3 call [AV.bool r, AV.bool r, AV.bool r, AV.int 3 0, TT.slot T 2, AV.int 3 0, TT.slot T 11, AV.bool true, v1, v2] T H k kp) (bIf false (k (TT.setSlot T 1 AV.undef) H) (k (TT.setSlot T 1 (AV.bool false)) H)))
          false)
        false)
      fun x x_1 l x_2 x_3 x_4 =>
      bIf true
        (bIf true
          (forceB (Nat.beq 0 l) fun r =>
            bIf true (Rg.f r3g3 call [AV.bool r, AV.bool r, AV.bool r, AV.int 3 l, TT.slot T 2, AV.int 3 0, TT.slot T 11, AV.bool true, v1, v2] T H k kp) (bIf false (k (TT.setSlot T 1 AV.undef) H) (k (TT.setSlot T 1 (AV.bool false)) H)))
          false)
        false)
    fun x x_1 l x_2 x_3 x_4 =>
    vSliceN (TT.slot T 2)
      (bIf true
        (bIf true
          (forceB (Nat.beq l 0) fun r =>
            bIf true (Rg.f r3g3 call [AV.bool r, AV.bool r, AV.bool r, AV.int 3 0, TT.slot T 2, AV.int 3 l, TT.slot T 11, AV.bool true, v1, v2] T H k kp) (bIf false (k (TT.setSlot T 1 AV.undef) H) (k (TT.setSlot T 1 (AV.bool false)) H)))
          false)
        false)
      fun x x_5 l_1 x_6 x_7 x_8 =>
      bIf true
        (bIf true
          (forceB (Nat.beq l l_1) fun r =>
            bIf true (Rg.f r3g3 call [AV.bool r, AV.bool r, AV.bool r, AV.int 3 l_1, TT.slot T 2, AV.int 3 l, TT.slot T 11, AV.bool true, v1, v2] T H k kp) (bIf false (k (TT.setSlot T 1 AV.undef) H) (k (TT.setSlot T 1 (AV.bool false)) H)))
          false)
        false := by kernel_rfl
theorem r3g2_false (v1 v2 : AV) (call : CallK) (T : TT) (H : Heap) (k : TT → Heap → Bool) (kp : TT → AV → Heap → Bool) : r3g2.f call [AV.bool false, v1, v2] T H k kp =
  bIf false false (bIf false (k (TT.setSlot T 1 AV.undef) H) (k (TT.setSlot T 1 (AV.bool false)) H)) := by kernel_rfl
theorem e3_eq (n : Nat) (call : CallK) (args : List AV) (H : Heap) (k : Res → Heap → Bool) : (cfn (pgF Tryz.prog) Go.Sp.E0 Go.Sp.extS 3).f n call args H k =
  lenC args 1 (initT args fun T => CC.f (K3 b3) n call T H (fun T H => noDs T (k (Res.val (TT.slot T 1)) H)) fun x T H => xCase x (fun x => false) (noDs T (k (Res.val (TT.slot T 1)) H)) fun v => noDs T (k (Res.pan v) H)) := by kernel_rfl
theorem r3g3_true (v1 v2 v3 v4 v5 v6 v7 v8 v9 : AV) (call : CallK) (T : TT) (H : Heap) (k : TT → Heap → Bool) (kp : TT → AV → Heap → Bool) : r3g3.f call [AV.bool true, v1, v2, v3, v4, v5, v6, v7, v8, v9] T H k kp =
  call 5 [] H fun r H => resCase r (fun v => bIf true (k (TT.setSlot T 1 v) H) (k (TT.setSlot T 1 (AV.bool false)) H)) fun v => kp T v H := by kernel_rfl
theorem r3g3_false (v1 v2 v3 v4 v5 v6 v7 v8 v9 : AV) (call : CallK) (T : TT) (H : Heap) (k : TT → Heap → Bool) (kp : TT → AV → Heap → Bool) : r3g3.f call [AV.bool false, v1, v2, v3, v4, v5, v6, v7, v8, v9] T H k kp =
  bIf false (k (TT.setSlot T 1 AV.undef) H) (k (TT.setSlot T 1 (AV.bool false)) H) := by kernel_rfl
end Go.Sp
