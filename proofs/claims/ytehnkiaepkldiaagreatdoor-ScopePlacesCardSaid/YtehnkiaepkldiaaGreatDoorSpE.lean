/- The code of environment as explicit equations. -/
import Derived.Test.YtehnkiaepkldiaaGreatDoorSpB
namespace Go.Sp
open Go Go.Ev Go.Proofs
set_option linter.unusedVariables false
set_option maxRecDepth 100000
noncomputable def K6 (c : Go.Code) : CC := ccode (pgF Tryz.prog) [0, 2, 3, 4, 5, 6, 7, 12, 29, 34] 56 c
noncomputable def b6 : Go.Code := bodyOf Tryz.f6
noncomputable def c6x0 : Go.Code := cB (bodyOf Tryz.f6)
noncomputable def c6x1 : Go.Code := cB (cB (bodyOf Tryz.f6))
noncomputable def c6x2 : Go.Code := cB (cB (cB (bodyOf Tryz.f6)))
noncomputable def c6x3 : Go.Code := cB (cA (cB (cB (cB (bodyOf Tryz.f6)))))
noncomputable def c6x4 : Go.Code := cA (cA (cB (cA (cB (cB (cB (bodyOf Tryz.f6)))))))
noncomputable def c6x5 : Go.Code := cB (cA (cA (cA (cB (cA (cB (cB (cB (bodyOf Tryz.f6)))))))))
noncomputable def c6x6 : Go.Code := cB (cA (cA (cB (cA (cB (cB (cB (bodyOf Tryz.f6))))))))
noncomputable def c6x7 : Go.Code := cB (cA (cA (cB (cA (cA (cB (cA (cB (cB (cB (bodyOf Tryz.f6)))))))))))
noncomputable def c6x8 : Go.Code := cB (cA (cB (cA (cA (cB (cA (cA (cB (cA (cB (cB (cB (bodyOf Tryz.f6)))))))))))))
noncomputable def c6x9 : Go.Code := cB (cB (cA (cA (cB (cA (cA (cB (cA (cB (cB (cB (bodyOf Tryz.f6))))))))))))
noncomputable def c6x10 : Go.Code := cB (cA (cB (cB (cA (cA (cB (cA (cA (cB (cA (cB (cB (cB (bodyOf Tryz.f6))))))))))))))
noncomputable def c6x11 : Go.Code := cA (cA (cB (cA (cB (cB (cA (cA (cB (cA (cA (cB (cA (cB (cB (cB (bodyOf Tryz.f6))))))))))))))))
noncomputable def c6x12 : Go.Code := cB (cA (cA (cA (cB (cA (cB (cB (cA (cA (cB (cA (cA (cB (cA (cB (cB (cB (bodyOf Tryz.f6))))))))))))))))))
noncomputable def c6x13 : Go.Code := cB (cA (cA (cB (cA (cB (cB (cA (cA (cB (cA (cA (cB (cA (cB (cB (cB (bodyOf Tryz.f6)))))))))))))))))
noncomputable def c6x14 : Go.Code := cB (cB (cA (cA (cB (cA (cB (cB (cA (cA (cB (cA (cA (cB (cA (cB (cB (cB (bodyOf Tryz.f6))))))))))))))))))
noncomputable def c6x15 : Go.Code := cB (cB (cB (cA (cA (cB (cA (cA (cB (cA (cB (cB (cB (bodyOf Tryz.f6)))))))))))))
noncomputable def c6x16 : Go.Code := cB (cB (cA (cA (cB (cA (cB (cB (cB (bodyOf Tryz.f6)))))))))
noncomputable def c6x17 : Go.Code := cB (cB (cB (cB (bodyOf Tryz.f6))))
theorem f6_eq (n : Nat) (call : CallK) (T : TT) (H : Heap) (kn : TT → Heap → Bool) (kx : X → TT → Heap → Bool) : (K6 b6).f n call T H kn kx =
  CC.f (K6 c6x0) n call (TT.setSlot T 1 (AV.nil NK.s)) H kn kx := by kernel_rfl
theorem c6x0_eq (n : Nat) (call : CallK) (T : TT) (H : Heap) (kn : TT → Heap → Bool) (kx : X → TT → Heap → Bool) : (K6 c6x0).f n call T H kn kx =
  CC.f (K6 c6x1) n call (TT.setSlot T 2 (AV.nil NK.s)) H kn kx := by kernel_rfl
theorem c6x1_eq (n : Nat) (call : CallK) (T : TT) (H : Heap) (kn : TT → Heap → Bool) (kx : X → TT → Heap → Bool) : (K6 c6x1).f n call T H kn kx =
  bIf true
    (bIf true
      (bIf true
        (bIf true
          (bIf true
            (putRows [[AV.str 1 97], [AV.str 1 98], [AV.str 1 99], [AV.str 1 100], [AV.str 1 101]] (Rows.r1 e1) 0 fun rs =>
              newO H (AObj.cells rs 5 1 9 false false) fun a H => CC.f (K6 c6x2) n call (TT.setSlot T 3 (AV.slice a 0 5 5 false 1)) H kn kx)
            false)
          false)
        false)
      false)
    false := by kernel_rfl
theorem c6x2_eq (n : Nat) (call : CallK) (T : TT) (H : Heap) (kn : TT → Heap → Bool) (kx : X → TT → Heap → Bool) : (K6 c6x2).f n call T H kn kx =
  call 12 [TT.slot T 0, AV.int 3 6] H fun r H => resCase r (fun v => CC.f (K6 c6x3) n call (TT.setSlot T 4 v) H (fun T H => CC.f (K6 c6x17) n call T H kn kx) kx) fun v => kx (X.panic v) T H := by kernel_rfl
theorem c6x3_eq (n : Nat) (call : CallK) (T : TT) (H : Heap) (kn : TT → Heap → Bool) (kx : X → TT → Heap → Bool) : (K6 c6x3).f n call T H kn kx =
  loopN (fun again T H => CC.f (K6 c6x4) n call T H again fun x T H => xCase x (fun i => bIf (Nat.beq i 0) (kn T H) (kx (X.exit i) T H)) (kx X.ret T H) fun v => kx (X.panic v) T H) n T H := by kernel_rfl
theorem c6x4_eq (n : Nat) (call : CallK) (T : TT) (H : Heap) (kn : TT → Heap → Bool) (kx : X → TT → Heap → Bool) : (K6 c6x4).f n call T H kn kx =
  vInt (TT.slot T 4) fun c1 a =>
    bIf (Nat.beq c1 3) (bIf true (forceB (lssN 9223372036854775808 18446744073709551616 0 a) fun r => CC.f (K6 c6x5) n call (TT.setSlot T 7 (AV.bool r)) H (fun T H => CC.f (K6 c6x6) n call T H kn kx) kx) false) false := by kernel_rfl
theorem c6x5_eq (n : Nat) (call : CallK) (T : TT) (H : Heap) (kn : TT → Heap → Bool) (kx : X → TT → Heap → Bool) : (K6 c6x5).f n call T H kn kx =
  vBool (TT.slot T 7) fun v => bIf v (kn T H) (kx (X.exit 0) T H) := by kernel_rfl
theorem c6x6_eq (n : Nat) (call : CallK) (T : TT) (H : Heap) (kn : TT → Heap → Bool) (kx : X → TT → Heap → Bool) : (K6 c6x6).f n call T H kn kx =
  hCase H fun nx t =>
    bIf (Nat.ble (Nat.succ nx) 32768)
      (bIf (Nat.beq (Nat.land (Nat.shiftRight 1 13) 1) 1)
        (putO (Heap.mk (Nat.succ nx) t) nx (varObj 39 9 [AV.int 3 0, AV.str 0 0, AV.int 3 0, AV.nil NK.s, AV.nil NK.s, AV.nil NK.s, AV.nil NK.s, AV.nil NK.s, AV.nil NK.s]) fun H =>
          call 12 [TT.slot T 0, AV.int 3 2] H fun r H =>
            resCase r
              (fun v =>
                bIf true
                  (vInt v fun c2 b =>
                    bIf true
                      (bIf (Nat.beq c2 3)
                        (forceNat (mulN 18446744073709551616 2 b) fun r =>
                          bIf true
                            (bIf true
                              (forceNat (addN 18446744073709551616 1 r) fun r =>
                                bIf (Nat.beq (Nat.land (Nat.shiftRight 35 13) 1) 1)
                                  (putO H nx (varObj 39 9 [AV.int 3 0, AV.str 0 0, AV.int 3 0, AV.nil NK.s, AV.nil NK.s, AV.nil NK.s, AV.nil NK.s, AV.nil NK.s, AV.nil NK.s]) fun H =>
                                    call 12 [TT.slot T 0, AV.int 3 5] H fun r_1 H =>
                                      resCase r_1
                                        (fun v =>
                                          bIf true
                                            (vSlice (TT.slot T 3) fun a i0 l c u z =>
                                              asIdx v l fun j =>
                                                bIf (Nat.beq z 1)
                                                  (forceNat (Nat.add i0 j) fun r_2 =>
                                                    getO H a fun o =>
                                                      oCells o fun rs n_1 z' x x_1 x_2 =>
                                                        bIf (Nat.ble (Nat.succ r_2) n_1)
                                                          (bIf (Nat.beq z z')
                                                            (Go.Ev.rowAt rs r_2 fun row =>
                                                              nthC row 0 fun w =>
                                                                bIf false
                                                                  (putO H nx (varObj 39 9 [AV.int 3 0, AV.str 0 0, AV.int 3 0, AV.nil NK.s, AV.nil NK.s, AV.nil NK.s, AV.nil NK.s, AV.nil NK.s, AV.nil NK.s]) fun H =>
                                                                    call 12 [TT.slot T 0, AV.int 3 3] H fun r_3 H =>
                                                                      resCase r_3
                                                                        (fun v =>
                                                                          bIf
                                                                            (bIf false true
                                                                              (getO H a fun o =>
                                                                                oCells o fun rs n z' x x_3 x_4 =>
                                                                                  bIf (Nat.ble (Nat.succ r_2) n) (bIf (Nat.beq z z') (Go.Ev.rowAt rs r_2 fun row => nthC row 0 fun v => bIf (loadedEq v w) true false) false) false))
                                                                            (vInt v fun c2 b =>
                                                                              bIf true
                                                                                (bIf (Nat.beq c2 3)
                                                                                  (forceNat (addN 18446744073709551616 1 b) fun r_4 =>
                                                                                    bIf true
                                                                                      (cellsN w 1 fun c =>
                                                                                        bIf true
                                                                                          (appC [AV.int 3 r_4] [AV.nil NK.s, AV.nil NK.s, AV.nil NK.s, AV.nil NK.s, AV.nil NK.s, AV.nil NK.s] fun q =>
                                                                                            appC c q fun q =>
                                                                                              bIf true
                                                                                                (putO H nx (varObj 39 9 [AV.int 3 0, AV.str 0 0, AV.int 3 0, AV.nil NK.s, AV.nil NK.s, AV.nil NK.s, AV.nil NK.s, AV.nil NK.s, AV.nil NK.s])
                                                                                                  fun H =>
                                                                                                  bIf true
                                                                                                    (getO H nx fun o =>
                                                                                                      oCells o fun rs n_2 z' el u ro =>
                                                                                                        bIf ro false
                                                                                                          (bIf (Nat.ble 1 n_2)
                                                                                                            (bIf (Nat.beq 9 z')
                                                                                                              (bIf true
                                                                                                                (bIf true
                                                                                                                  (setRow rs 0 (AV.int 3 r :: q) fun rs =>
                                                                                                                    putO H nx (AObj.cells rs n_2 9 el u ro) fun H =>
                                                                                                                      bIf
                                                                                                                        (bIf true true
                                                                                                                          (getO H a fun o =>
                                                                                                                            oCells o fun rs n z' x x_3 x_4 =>
                                                                                                                              bIf (Nat.ble (Nat.succ r_2) n)
                                                                                                                                (bIf (Nat.beq z z') (Go.Ev.rowAt rs r_2 fun row => nthC row 0 fun v => bIf (loadedEq v w) true false) false) false))
                                                                                                                        ((K6 c6x7).1 n call (TT.setSlot T 5 (AV.ptr nx 0 0 9)) H (fun T H => (K6 c6x16).1 n call T H kn kx) fun x T H =>
                                                                                                                          xCase x (fun i => bIf (Nat.beq i 1) ((K6 c6x16).1 n call T H kn kx) (kx (X.exit i) T H)) (kx X.ret T H) fun v =>
                                                                                                                            kx (X.panic v) T H)
                                                                                                                        false)
                                                                                                                  false)
                                                                                                                (Go.Ev.rowAt rs 0 fun row =>
                                                                                                                  takeC row 0 fun q_1 =>
                                                                                                                    dropC row 9 fun w_1 =>
                                                                                                                      appC (AV.int 3 r :: q) w_1 fun w_2 =>
                                                                                                                        appC q_1 w_2 fun row =>
                                                                                                                          setRow rs 0 row fun rs =>
                                                                                                                            putO H nx (AObj.cells rs n_2 9 el u ro) fun H =>
                                                                                                                              bIf
                                                                                                                                (bIf true true
                                                                                                                                  (getO H a fun o =>
                                                                                                                                    oCells o fun rs n z' x x_3 x_4 =>
                                                                                                                                      bIf (Nat.ble (Nat.succ r_2) n)
                                                                                                                                        (bIf (Nat.beq z z') (Go.Ev.rowAt rs r_2 fun row => nthC row 0 fun v => bIf (loadedEq v w) true false) false)
                                                                                                                                        false))
                                                                                                                                ((K6 c6x7).1 n call (TT.setSlot T 5 (AV.ptr nx 0 0 9)) H (fun T H => (K6 c6x16).1 n call T H kn kx) fun x T H =>
                                                                                                                                  xCase x (fun i => bIf (Nat.beq i 1) ((K6 c6x16).1 n call T H kn kx) (kx (X.exit i) T H)) (kx X.ret T H) fun v =>
                                                                                                                                    kx (X.panic v) T H)
                                                                                                                                false))
                                                                                                              false)
                                                                                                            false))
                                                                                                    false)
                                                                                                (bIf true
                                                                                                  (getO H nx fun o =>
                                                                                                    oCells o fun rs n_2 z' el u ro =>
                                                                                                      bIf ro false
                                                                                                        (bIf (Nat.ble 1 n_2)
                                                                                                          (bIf (Nat.beq 9 z')
                                                                                                            (bIf true
                                                                                                              (bIf true
                                                                                                                (setRow rs 0 (AV.int 3 r :: q) fun rs =>
                                                                                                                  putO H nx (AObj.cells rs n_2 9 el u ro) fun H =>
                                                                                                                    bIf
                                                                                                                      (bIf true true
                                                                                                                        (getO H a fun o =>
                                                                                                                          oCells o fun rs n z' x x_3 x_4 =>
                                                                                                                            bIf (Nat.ble (Nat.succ r_2) n)
                                                                                                                              (bIf (Nat.beq z z') (Go.Ev.rowAt rs r_2 fun row => nthC row 0 fun v => bIf (loadedEq v w) true false) false) false))
                                                                                                                      ((K6 c6x7).1 n call (TT.setSlot T 5 (AV.ptr nx 0 0 9)) H (fun T H => (K6 c6x16).1 n call T H kn kx) fun x T H =>
                                                                                                                        xCase x (fun i => bIf (Nat.beq i 1) ((K6 c6x16).1 n call T H kn kx) (kx (X.exit i) T H)) (kx X.ret T H) fun v =>
                                                                                                                          kx (X.panic v) T H)
                                                                                                                      false)
                                                                                                                false)
                                                                                                              (Go.Ev.rowAt rs 0 fun row =>
                                                                                                                takeC row 0 fun q_1 =>
                                                                                                                  dropC row 9 fun w_1 =>
                                                                                                                    appC (AV.int 3 r :: q) w_1 fun w_2 =>
                                                                                                                      appC q_1 w_2 fun row =>
                                                                                                                        setRow rs 0 row fun rs =>
                                                                                                                          putO H nx (AObj.cells rs n_2 9 el u ro) fun H =>
                                                                                                                            bIf
                                                                                                                              (bIf true true
                                                                                                                                (getO H a fun o =>
                                                                                                                                  oCells o fun rs n z' x x_3 x_4 =>
                                                                                                                                    bIf (Nat.ble (Nat.succ r_2) n)
                                                                                                                                      (bIf (Nat.beq z z') (Go.Ev.rowAt rs r_2 fun row => nthC row 0 fun v => bIf (loadedEq v w) true false) false)
                                                                                                                                      false))
                                                                                                                              ((K6 c6x7).1 n call (TT.setSlot T 5 (AV.ptr nx 0 0 9)) H (fun T H => (K6 c6x16).1 n call T H kn kx) fun x T H =>
                                                                                                                                xCase x (fun i => bIf (Nat.beq i 1) ((K6 c6x16).1 n call T H kn kx) (kx (X.exit i) T H)) (kx X.ret T H) fun v =>
                                                                                                                                  kx (X.panic v) T H)
                                                                                                                              false))
                                                                                                            false)
                                                                                                          false))
                                                                                                  false))
                                                                                          false)
                                                                                      false)
                                                                                  false)
                                                                                false)
                                                                            false)
                                                                        fun v => kx (X.panic v) (TT.setSlot T 5 AV.any) H)
                                                                  (call 12 [TT.slot T 0, AV.int 3 3] H fun r_3 H =>
                                                                    resCase r_3
                                                                      (fun v =>
                                                                        bIf
                                                                          (bIf false true
                                                                            (getO H a fun o =>
                                                                              oCells o fun rs n z' x x_3 x_4 =>
                                                                                bIf (Nat.ble (Nat.succ r_2) n) (bIf (Nat.beq z z') (Go.Ev.rowAt rs r_2 fun row => nthC row 0 fun v => bIf (loadedEq v w) true false) false) false))
                                                                          (vInt v fun c2 b =>
                                                                            bIf true
                                                                              (bIf (Nat.beq c2 3)
                                                                                (forceNat (addN 18446744073709551616 1 b) fun r_4 =>
                                                                                  bIf true
                                                                                    (cellsN w 1 fun c =>
                                                                                      bIf true
                                                                                        (appC [AV.int 3 r_4] [AV.nil NK.s, AV.nil NK.s, AV.nil NK.s, AV.nil NK.s, AV.nil NK.s, AV.nil NK.s] fun q =>
                                                                                          appC c q fun q =>
                                                                                            bIf true
                                                                                              (putO H nx (varObj 39 9 [AV.int 3 0, AV.str 0 0, AV.int 3 0, AV.nil NK.s, AV.nil NK.s, AV.nil NK.s, AV.nil NK.s, AV.nil NK.s, AV.nil NK.s]) fun H =>
                                                                                                bIf true
                                                                                                  (getO H nx fun o =>
                                                                                                    oCells o fun rs n_2 z' el u ro =>
                                                                                                      bIf ro false
                                                                                                        (bIf (Nat.ble 1 n_2)
                                                                                                          (bIf (Nat.beq 9 z')
                                                                                                            (bIf true
                                                                                                              (bIf true
                                                                                                                (setRow rs 0 (AV.int 3 r :: q) fun rs =>
                                                                                                                  putO H nx (AObj.cells rs n_2 9 el u ro) fun H =>
                                                                                                                    bIf
                                                                                                                      (bIf true true
                                                                                                                        (getO H a fun o =>
                                                                                                                          oCells o fun rs n z' x x_3 x_4 =>
                                                                                                                            bIf (Nat.ble (Nat.succ r_2) n)
                                                                                                                              (bIf (Nat.beq z z') (Go.Ev.rowAt rs r_2 fun row => nthC row 0 fun v => bIf (loadedEq v w) true false) false) false))
                                                                                                                      ((K6 c6x7).1 n call (TT.setSlot T 5 (AV.ptr nx 0 0 9)) H (fun T H => (K6 c6x16).1 n call T H kn kx) fun x T H =>
                                                                                                                        xCase x (fun i => bIf (Nat.beq i 1) ((K6 c6x16).1 n call T H kn kx) (kx (X.exit i) T H)) (kx X.ret T H) fun v =>
                                                                                                                          kx (X.panic v) T H)
                                                                                                                      false)
                                                                                                                false)
                                                                                                              (Go.Ev.rowAt rs 0 fun row =>
                                                                                                                takeC row 0 fun q_1 =>
                                                                                                                  dropC row 9 fun w_1 =>
                                                                                                                    appC (AV.int 3 r :: q) w_1 fun w_2 =>
                                                                                                                      appC q_1 w_2 fun row =>
                                                                                                                        setRow rs 0 row fun rs =>
                                                                                                                          putO H nx (AObj.cells rs n_2 9 el u ro) fun H =>
                                                                                                                            bIf
                                                                                                                              (bIf true true
                                                                                                                                (getO H a fun o =>
                                                                                                                                  oCells o fun rs n z' x x_3 x_4 =>
                                                                                                                                    bIf (Nat.ble (Nat.succ r_2) n)
                                                                                                                                      (bIf (Nat.beq z z') (Go.Ev.rowAt rs r_2 fun row => nthC row 0 fun v => bIf (loadedEq v w) true false) false)
                                                                                                                                      false))
                                                                                                                              ((K6 c6x7).1 n call (TT.setSlot T 5 (AV.ptr nx 0 0 9)) H (fun T H => (K6 c6x16).1 n call T H kn kx) fun x T H =>
                                                                                                                                xCase x (fun i => bIf (Nat.beq i 1) ((K6 c6x16).1 n call T H kn kx) (kx (X.exit i) T H)) (kx X.ret T H) fun v =>
                                                                                                                                  kx (X.panic v) T H)
                                                                                                                              false))
                                                                                                            false)
                                                                                                          false))
                                                                                                  false)
                                                                                              (bIf true
                                                                                                (getO H nx fun o =>
                                                                                                  oCells o fun rs n_2 z' el u ro =>
                                                                                                    bIf ro false
                                                                                                      (bIf (Nat.ble 1 n_2)
                                                                                                        (bIf (Nat.beq 9 z')
                                                                                                          (bIf true
                                                                                                            (bIf true
                                                                                                              (setRow rs 0 (AV.int 3 r :: q) fun rs =>
                                                                                                                putO H nx (AObj.cells rs n_2 9 el u ro) fun H =>
                                                                                                                  bIf
                                                                                                                    (bIf true true
                                                                                                                      (getO H a fun o =>
                                                                                                                        oCells o fun rs n z' x x_3 x_4 =>
                                                                                                                          bIf (Nat.ble (Nat.succ r_2) n)
                                                                                                                            (bIf (Nat.beq z z') (Go.Ev.rowAt rs r_2 fun row => nthC row 0 fun v => bIf (loadedEq v w) true false) false) false))
                                                                                                                    ((K6 c6x7).1 n call (TT.setSlot T 5 (AV.ptr nx 0 0 9)) H (fun T H => (K6 c6x16).1 n call T H kn kx) fun x T H =>
                                                                                                                      xCase x (fun i => bIf (Nat.beq i 1) ((K6 c6x16).1 n call T H kn kx) (kx (X.exit i) T H)) (kx X.ret T H) fun v =>
                                                                                                                        kx (X.panic v) T H)
                                                                                                                    false)
                                                                                                              false)
                                                                                                            (Go.Ev.rowAt rs 0 fun row =>
                                                                                                              takeC row 0 fun q_1 =>
                                                                                                                dropC row 9 fun w_1 =>
                                                                                                                  appC (AV.int 3 r :: q) w_1 fun w_2 =>
                                                                                                                    appC q_1 w_2 fun row =>
                                                                                                                      setRow rs 0 row fun rs =>
                                                                                                                        putO H nx (AObj.cells rs n_2 9 el u ro) fun H =>
                                                                                                                          bIf
                                                                                                                            (bIf true true
                                                                                                                              (getO H a fun o =>
                                                                                                                                oCells o fun rs n z' x x_3 x_4 =>
                                                                                                                                  bIf (Nat.ble (Nat.succ r_2) n)
                                                                                                                                    (bIf (Nat.beq z z') (Go.Ev.rowAt rs r_2 fun row => nthC row 0 fun v => bIf (loadedEq v w) true false) false)
                                                                                                                                    false))
                                                                                                                            ((K6 c6x7).1 n call (TT.setSlot T 5 (AV.ptr nx 0 0 9)) H (fun T H => (K6 c6x16).1 n call T H kn kx) fun x T H =>
                                                                                                                              xCase x (fun i => bIf (Nat.beq i 1) ((K6 c6x16).1 n call T H kn kx) (kx (X.exit i) T H)) (kx X.ret T H) fun v =>
                                                                                                                                kx (X.panic v) T H)
                                                                                                                            false))
                                                                                                          false)
                                                                                                        false))
                                                                                                false))
                                                                                        false)
                                                                                    false)
                                                                                false)
                                                                              false)
                                                                          false)
                                                                      fun v => kx (X.panic v) (TT.setSlot T 5 AV.any) H))
                                                            false)
                                                          false)
                                                  false)
                                            false)
                                        fun v => kx (X.panic v) (TT.setSlot T 5 AV.any) H)
                                  (call 12 [TT.slot T 0, AV.int 3 5] H fun r_1 H =>
                                    resCase r_1
                                      (fun v =>
                                        bIf true
                                          (vSlice (TT.slot T 3) fun a i0 l c u z =>
                                            asIdx v l fun j =>
                                              bIf (Nat.beq z 1)
                                                (forceNat (Nat.add i0 j) fun r_2 =>
                                                  getO H a fun o =>
                                                    oCells o fun rs n_1 z' x x_1 x_2 =>
                                                      bIf (Nat.ble (Nat.succ r_2) n_1)
                                                        (bIf (Nat.beq z z')
                                                          (Go.Ev.rowAt rs r_2 fun row =>
                                                            nthC row 0 fun w =>
                                                              bIf false
                                                                (putO H nx (varObj 39 9 [AV.int 3 0, AV.str 0 0, AV.int 3 0, AV.nil NK.s, AV.nil NK.s, AV.nil NK.s, AV.nil NK.s, AV.nil NK.s, AV.nil NK.s]) fun H =>
                                                                  call 12 [TT.slot T 0, AV.int 3 3] H fun r_3 H =>
                                                                    resCase r_3
                                                                      (fun v =>
                                                                        bIf
                                                                          (bIf false true
                                                                            (getO H a fun o =>
                                                                              oCells o fun rs n z' x x_3 x_4 =>
                                                                                bIf (Nat.ble (Nat.succ r_2) n) (bIf (Nat.beq z z') (Go.Ev.rowAt rs r_2 fun row => nthC row 0 fun v => bIf (loadedEq v w) true false) false) false))
                                                                          (vInt v fun c2 b =>
                                                                            bIf true
                                                                              (bIf (Nat.beq c2 3)
                                                                                (forceNat (addN 18446744073709551616 1 b) fun r_4 =>
                                                                                  bIf true
                                                                                    (cellsN w 1 fun c =>
                                                                                      bIf true
                                                                                        (appC [AV.int 3 r_4] [AV.nil NK.s, AV.nil NK.s, AV.nil NK.s, AV.nil NK.s, AV.nil NK.s, AV.nil NK.s] fun q =>
                                                                                          appC c q fun q =>
                                                                                            bIf true
                                                                                              (putO H nx (varObj 39 9 [AV.int 3 0, AV.str 0 0, AV.int 3 0, AV.nil NK.s, AV.nil NK.s, AV.nil NK.s, AV.nil NK.s, AV.nil NK.s, AV.nil NK.s]) fun H =>
                                                                                                bIf true
                                                                                                  (getO H nx fun o =>
                                                                                                    oCells o fun rs n_2 z' el u ro =>
                                                                                                      bIf ro false
                                                                                                        (bIf (Nat.ble 1 n_2)
                                                                                                          (bIf (Nat.beq 9 z')
                                                                                                            (bIf true
                                                                                                              (bIf true
                                                                                                                (setRow rs 0 (AV.int 3 r :: q) fun rs =>
                                                                                                                  putO H nx (AObj.cells rs n_2 9 el u ro) fun H =>
                                                                                                                    bIf
                                                                                                                      (bIf true true
                                                                                                                        (getO H a fun o =>
                                                                                                                          oCells o fun rs n z' x x_3 x_4 =>
                                                                                                                            bIf (Nat.ble (Nat.succ r_2) n)
                                                                                                                              (bIf (Nat.beq z z') (Go.Ev.rowAt rs r_2 fun row => nthC row 0 fun v => bIf (loadedEq v w) true false) false) false))
                                                                                                                      ((K6 c6x7).1 n call (TT.setSlot T 5 (AV.ptr nx 0 0 9)) H (fun T H => (K6 c6x16).1 n call T H kn kx) fun x T H =>
                                                                                                                        xCase x (fun i => bIf (Nat.beq i 1) ((K6 c6x16).1 n call T H kn kx) (kx (X.exit i) T H)) (kx X.ret T H) fun v =>
                                                                                                                          kx (X.panic v) T H)
                                                                                                                      false)
                                                                                                                false)
                                                                                                              (Go.Ev.rowAt rs 0 fun row =>
                                                                                                                takeC row 0 fun q_1 =>
                                                                                                                  dropC row 9 fun w_1 =>
                                                                                                                    appC (AV.int 3 r :: q) w_1 fun w_2 =>
                                                                                                                      appC q_1 w_2 fun row =>
                                                                                                                        setRow rs 0 row fun rs =>
                                                                                                                          putO H nx (AObj.cells rs n_2 9 el u ro) fun H =>
                                                                                                                            bIf
                                                                                                                              (bIf true true
                                                                                                                                (getO H a fun o =>
                                                                                                                                  oCells o fun rs n z' x x_3 x_4 =>
                                                                                                                                    bIf (Nat.ble (Nat.succ r_2) n)
                                                                                                                                      (bIf (Nat.beq z z') (Go.Ev.rowAt rs r_2 fun row => nthC row 0 fun v => bIf (loadedEq v w) true false) false)
                                                                                                                                      false))
                                                                                                                              ((K6 c6x7).1 n call (TT.setSlot T 5 (AV.ptr nx 0 0 9)) H (fun T H => (K6 c6x16).1 n call T H kn kx) fun x T H =>
                                                                                                                                xCase x (fun i => bIf (Nat.beq i 1) ((K6 c6x16).1 n call T H kn kx) (kx (X.exit i) T H)) (kx X.ret T H) fun v =>
                                                                                                                                  kx (X.panic v) T H)
                                                                                                                              false))
                                                                                                            false)
                                                                                                          false))
                                                                                                  false)
                                                                                              (bIf true
                                                                                                (getO H nx fun o =>
                                                                                                  oCells o fun rs n_2 z' el u ro =>
                                                                                                    bIf ro false
                                                                                                      (bIf (Nat.ble 1 n_2)
                                                                                                        (bIf (Nat.beq 9 z')
                                                                                                          (bIf true
                                                                                                            (bIf true
                                                                                                              (setRow rs 0 (AV.int 3 r :: q) fun rs =>
                                                                                                                putO H nx (AObj.cells rs n_2 9 el u ro) fun H =>
                                                                                                                  bIf
                                                                                                                    (bIf true true
                                                                                                                      (getO H a fun o =>
                                                                                                                        oCells o fun rs n z' x x_3 x_4 =>
                                                                                                                          bIf (Nat.ble (Nat.succ r_2) n)
                                                                                                                            (bIf (Nat.beq z z') (Go.Ev.rowAt rs r_2 fun row => nthC row 0 fun v => bIf (loadedEq v w) true false) false) false))
                                                                                                                    ((K6 c6x7).1 n call (TT.setSlot T 5 (AV.ptr nx 0 0 9)) H (fun T H => (K6 c6x16).1 n call T H kn kx) fun x T H =>
                                                                                                                      xCase x (fun i => bIf (Nat.beq i 1) ((K6 c6x16).1 n call T H kn kx) (kx (X.exit i) T H)) (kx X.ret T H) fun v =>
                                                                                                                        kx (X.panic v) T H)
                                                                                                                    false)
                                                                                                              false)
                                                                                                            (Go.Ev.rowAt rs 0 fun row =>
                                                                                                              takeC row 0 fun q_1 =>
                                                                                                                dropC row 9 fun w_1 =>
                                                                                                                  appC (AV.int 3 r :: q) w_1 fun w_2 =>
                                                                                                                    appC q_1 w_2 fun row =>
                                                                                                                      setRow rs 0 row fun rs =>
                                                                                                                        putO H nx (AObj.cells rs n_2 9 el u ro) fun H =>
                                                                                                                          bIf
                                                                                                                            (bIf true true
                                                                                                                              (getO H a fun o =>
                                                                                                                                oCells o fun rs n z' x x_3 x_4 =>
                                                                                                                                  bIf (Nat.ble (Nat.succ r_2) n)
                                                                                                                                    (bIf (Nat.beq z z') (Go.Ev.rowAt rs r_2 fun row => nthC row 0 fun v => bIf (loadedEq v w) true false) false)
                                                                                                                                    false))
                                                                                                                            ((K6 c6x7).1 n call (TT.setSlot T 5 (AV.ptr nx 0 0 9)) H (fun T H => (K6 c6x16).1 n call T H kn kx) fun x T H =>
                                                                                                                              xCase x (fun i => bIf (Nat.beq i 1) ((K6 c6x16).1 n call T H kn kx) (kx (X.exit i) T H)) (kx X.ret T H) fun v =>
                                                                                                                                kx (X.panic v) T H)
                                                                                                                            false))
                                                                                                          false)
                                                                                                        false))
                                                                                                false))
                                                                                        false)
                                                                                    false)
                                                                                false)
                                                                              false)
                                                                          false)
                                                                      fun v => kx (X.panic v) (TT.setSlot T 5 AV.any) H)
                                                                (call 12 [TT.slot T 0, AV.int 3 3] H fun r_3 H =>
                                                                  resCase r_3
                                                                    (fun v =>
                                                                      bIf
                                                                        (bIf false true
                                                                          (getO H a fun o =>
                                                                            oCells o fun rs n z' x x_3 x_4 =>
                                                                              bIf (Nat.ble (Nat.succ r_2) n) (bIf (Nat.beq z z') (Go.Ev.rowAt rs r_2 fun row => nthC row 0 fun v => bIf (loadedEq v w) true false) false) false))
                                                                        (vInt v fun c2 b =>
                                                                          bIf true
                                                                            (bIf (Nat.beq c2 3)
                                                                              (forceNat (addN 18446744073709551616 1 b) fun r_4 =>
                                                                                bIf true
                                                                                  (cellsN w 1 fun c =>
                                                                                    bIf true
                                                                                      (appC [AV.int 3 r_4] [AV.nil NK.s, AV.nil NK.s, AV.nil NK.s, AV.nil NK.s, AV.nil NK.s, AV.nil NK.s] fun q =>
                                                                                        appC c q fun q =>
                                                                                          bIf true
                                                                                            (putO H nx (varObj 39 9 [AV.int 3 0, AV.str 0 0, AV.int 3 0, AV.nil NK.s, AV.nil NK.s, AV.nil NK.s, AV.nil NK.s, AV.nil NK.s, AV.nil NK.s]) fun H =>
                                                                                              bIf true
                                                                                                (getO H nx fun o =>
                                                                                                  oCells o fun rs n_2 z' el u ro =>
                                                                                                    bIf ro false
                                                                                                      (bIf (Nat.ble 1 n_2)
                                                                                                        (bIf (Nat.beq 9 z')
                                                                                                          (bIf true
                                                                                                            (bIf true
                                                                                                              (setRow rs 0 (AV.int 3 r :: q) fun rs =>
                                                                                                                putO H nx (AObj.cells rs n_2 9 el u ro) fun H =>
                                                                                                                  bIf
                                                                                                                    (bIf true true
                                                                                                                      (getO H a fun o =>
                                                                                                                        oCells o fun rs n z' x x_3 x_4 =>
                                                                                                                          bIf (Nat.ble (Nat.succ r_2) n)
                                                                                                                            (bIf (Nat.beq z z') (Go.Ev.rowAt rs r_2 fun row => nthC row 0 fun v => bIf (loadedEq v w) true false) false) false))
                                                                                                                    ((K6 c6x7).1 n call (TT.setSlot T 5 (AV.ptr nx 0 0 9)) H (fun T H => (K6 c6x16).1 n call T H kn kx) fun x T H =>
                                                                                                                      xCase x (fun i => bIf (Nat.beq i 1) ((K6 c6x16).1 n call T H kn kx) (kx (X.exit i) T H)) (kx X.ret T H) fun v =>
                                                                                                                        kx (X.panic v) T H)
                                                                                                                    false)
                                                                                                              false)
                                                                                                            (Go.Ev.rowAt rs 0 fun row =>
                                                                                                              takeC row 0 fun q_1 =>
                                                                                                                dropC row 9 fun w_1 =>
                                                                                                                  appC (AV.int 3 r :: q) w_1 fun w_2 =>
                                                                                                                    appC q_1 w_2 fun row =>
                                                                                                                      setRow rs 0 row fun rs =>
                                                                                                                        putO H nx (AObj.cells rs n_2 9 el u ro) fun H =>
                                                                                                                          bIf
                                                                                                                            (bIf true true
                                                                                                                              (getO H a fun o =>
                                                                                                                                oCells o fun rs n z' x x_3 x_4 =>
                                                                                                                                  bIf (Nat.ble (Nat.succ r_2) n)
                                                                                                                                    (bIf (Nat.beq z z') (Go.Ev.rowAt rs r_2 fun row => nthC row 0 fun v => bIf (loadedEq v w) true false) false)
                                                                                                                                    false))
                                                                                                                            ((K6 c6x7).1 n call (TT.setSlot T 5 (AV.ptr nx 0 0 9)) H (fun T H => (K6 c6x16).1 n call T H kn kx) fun x T H =>
                                                                                                                              xCase x (fun i => bIf (Nat.beq i 1) ((K6 c6x16).1 n call T H kn kx) (kx (X.exit i) T H)) (kx X.ret T H) fun v =>
                                                                                                                                kx (X.panic v) T H)
                                                                                                                            false))
                                                                                                          false)
                                                                                                        false))
                                                                                                false)
                                                                                            (bIf true
                                                                                              (getO H nx fun o =>
                                                                                                oCells o fun rs n_2 z' el u ro =>
                                                                                                  bIf ro false
                                                                                                    (bIf (Nat.ble 1 n_2)
                                                                                                      (bIf (Nat.beq 9 z')
                                                                                                        (bIf true
                                                                                                          (bIf true
                                                                                                            (setRow rs 0 (AV.int 3 r :: q) fun rs =>
                                                                                                              putO H nx (AObj.cells rs n_2 9 el u ro) fun H =>
                                                                                                                bIf
                                                                                                                  (bIf true true
                                                                                                                    (getO H a fun o =>
                                                                                                                      oCells o fun rs n z' x x_3 x_4 =>
                                                                                                                        bIf (Nat.ble (Nat.succ r_2) n)
                                                                                                                          (bIf (Nat.beq z z') (Go.Ev.rowAt rs r_2 fun row => nthC row 0 fun v => bIf (loadedEq v w) true false) false) false))
                                                                                                                  ((K6 c6x7).1 n call (TT.setSlot T 5 (AV.ptr nx 0 0 9)) H (fun T H => (K6 c6x16).1 n call T H kn kx) fun x T H =>
                                                                                                                    xCase x (fun i => bIf (Nat.beq i 1) ((K6 c6x16).1 n call T H kn kx) (kx (X.exit i) T H)) (kx X.ret T H) fun v =>
                                                                                                                      kx (X.panic v) T H)
                                                                                                                  false)
                                                                                                            false)
                                                                                                          (Go.Ev.rowAt rs 0 fun row =>
                                                                                                            takeC row 0 fun q_1 =>
                                                                                                              dropC row 9 fun w_1 =>
                                                                                                                appC (AV.int 3 r :: q) w_1 fun w_2 =>
                                                                                                                  appC q_1 w_2 fun row =>
                                                                                                                    setRow rs 0 row fun rs =>
                                                                                                                      putO H nx (AObj.cells rs n_2 9 el u ro) fun H =>
                                                                                                                        bIf
                                                                                                                          (bIf true true
                                                                                                                            (getO H a fun o =>
                                                                                                                              oCells o fun rs n z' x x_3 x_4 =>
                                                                                                                                bIf (Nat.ble (Nat.succ r_2) n)
                                                                                                                                  (bIf (Nat.beq z z') (Go.Ev.rowAt rs r_2 fun row => nthC row 0 fun v => bIf (loadedEq v w) true false) false)
                                                                                                                                  false))
                                                                                                                          ((K6 c6x7).1 n call (TT.setSlot T 5 (AV.ptr nx 0 0 9)) H (fun T H => (K6 c6x16).1 n call T H kn kx) fun x T H =>
                                                                                                                            xCase x (fun i => bIf (Nat.beq i 1) ((K6 c6x16).1 n call T H kn kx) (kx (X.exit i) T H)) (kx X.ret T H) fun v =>
                                                                                                                              kx (X.panic v) T H)
                                                                                                                          false))
                                                                                                        false)
                                                                                                      false))
                                                                                              false))
                                                                                      false)
                                                                                  false)
                                                                              false)
                                                                            false)
                                                                        false)
                                                                    fun v => kx (X.panic v) (TT.setSlot T 5 AV.any) H))
                                                          false)
                                                        false)
                                                false)
                                          false)
                                      fun v => kx (X.panic v) (TT.setSlot T 5 AV.any) H))
                              false)
                            false)
                        false)
                      false)
                  false)
              fun v => kx (X.panic v) (TT.setSlot T 5 AV.any) H)
        (call 12 [TT.slot T 0, AV.int 3 2] (Heap.mk (Nat.succ nx) t) fun r H =>
          resCase r
            (fun v =>
              bIf true
                (vInt v fun c2 b =>
                  bIf true
                    (bIf (Nat.beq c2 3)
                      (forceNat (mulN 18446744073709551616 2 b) fun r =>
                        bIf true
                          (bIf true
                            (forceNat (addN 18446744073709551616 1 r) fun r =>
                              bIf (Nat.beq (Nat.land (Nat.shiftRight 35 13) 1) 1)
                                (putO H nx (varObj 39 9 [AV.int 3 0, AV.str 0 0, AV.int 3 0, AV.nil NK.s, AV.nil NK.s, AV.nil NK.s, AV.nil NK.s, AV.nil NK.s, AV.nil NK.s]) fun H =>
                                  call 12 [TT.slot T 0, AV.int 3 5] H fun r_1 H =>
                                    resCase r_1
                                      (fun v =>
                                        bIf true
                                          (vSlice (TT.slot T 3) fun a i0 l c u z =>
                                            asIdx v l fun j =>
                                              bIf (Nat.beq z 1)
                                                (forceNat (Nat.add i0 j) fun r_2 =>
                                                  getO H a fun o =>
                                                    oCells o fun rs n_1 z' x x_1 x_2 =>
                                                      bIf (Nat.ble (Nat.succ r_2) n_1)
                                                        (bIf (Nat.beq z z')
                                                          (Go.Ev.rowAt rs r_2 fun row =>
                                                            nthC row 0 fun w =>
                                                              bIf false
                                                                (putO H nx (varObj 39 9 [AV.int 3 0, AV.str 0 0, AV.int 3 0, AV.nil NK.s, AV.nil NK.s, AV.nil NK.s, AV.nil NK.s, AV.nil NK.s, AV.nil NK.s]) fun H =>
                                                                  call 12 [TT.slot T 0, AV.int 3 3] H fun r_3 H =>
                                                                    resCase r_3
                                                                      (fun v =>
                                                                        bIf
                                                                          (bIf false true
                                                                            (getO H a fun o =>
                                                                              oCells o fun rs n z' x x_3 x_4 =>
                                                                                bIf (Nat.ble (Nat.succ r_2) n) (bIf (Nat.beq z z') (Go.Ev.rowAt rs r_2 fun row => nthC row 0 fun v => bIf (loadedEq v w) true false) false) false))
                                                                          (vInt v fun c2 b =>
                                                                            bIf true
                                                                              (bIf (Nat.beq c2 3)
                                                                                (forceNat (addN 18446744073709551616 1 b) fun r_4 =>
                                                                                  bIf true
                                                                                    (cellsN w 1 fun c =>
                                                                                      bIf true
                                                                                        (appC [AV.int 3 r_4] [AV.nil NK.s, AV.nil NK.s, AV.nil NK.s, AV.nil NK.s, AV.nil NK.s, AV.nil NK.s] fun q =>
                                                                                          appC c q fun q =>
                                                                                            bIf true
                                                                                              (putO H nx (varObj 39 9 [AV.int 3 0, AV.str 0 0, AV.int 3 0, AV.nil NK.s, AV.nil NK.s, AV.nil NK.s, AV.nil NK.s, AV.nil NK.s, AV.nil NK.s]) fun H =>
                                                                                                bIf true
                                                                                                  (getO H nx fun o =>
                                                                                                    oCells o fun rs n_2 z' el u ro =>
                                                                                                      bIf ro false
                                                                                                        (bIf (Nat.ble 1 n_2)
                                                                                                          (bIf (Nat.beq 9 z')
                                                                                                            (bIf true
                                                                                                              (bIf true
                                                                                                                (setRow rs 0 (AV.int 3 r :: q) fun rs =>
                                                                                                                  putO H nx (AObj.cells rs n_2 9 el u ro) fun H =>
                                                                                                                    bIf
                                                                                                                      (bIf true true
                                                                                                                        (getO H a fun o =>
                                                                                                                          oCells o fun rs n z' x x_3 x_4 =>
                                                                                                                            bIf (Nat.ble (Nat.succ r_2) n)
                                                                                                                              (bIf (Nat.beq z z') (Go.Ev.rowAt rs r_2 fun row => nthC row 0 fun v => bIf (loadedEq v w) true false) false) false))
                                                                                                                      ((K6 c6x7).1 n call (TT.setSlot T 5 (AV.ptr nx 0 0 9)) H (fun T H => (K6 c6x16).1 n call T H kn kx) fun x T H =>
                                                                                                                        xCase x (fun i => bIf (Nat.beq i 1) ((K6 c6x16).1 n call T H kn kx) (kx (X.exit i) T H)) (kx X.ret T H) fun v =>
                                                                                                                          kx (X.panic v) T H)
                                                                                                                      false)
                                                                                                                false)
                                                                                                              (Go.Ev.rowAt rs 0 fun row =>
                                                                                                                takeC row 0 fun q_1 =>
                                                                                                                  dropC row 9 fun w_1 =>
                                                                                                                    appC (AV.int 3 r :: q) w_1 fun w_2 =>
                                                                                                                      appC q_1 w_2 fun row =>
                                                                                                                        setRow rs 0 row fun rs =>
                                                                                                                          putO H nx (AObj.cells rs n_2 9 el u ro) fun H =>
                                                                                                                            bIf
                                                                                                                              (bIf true true
                                                                                                                                (getO H a fun o =>
                                                                                                                                  oCells o fun rs n z' x x_3 x_4 =>
                                                                                                                                    bIf (Nat.ble (Nat.succ r_2) n)
                                                                                                                                      (bIf (Nat.beq z z') (Go.Ev.rowAt rs r_2 fun row => nthC row 0 fun v => bIf (loadedEq v w) true false) false)
                                                                                                                                      false))
                                                                                                                              ((K6 c6x7).1 n call (TT.setSlot T 5 (AV.ptr nx 0 0 9)) H (fun T H => (K6 c6x16).1 n call T H kn kx) fun x T H =>
                                                                                                                                xCase x (fun i => bIf (Nat.beq i 1) ((K6 c6x16).1 n call T H kn kx) (kx (X.exit i) T H)) (kx X.ret T H) fun v =>
                                                                                                                                  kx (X.panic v) T H)
                                                                                                                              false))
                                                                                                            false)
                                                                                                          false))
                                                                                                  false)
                                                                                              (bIf true
                                                                                                (getO H nx fun o =>
                                                                                                  oCells o fun rs n_2 z' el u ro =>
                                                                                                    bIf ro false
                                                                                                      (bIf (Nat.ble 1 n_2)
                                                                                                        (bIf (Nat.beq 9 z')
                                                                                                          (bIf true
                                                                                                            (bIf true
                                                                                                              (setRow rs 0 (AV.int 3 r :: q) fun rs =>
                                                                                                                putO H nx (AObj.cells rs n_2 9 el u ro) fun H =>
                                                                                                                  bIf
                                                                                                                    (bIf true true
                                                                                                                      (getO H a fun o =>
                                                                                                                        oCells o fun rs n z' x x_3 x_4 =>
                                                                                                                          bIf (Nat.ble (Nat.succ r_2) n)
                                                                                                                            (bIf (Nat.beq z z') (Go.Ev.rowAt rs r_2 fun row => nthC row 0 fun v => bIf (loadedEq v w) true false) false) false))
                                                                                                                    ((K6 c6x7).1 n call (TT.setSlot T 5 (AV.ptr nx 0 0 9)) H (fun T H => (K6 c6x16).1 n call T H kn kx) fun x T H =>
                                                                                                                      xCase x (fun i => bIf (Nat.beq i 1) ((K6 c6x16).1 n call T H kn kx) (kx (X.exit i) T H)) (kx X.ret T H) fun v =>
                                                                                                                        kx (X.panic v) T H)
                                                                                                                    false)
                                                                                                              false)
                                                                                                            (Go.Ev.rowAt rs 0 fun row =>
                                                                                                              takeC row 0 fun q_1 =>
                                                                                                                dropC row 9 fun w_1 =>
                                                                                                                  appC (AV.int 3 r :: q) w_1 fun w_2 =>
                                                                                                                    appC q_1 w_2 fun row =>
                                                                                                                      setRow rs 0 row fun rs =>
                                                                                                                        putO H nx (AObj.cells rs n_2 9 el u ro) fun H =>
                                                                                                                          bIf
                                                                                                                            (bIf true true
                                                                                                                              (getO H a fun o =>
                                                                                                                                oCells o fun rs n z' x x_3 x_4 =>
                                                                                                                                  bIf (Nat.ble (Nat.succ r_2) n)
                                                                                                                                    (bIf (Nat.beq z z') (Go.Ev.rowAt rs r_2 fun row => nthC row 0 fun v => bIf (loadedEq v w) true false) false)
                                                                                                                                    false))
                                                                                                                            ((K6 c6x7).1 n call (TT.setSlot T 5 (AV.ptr nx 0 0 9)) H (fun T H => (K6 c6x16).1 n call T H kn kx) fun x T H =>
                                                                                                                              xCase x (fun i => bIf (Nat.beq i 1) ((K6 c6x16).1 n call T H kn kx) (kx (X.exit i) T H)) (kx X.ret T H) fun v =>
                                                                                                                                kx (X.panic v) T H)
                                                                                                                            false))
                                                                                                          false)
                                                                                                        false))
                                                                                                false))
                                                                                        false)
                                                                                    false)
                                                                                false)
                                                                              false)
                                                                          false)
                                                                      fun v => kx (X.panic v) (TT.setSlot T 5 AV.any) H)
                                                                (call 12 [TT.slot T 0, AV.int 3 3] H fun r_3 H =>
                                                                  resCase r_3
                                                                    (fun v =>
                                                                      bIf
                                                                        (bIf false true
                                                                          (getO H a fun o =>
                                                                            oCells o fun rs n z' x x_3 x_4 =>
                                                                              bIf (Nat.ble (Nat.succ r_2) n) (bIf (Nat.beq z z') (Go.Ev.rowAt rs r_2 fun row => nthC row 0 fun v => bIf (loadedEq v w) true false) false) false))
                                                                        (vInt v fun c2 b =>
                                                                          bIf true
                                                                            (bIf (Nat.beq c2 3)
                                                                              (forceNat (addN 18446744073709551616 1 b) fun r_4 =>
                                                                                bIf true
                                                                                  (cellsN w 1 fun c =>
                                                                                    bIf true
                                                                                      (appC [AV.int 3 r_4] [AV.nil NK.s, AV.nil NK.s, AV.nil NK.s, AV.nil NK.s, AV.nil NK.s, AV.nil NK.s] fun q =>
                                                                                        appC c q fun q =>
                                                                                          bIf true
                                                                                            (putO H nx (varObj 39 9 [AV.int 3 0, AV.str 0 0, AV.int 3 0, AV.nil NK.s, AV.nil NK.s, AV.nil NK.s, AV.nil NK.s, AV.nil NK.s, AV.nil NK.s]) fun H =>
                                                                                              bIf true
                                                                                                (getO H nx fun o =>
                                                                                                  oCells o fun rs n_2 z' el u ro =>
                                                                                                    bIf ro false
                                                                                                      (bIf (Nat.ble 1 n_2)
                                                                                                        (bIf (Nat.beq 9 z')
                                                                                                          (bIf true
                                                                                                            (bIf true
                                                                                                              (setRow rs 0 (AV.int 3 r :: q) fun rs =>
                                                                                                                putO H nx (AObj.cells rs n_2 9 el u ro) fun H =>
                                                                                                                  bIf
                                                                                                                    (bIf true true
                                                                                                                      (getO H a fun o =>
                                                                                                                        oCells o fun rs n z' x x_3 x_4 =>
                                                                                                                          bIf (Nat.ble (Nat.succ r_2) n)
                                                                                                                            (bIf (Nat.beq z z') (Go.Ev.rowAt rs r_2 fun row => nthC row 0 fun v => bIf (loadedEq v w) true false) false) false))
                                                                                                                    ((K6 c6x7).1 n call (TT.setSlot T 5 (AV.ptr nx 0 0 9)) H (fun T H => (K6 c6x16).1 n call T H kn kx) fun x T H =>
                                                                                                                      xCase x (fun i => bIf (Nat.beq i 1) ((K6 c6x16).1 n call T H kn kx) (kx (X.exit i) T H)) (kx X.ret T H) fun v =>
                                                                                                                        kx (X.panic v) T H)
                                                                                                                    false)
                                                                                                              false)
                                                                                                            (Go.Ev.rowAt rs 0 fun row =>
                                                                                                              takeC row 0 fun q_1 =>
                                                                                                                dropC row 9 fun w_1 =>
                                                                                                                  appC (AV.int 3 r :: q) w_1 fun w_2 =>
                                                                                                                    appC q_1 w_2 fun row =>
                                                                                                                      setRow rs 0 row fun rs =>
                                                                                                                        putO H nx (AObj.cells rs n_2 9 el u ro) fun H =>
                                                                                                                          bIf
                                                                                                                            (bIf true true
                                                                                                                              (getO H a fun o =>
                                                                                                                                oCells o fun rs n z' x x_3 x_4 =>
                                                                                                                                  bIf (Nat.ble (Nat.succ r_2) n)
                                                                                                                                    (bIf (Nat.beq z z') (Go.Ev.rowAt rs r_2 fun row => nthC row 0 fun v => bIf (loadedEq v w) true false) false)
                                                                                                                                    false))
                                                                                                                            ((K6 c6x7).1 n call (TT.setSlot T 5 (AV.ptr nx 0 0 9)) H (fun T H => (K6 c6x16).1 n call T H kn kx) fun x T H =>
                                                                                                                              xCase x (fun i => bIf (Nat.beq i 1) ((K6 c6x16).1 n call T H kn kx) (kx (X.exit i) T H)) (kx X.ret T H) fun v =>
                                                                                                                                kx (X.panic v) T H)
                                                                                                                            false))
                                                                                                          false)
                                                                                                        false))
                                                                                                false)
                                                                                            (bIf true
                                                                                              (getO H nx fun o =>
                                                                                                oCells o fun rs n_2 z' el u ro =>
                                                                                                  bIf ro false
                                                                                                    (bIf (Nat.ble 1 n_2)
                                                                                                      (bIf (Nat.beq 9 z')
                                                                                                        (bIf true
                                                                                                          (bIf true
                                                                                                            (setRow rs 0 (AV.int 3 r :: q) fun rs =>
                                                                                                              putO H nx (AObj.cells rs n_2 9 el u ro) fun H =>
                                                                                                                bIf
                                                                                                                  (bIf true true
                                                                                                                    (getO H a fun o =>
                                                                                                                      oCells o fun rs n z' x x_3 x_4 =>
                                                                                                                        bIf (Nat.ble (Nat.succ r_2) n)
                                                                                                                          (bIf (Nat.beq z z') (Go.Ev.rowAt rs r_2 fun row => nthC row 0 fun v => bIf (loadedEq v w) true false) false) false))
                                                                                                                  ((K6 c6x7).1 n call (TT.setSlot T 5 (AV.ptr nx 0 0 9)) H (fun T H => (K6 c6x16).1 n call T H kn kx) fun x T H =>
                                                                                                                    xCase x (fun i => bIf (Nat.beq i 1) ((K6 c6x16).1 n call T H kn kx) (kx (X.exit i) T H)) (kx X.ret T H) fun v =>
                                                                                                                      kx (X.panic v) T H)
                                                                                                                  false)
                                                                                                            false)
                                                                                                          (Go.Ev.rowAt rs 0 fun row =>
                                                                                                            takeC row 0 fun q_1 =>
                                                                                                              dropC row 9 fun w_1 =>
                                                                                                                appC (AV.int 3 r :: q) w_1 fun w_2 =>
                                                                                                                  appC q_1 w_2 fun row =>
                                                                                                                    setRow rs 0 row fun rs =>
                                                                                                                      putO H nx (AObj.cells rs n_2 9 el u ro) fun H =>
                                                                                                                        bIf
                                                                                                                          (bIf true true
                                                                                                                            (getO H a fun o =>
                                                                                                                              oCells o fun rs n z' x x_3 x_4 =>
                                                                                                                                bIf (Nat.ble (Nat.succ r_2) n)
                                                                                                                                  (bIf (Nat.beq z z') (Go.Ev.rowAt rs r_2 fun row => nthC row 0 fun v => bIf (loadedEq v w) true false) false)
                                                                                                                                  false))
                                                                                                                          ((K6 c6x7).1 n call (TT.setSlot T 5 (AV.ptr nx 0 0 9)) H (fun T H => (K6 c6x16).1 n call T H kn kx) fun x T H =>
                                                                                                                            xCase x (fun i => bIf (Nat.beq i 1) ((K6 c6x16).1 n call T H kn kx) (kx (X.exit i) T H)) (kx X.ret T H) fun v =>
                                                                                                                              kx (X.panic v) T H)
                                                                                                                          false))
                                                                                                        false)
                                                                                                      false))
                                                                                              false))
                                                                                      false)
                                                                                  false)
                                                                              false)
                                                                            false)
                                                                        false)
                                                                    fun v => kx (X.panic v) (TT.setSlot T 5 AV.any) H))
                                                          false)
                                                        false)
                                                false)
                                          false)
                                      fun v => kx (X.panic v) (TT.setSlot T 5 AV.any) H)
                                (call 12 [TT.slot T 0, AV.int 3 5] H fun r_1 H =>
                                  resCase r_1
                                    (fun v =>
                                      bIf true
                                        (vSlice (TT.slot T 3) fun a i0 l c u z =>
                                          asIdx v l fun j =>
                                            bIf (Nat.beq z 1)
                                              (forceNat (Nat.add i0 j) fun r_2 =>
                                                getO H a fun o =>
                                                  oCells o fun rs n_1 z' x x_1 x_2 =>
                                                    bIf (Nat.ble (Nat.succ r_2) n_1)
                                                      (bIf (Nat.beq z z')
                                                        (Go.Ev.rowAt rs r_2 fun row =>
                                                          nthC row 0 fun w =>
                                                            bIf false
                                                              (putO H nx (varObj 39 9 [AV.int 3 0, AV.str 0 0, AV.int 3 0, AV.nil NK.s, AV.nil NK.s, AV.nil NK.s, AV.nil NK.s, AV.nil NK.s, AV.nil NK.s]) fun H =>
                                                                call 12 [TT.slot T 0, AV.int 3 3] H fun r_3 H =>
                                                                  resCase r_3
                                                                    (fun v =>
                                                                      bIf
                                                                        (bIf false true
                                                                          (getO H a fun o =>
                                                                            oCells o fun rs n z' x x_3 x_4 =>
                                                                              bIf (Nat.ble (Nat.succ r_2) n) (bIf (Nat.beq z z') (Go.Ev.rowAt rs r_2 fun row => nthC row 0 fun v => bIf (loadedEq v w) true false) false) false))
                                                                        (vInt v fun c2 b =>
                                                                          bIf true
                                                                            (bIf (Nat.beq c2 3)
                                                                              (forceNat (addN 18446744073709551616 1 b) fun r_4 =>
                                                                                bIf true
                                                                                  (cellsN w 1 fun c =>
                                                                                    bIf true
                                                                                      (appC [AV.int 3 r_4] [AV.nil NK.s, AV.nil NK.s, AV.nil NK.s, AV.nil NK.s, AV.nil NK.s, AV.nil NK.s] fun q =>
                                                                                        appC c q fun q =>
                                                                                          bIf true
                                                                                            (putO H nx (varObj 39 9 [AV.int 3 0, AV.str 0 0, AV.int 3 0, AV.nil NK.s, AV.nil NK.s, AV.nil NK.s, AV.nil NK.s, AV.nil NK.s, AV.nil NK.s]) fun H =>
                                                                                              bIf true
                                                                                                (getO H nx fun o =>
                                                                                                  oCells o fun rs n_2 z' el u ro =>
                                                                                                    bIf ro false
                                                                                                      (bIf (Nat.ble 1 n_2)
                                                                                                        (bIf (Nat.beq 9 z')
                                                                                                          (bIf true
                                                                                                            (bIf true
                                                                                                              (setRow rs 0 (AV.int 3 r :: q) fun rs =>
                                                                                                                putO H nx (AObj.cells rs n_2 9 el u ro) fun H =>
                                                                                                                  bIf
                                                                                                                    (bIf true true
                                                                                                                      (getO H a fun o =>
                                                                                                                        oCells o fun rs n z' x x_3 x_4 =>
                                                                                                                          bIf (Nat.ble (Nat.succ r_2) n)
                                                                                                                            (bIf (Nat.beq z z') (Go.Ev.rowAt rs r_2 fun row => nthC row 0 fun v => bIf (loadedEq v w) true false) false) false))
                                                                                                                    ((K6 c6x7).1 n call (TT.setSlot T 5 (AV.ptr nx 0 0 9)) H (fun T H => (K6 c6x16).1 n call T H kn kx) fun x T H =>
                                                                                                                      xCase x (fun i => bIf (Nat.beq i 1) ((K6 c6x16).1 n call T H kn kx) (kx (X.exit i) T H)) (kx X.ret T H) fun v =>
                                                                                                                        kx (X.panic v) T H)
                                                                                                                    false)
                                                                                                              false)
                                                                                                            (Go.Ev.rowAt rs 0 fun row =>
                                                                                                              takeC row 0 fun q_1 =>
                                                                                                                dropC row 9 fun w_1 =>
                                                                                                                  appC (AV.int 3 r :: q) w_1 fun w_2 =>
                                                                                                                    appC q_1 w_2 fun row =>
                                                                                                                      setRow rs 0 row fun rs =>
                                                                                                                        putO H nx (AObj.cells rs n_2 9 el u ro) fun H =>
                                                                                                                          bIf
                                                                                                                            (bIf true true
                                                                                                                              (getO H a fun o =>
                                                                                                                                oCells o fun rs n z' x x_3 x_4 =>
                                                                                                                                  bIf (Nat.ble (Nat.succ r_2) n)
                                                                                                                                    (bIf (Nat.beq z z') (Go.Ev.rowAt rs r_2 fun row => nthC row 0 fun v => bIf (loadedEq v w) true false) false)
                                                                                                                                    false))
                                                                                                                            ((K6 c6x7).1 n call (TT.setSlot T 5 (AV.ptr nx 0 0 9)) H (fun T H => (K6 c6x16).1 n call T H kn kx) fun x T H =>
                                                                                                                              xCase x (fun i => bIf (Nat.beq i 1) ((K6 c6x16).1 n call T H kn kx) (kx (X.exit i) T H)) (kx X.ret T H) fun v =>
                                                                                                                                kx (X.panic v) T H)
                                                                                                                            false))
                                                                                                          false)
                                                                                                        false))
                                                                                                false)
                                                                                            (bIf true
                                                                                              (getO H nx fun o =>
                                                                                                oCells o fun rs n_2 z' el u ro =>
                                                                                                  bIf ro false
                                                                                                    (bIf (Nat.ble 1 n_2)
                                                                                                      (bIf (Nat.beq 9 z')
                                                                                                        (bIf true
                                                                                                          (bIf true
                                                                                                            (setRow rs 0 (AV.int 3 r :: q) fun rs =>
                                                                                                              putO H nx (AObj.cells rs n_2 9 el u ro) fun H =>
                                                                                                                bIf
                                                                                                                  (bIf true true
                                                                                                                    (getO H a fun o =>
                                                                                                                      oCells o fun rs n z' x x_3 x_4 =>
                                                                                                                        bIf (Nat.ble (Nat.succ r_2) n)
                                                                                                                          (bIf (Nat.beq z z') (Go.Ev.rowAt rs r_2 fun row => nthC row 0 fun v => bIf (loadedEq v w) true false) false) false))
                                                                                                                  ((K6 c6x7).1 n call (TT.setSlot T 5 (AV.ptr nx 0 0 9)) H (fun T H => (K6 c6x16).1 n call T H kn kx) fun x T H =>
                                                                                                                    xCase x (fun i => bIf (Nat.beq i 1) ((K6 c6x16).1 n call T H kn kx) (kx (X.exit i) T H)) (kx X.ret T H) fun v =>
                                                                                                                      kx (X.panic v) T H)
                                                                                                                  false)
                                                                                                            false)
                                                                                                          (Go.Ev.rowAt rs 0 fun row =>
                                                                                                            takeC row 0 fun q_1 =>
                                                                                                              dropC row 9 fun w_1 =>
                                                                                                                appC (AV.int 3 r :: q) w_1 fun w_2 =>
                                                                                                                  appC q_1 w_2 fun row =>
                                                                                                                    setRow rs 0 row fun rs =>
                                                                                                                      putO H nx (AObj.cells rs n_2 9 el u ro) fun H =>
                                                                                                                        bIf
                                                                                                                          (bIf true true
                                                                                                                            (getO H a fun o =>
                                                                                                                              oCells o fun rs n z' x x_3 x_4 =>
                                                                                                                                bIf (Nat.ble (Nat.succ r_2) n)
                                                                                                                                  (bIf (Nat.beq z z') (Go.Ev.rowAt rs r_2 fun row => nthC row 0 fun v => bIf (loadedEq v w) true false) false)
                                                                                                                                  false))
                                                                                                                          ((K6 c6x7).1 n call (TT.setSlot T 5 (AV.ptr nx 0 0 9)) H (fun T H => (K6 c6x16).1 n call T H kn kx) fun x T H =>
                                                                                                                            xCase x (fun i => bIf (Nat.beq i 1) ((K6 c6x16).1 n call T H kn kx) (kx (X.exit i) T H)) (kx X.ret T H) fun v =>
                                                                                                                              kx (X.panic v) T H)
                                                                                                                          false))
                                                                                                        false)
                                                                                                      false))
                                                                                              false))
                                                                                      false)
                                                                                  false)
                                                                              false)
                                                                            false)
                                                                        false)
                                                                    fun v => kx (X.panic v) (TT.setSlot T 5 AV.any) H)
                                                              (call 12 [TT.slot T 0, AV.int 3 3] H fun r_3 H =>
                                                                resCase r_3
                                                                  (fun v =>
                                                                    bIf
                                                                      (bIf false true
                                                                        (getO H a fun o =>
                                                                          oCells o fun rs n z' x x_3 x_4 =>
                                                                            bIf (Nat.ble (Nat.succ r_2) n) (bIf (Nat.beq z z') (Go.Ev.rowAt rs r_2 fun row => nthC row 0 fun v => bIf (loadedEq v w) true false) false) false))
                                                                      (vInt v fun c2 b =>
                                                                        bIf true
                                                                          (bIf (Nat.beq c2 3)
                                                                            (forceNat (addN 18446744073709551616 1 b) fun r_4 =>
                                                                              bIf true
                                                                                (cellsN w 1 fun c =>
                                                                                  bIf true
                                                                                    (appC [AV.int 3 r_4] [AV.nil NK.s, AV.nil NK.s, AV.nil NK.s, AV.nil NK.s, AV.nil NK.s, AV.nil NK.s] fun q =>
                                                                                      appC c q fun q =>
                                                                                        bIf true
                                                                                          (putO H nx (varObj 39 9 [AV.int 3 0, AV.str 0 0, AV.int 3 0, AV.nil NK.s, AV.nil NK.s, AV.nil NK.s, AV.nil NK.s, AV.nil NK.s, AV.nil NK.s]) fun H =>
                                                                                            bIf true
                                                                                              (getO H nx fun o =>
                                                                                                oCells o fun rs n_2 z' el u ro =>
                                                                                                  bIf ro false
                                                                                                    (bIf (Nat.ble 1 n_2)
                                                                                                      (bIf (Nat.beq 9 z')
                                                                                                        (bIf true
                                                                                                          (bIf true
                                                                                                            (setRow rs 0 (AV.int 3 r :: q) fun rs =>
                                                                                                              putO H nx (AObj.cells rs n_2 9 el u ro) fun H =>
                                                                                                                bIf
                                                                                                                  (bIf true true
                                                                                                                    (getO H a fun o =>
                                                                                                                      oCells o fun rs n z' x x_3 x_4 =>
                                                                                                                        bIf (Nat.ble (Nat.succ r_2) n)
                                                                                                                          (bIf (Nat.beq z z') (Go.Ev.rowAt rs r_2 fun row => nthC row 0 fun v => bIf (loadedEq v w) true false) false) false))
                                                                                                                  ((K6 c6x7).1 n call (TT.setSlot T 5 (AV.ptr nx 0 0 9)) H (fun T H => (K6 c6x16).1 n call T H kn kx) fun x T H =>
                                                                                                                    xCase x (fun i => bIf (Nat.beq i 1) ((K6 c6x16).1 n call T H kn kx) (kx (X.exit i) T H)) (kx X.ret T H) fun v =>
                                                                                                                      kx (X.panic v) T H)
                                                                                                                  false)
                                                                                                            false)
                                                                                                          (Go.Ev.rowAt rs 0 fun row =>
                                                                                                            takeC row 0 fun q_1 =>
                                                                                                              dropC row 9 fun w_1 =>
                                                                                                                appC (AV.int 3 r :: q) w_1 fun w_2 =>
                                                                                                                  appC q_1 w_2 fun row =>
                                                                                                                    setRow rs 0 row fun rs =>
                                                                                                                      putO H nx (AObj.cells rs n_2 9 el u ro) fun H =>
                                                                                                                        bIf
                                                                                                                          (bIf true true
                                                                                                                            (getO H a fun o =>
                                                                                                                              oCells o fun rs n z' x x_3 x_4 =>
                                                                                                                                bIf (Nat.ble (Nat.succ r_2) n)
                                                                                                                                  (bIf (Nat.beq z z') (Go.Ev.rowAt rs r_2 fun row => nthC row 0 fun v => bIf (loadedEq v w) true false) false)
                                                                                                                                  false))
                                                                                                                          ((K6 c6x7).1 n call (TT.setSlot T 5 (AV.ptr nx 0 0 9)) H (fun T H => (K6 c6x16).1 n call T H kn kx) fun x T H =>
                                                                                                                            xCase x (fun i => bIf (Nat.beq i 1) ((K6 c6x16).1 n call T H kn kx) (kx (X.exit i) T H)) (kx X.ret T H) fun v =>
                                                                                                                              kx (X.panic v) T H)
                                                                                                                          false))
                                                                                                        false)
                                                                                                      false))
                                                                                              false)
                                                                                          (bIf true
                                                                                            (getO H nx fun o =>
                                                                                              oCells o fun rs n_2 z' el u ro =>
                                                                                                bIf ro false
                                                                                                  (bIf (Nat.ble 1 n_2)
                                                                                                    (bIf (Nat.beq 9 z')
                                                                                                      (bIf true
                                                                                                        (bIf true
                                                                                                          (setRow rs 0 (AV.int 3 r :: q) fun rs =>
                                                                                                            putO H nx (AObj.cells rs n_2 9 el u ro) fun H =>
                                                                                                              bIf
                                                                                                                (bIf true true
                                                                                                                  (getO H a fun o =>
                                                                                                                    oCells o fun rs n z' x x_3 x_4 =>
                                                                                                                      bIf (Nat.ble (Nat.succ r_2) n)
                                                                                                                        (bIf (Nat.beq z z') (Go.Ev.rowAt rs r_2 fun row => nthC row 0 fun v => bIf (loadedEq v w) true false) false) false))
                                                                                                                ((K6 c6x7).1 n call (TT.setSlot T 5 (AV.ptr nx 0 0 9)) H (fun T H => (K6 c6x16).1 n call T H kn kx) fun x T H =>
                                                                                                                  xCase x (fun i => bIf (Nat.beq i 1) ((K6 c6x16).1 n call T H kn kx) (kx (X.exit i) T H)) (kx X.ret T H) fun v =>
                                                                                                                    kx (X.panic v) T H)
                                                                                                                false)
                                                                                                          false)
                                                                                                        (Go.Ev.rowAt rs 0 fun row =>
                                                                                                          takeC row 0 fun q_1 =>
                                                                                                            dropC row 9 fun w_1 =>
                                                                                                              appC (AV.int 3 r :: q) w_1 fun w_2 =>
                                                                                                                appC q_1 w_2 fun row =>
                                                                                                                  setRow rs 0 row fun rs =>
                                                                                                                    putO H nx (AObj.cells rs n_2 9 el u ro) fun H =>
                                                                                                                      bIf
                                                                                                                        (bIf true true
                                                                                                                          (getO H a fun o =>
                                                                                                                            oCells o fun rs n z' x x_3 x_4 =>
                                                                                                                              bIf (Nat.ble (Nat.succ r_2) n)
                                                                                                                                (bIf (Nat.beq z z') (Go.Ev.rowAt rs r_2 fun row => nthC row 0 fun v => bIf (loadedEq v w) true false) false) false))
                                                                                                                        ((K6 c6x7).1 n call (TT.setSlot T 5 (AV.ptr nx 0 0 9)) H (fun T H => (K6 c6x16).1 n call T H kn kx) fun x T H =>
                                                                                                                          xCase x (fun i => bIf (Nat.beq i 1) ((K6 c6x16).1 n call T H kn kx) (kx (X.exit i) T H)) (kx X.ret T H) fun v =>
                                                                                                                            kx (X.panic v) T H)
                                                                                                                        false))
                                                                                                      false)
                                                                                                    false))
                                                                                            false))
                                                                                    false)
                                                                                false)
                                                                            false)
                                                                          false)
                                                                      false)
                                                                  fun v => kx (X.panic v) (TT.setSlot T 5 AV.any) H))
                                                        false)
                                                      false)
                                              false)
                                        false)
                                    fun v => kx (X.panic v) (TT.setSlot T 5 AV.any) H))
                            false)
                          false)
                      false)
                    false)
                false)
            fun v => kx (X.panic v) (TT.setSlot T 5 AV.any) H))
      false := by kernel_rfl
theorem c6x7_eq (n : Nat) (call : CallK) (T : TT) (H : Heap) (kn : TT → Heap → Bool) (kx : X → TT → Heap → Bool) : (K6 c6x7).f n call T H kn kx =
  call 13 [TT.slot T 0, AV.int 3 9] H fun r H => resCase r (fun v => CC.f (K6 c6x8) n call (TT.setSlot T 8 v) H (fun T H => CC.f (K6 c6x9) n call T H kn kx) kx) fun v => kx (X.panic v) T H := by kernel_rfl
theorem c6x8_eq (n : Nat) (call : CallK) (T : TT) (H : Heap) (kn : TT → Heap → Bool) (kx : X → TT → Heap → Bool) : (K6 c6x8).f n call T H kn kx =
  vBool (TT.slot T 8) fun v =>
    bIf v
      (vPtr (TT.slot T 5) fun a r s z =>
        forceNat (Nat.add s 0) fun s =>
          bIf true
            (getO H a fun o =>
              oCells o fun rs n z' el u ro =>
                bIf ro false
                  (bIf (Nat.ble (Nat.succ r) n)
                    (bIf (Nat.beq z z')
                      (bIf (Nat.beq 1 z) (bIf (Nat.beq s 0) (setRow rs r [AV.int 3 2] fun rs => putO H a (AObj.cells rs n z el u ro) fun H => kn T H) false)
                        (Go.Ev.rowAt rs r fun row => takeC row s fun q => dropC row (Nat.add s 1) fun w => appC [AV.int 3 2] w fun w => appC q w fun row => setRow rs r row fun rs => putO H a (AObj.cells rs n z el u ro) fun H => kn T H))
                      false)
                    false))
            false)
      (kn T H) := by kernel_rfl
theorem c6x9_eq (n : Nat) (call : CallK) (T : TT) (H : Heap) (kn : TT → Heap → Bool) (kx : X → TT → Heap → Bool) : (K6 c6x9).f n call T H kn kx =
  call 12 [TT.slot T 0, AV.int 3 3] H fun r H => resCase r (fun v => CC.f (K6 c6x10) n call (TT.setSlot T 6 v) H (fun T H => CC.f (K6 c6x15) n call T H kn kx) kx) fun v => kx (X.panic v) T H := by kernel_rfl
theorem c6x10_eq (n : Nat) (call : CallK) (T : TT) (H : Heap) (kn : TT → Heap → Bool) (kx : X → TT → Heap → Bool) : (K6 c6x10).f n call T H kn kx =
  loopN (fun again T H => CC.f (K6 c6x11) n call T H again fun x T H => xCase x (fun i => bIf (Nat.beq i 2) (kn T H) (kx (X.exit i) T H)) (kx X.ret T H) fun v => kx (X.panic v) T H) n T H := by kernel_rfl
theorem c6x11_eq (n : Nat) (call : CallK) (T : TT) (H : Heap) (kn : TT → Heap → Bool) (kx : X → TT → Heap → Bool) : (K6 c6x11).f n call T H kn kx =
  vInt (TT.slot T 6) fun c1 a =>
    bIf (Nat.beq c1 3) (bIf true (forceB (lssN 9223372036854775808 18446744073709551616 0 a) fun r => CC.f (K6 c6x12) n call (TT.setSlot T 9 (AV.bool r)) H (fun T H => CC.f (K6 c6x13) n call T H kn kx) kx) false) false := by kernel_rfl
theorem c6x12_eq (n : Nat) (call : CallK) (T : TT) (H : Heap) (kn : TT → Heap → Bool) (kx : X → TT → Heap → Bool) : (K6 c6x12).f n call T H kn kx =
  vBool (TT.slot T 9) fun v => bIf v (kn T H) (kx (X.exit 2) T H) := by kernel_rfl
theorem c6x13_eq (n : Nat) (call : CallK) (T : TT) (H : Heap) (kn : TT → Heap → Bool) (kx : X → TT → Heap → Bool) : (K6 c6x13).f n call T H kn kx =
  vPtr (TT.slot T 5) fun a r s z =>
    forceNat (Nat.add s 3) fun s =>
      getO H a fun o =>
        oCells o fun rs n_1 z' x x_1 x_2 =>
          bIf (Nat.ble (Nat.succ r) n_1)
            (bIf (Nat.beq z z')
              (Go.Ev.rowAt rs r fun row =>
                nthC row s fun w =>
                  call 12 [TT.slot T 0, AV.int 3 5] H fun r_1 H =>
                    resCase r_1
                      (fun v =>
                        bIf
                          (bIf (Nat.beq (Nat.land (Nat.shiftRight 8 1) 1) 1) true
                            (getO H a fun o => oCells o fun rs n z' x x_3 x_4 => bIf (Nat.ble (Nat.succ r) n) (bIf (Nat.beq z z') (Go.Ev.rowAt rs r fun row => nthC row s fun v => bIf (loadedEq v w) true false) false) false))
                          (vSlice (TT.slot T 3) fun a_1 i0 l c u z_1 =>
                            asIdx v l fun j =>
                              bIf (Nat.beq z_1 1)
                                (forceNat (Nat.add i0 j) fun r_2 =>
                                  getO H a_1 fun o =>
                                    oCells o fun rs n_2 z' x x_3 x_4 =>
                                      bIf (Nat.ble (Nat.succ r_2) n_2)
                                        (bIf (Nat.beq z_1 z')
                                          (Go.Ev.rowAt rs r_2 fun row =>
                                            nthC row 0 fun w_1 =>
                                              call 12 [TT.slot T 0, AV.int 3 2] H fun r_3 H =>
                                                resCase r_3
                                                  (fun v =>
                                                    bIf
                                                      (bIf (Nat.beq (Nat.land (Nat.shiftRight 152 6) 1) 1) (rdsOk 152 H [Rd.mk 1 (AV.ptr a r s z) (Cld.mk fun p H k => rowOf p H fun s z row => nthC row s k) w])
                                                        (getO H a_1 fun o =>
                                                          oCells o fun rs n z' x x_5 x_6 =>
                                                            bIf (Nat.ble (Nat.succ r_2) n)
                                                              (bIf (Nat.beq z_1 z')
                                                                (Go.Ev.rowAt rs r_2 fun row => nthC row 0 fun v => bIf (loadedEq v w_1) (rdsOk 152 H [Rd.mk 1 (AV.ptr a r s z) (Cld.mk fun p H k => rowOf p H fun s z row => nthC row s k) w]) false)
                                                                false)
                                                              false))
                                                      (vInt v fun c2 b =>
                                                        bIf true
                                                          (bIf (Nat.beq c2 3)
                                                            (forceNat (addN 18446744073709551616 1 b) fun r_4 =>
                                                              cellsN w_1 1 fun c =>
                                                                bIf true
                                                                  (appC [AV.int 3 r_4] [] fun q =>
                                                                    appC c q fun l =>
                                                                      bIf true
                                                                        (putRows [l] (Rows.r0 []) 0 fun rs =>
                                                                          hCase H fun nx t =>
                                                                            bIf (Nat.ble (Nat.succ nx) 32768)
                                                                              (bIf (Nat.beq (Nat.land (Nat.shiftRight 4095 11) 1) 1)
                                                                                (putO (Heap.mk (Nat.succ nx) t) nx (AObj.cells rs 1 2 41 false false) fun H =>
                                                                                  srcRows 2 (AV.slice nx 0 1 1 false 2) H fun m l =>
                                                                                    appendTo 41 2 24 w m l H fun v H =>
                                                                                      bIf
                                                                                        (rdsOk 4095 H
                                                                                          [Rd.mk 6 (AV.ptr a_1 r_2 0 z_1) (Cld.mk fun p H k => rowOf p H fun s z row => nthC row s k) w_1,
                                                                                            Rd.mk 1 (AV.ptr a r s z) (Cld.mk fun p H k => rowOf p H fun s z row => nthC row s k) w])
                                                                                        (vPtr (TT.slot T 5) fun a r s z =>
                                                                                          forceNat (Nat.add s 3) fun s =>
                                                                                            cellsN v 1 fun c =>
                                                                                              getO H a fun o =>
                                                                                                oCells o fun rs n_3 z' el u ro =>
                                                                                                  bIf ro false
                                                                                                    (bIf (Nat.ble (Nat.succ r) n_3)
                                                                                                      (bIf (Nat.beq z z')
                                                                                                        (bIf (Nat.beq 1 z)
                                                                                                          (bIf (Nat.beq s 0) (setRow rs r c fun rs => putO H a (AObj.cells rs n_3 z el u ro) fun H => (K6 c6x14).1 n call T H kn kx) false)
                                                                                                          (Go.Ev.rowAt rs r fun row =>
                                                                                                            takeC row s fun q =>
                                                                                                              dropC row (Nat.add s 1) fun w =>
                                                                                                                appC c w fun w =>
                                                                                                                  appC q w fun row => setRow rs r row fun rs => putO H a (AObj.cells rs n_3 z el u ro) fun H => (K6 c6x14).1 n call T H kn kx))
                                                                                                        false)
                                                                                                      false))
                                                                                        false)
                                                                                (srcRows 2 (AV.slice nx 0 1 1 false 2) (Heap.mk (Nat.succ nx) t) fun m l =>
                                                                                  appendTo 41 2 24 w m l (Heap.mk (Nat.succ nx) t) fun v H =>
                                                                                    bIf
                                                                                      (rdsOk 4095 H
                                                                                        [Rd.mk 6 (AV.ptr a_1 r_2 0 z_1) (Cld.mk fun p H k => rowOf p H fun s z row => nthC row s k) w_1,
                                                                                          Rd.mk 1 (AV.ptr a r s z) (Cld.mk fun p H k => rowOf p H fun s z row => nthC row s k) w])
                                                                                      (vPtr (TT.slot T 5) fun a r s z =>
                                                                                        forceNat (Nat.add s 3) fun s =>
                                                                                          cellsN v 1 fun c =>
                                                                                            getO H a fun o =>
                                                                                              oCells o fun rs n_3 z' el u ro =>
                                                                                                bIf ro false
                                                                                                  (bIf (Nat.ble (Nat.succ r) n_3)
                                                                                                    (bIf (Nat.beq z z')
                                                                                                      (bIf (Nat.beq 1 z)
                                                                                                        (bIf (Nat.beq s 0) (setRow rs r c fun rs => putO H a (AObj.cells rs n_3 z el u ro) fun H => (K6 c6x14).1 n call T H kn kx) false)
                                                                                                        (Go.Ev.rowAt rs r fun row =>
                                                                                                          takeC row s fun q =>
                                                                                                            dropC row (Nat.add s 1) fun w =>
                                                                                                              appC c w fun w =>
                                                                                                                appC q w fun row => setRow rs r row fun rs => putO H a (AObj.cells rs n_3 z el u ro) fun H => (K6 c6x14).1 n call T H kn kx))
                                                                                                      false)
                                                                                                    false))
                                                                                      false))
                                                                              false)
                                                                        false)
                                                                  false)
                                                            false)
                                                          false)
                                                      false)
                                                  fun v => kx (X.panic v) T H)
                                          false)
                                        false)
                                false)
                          false)
                      fun v => kx (X.panic v) T H)
              false)
            false := by kernel_rfl
theorem c6x14_eq (n : Nat) (call : CallK) (T : TT) (H : Heap) (kn : TT → Heap → Bool) (kx : X → TT → Heap → Bool) : (K6 c6x14).f n call T H kn kx =
  vInt (TT.slot T 6) fun c1 a => bIf (Nat.beq c1 3) (bIf true (forceNat (subN 18446744073709551616 a 1) fun r => kn (TT.setSlot T 6 (AV.int 3 r)) H) false) false := by kernel_rfl
theorem c6x15_eq (n : Nat) (call : CallK) (T : TT) (H : Heap) (kn : TT → Heap → Bool) (kx : X → TT → Heap → Bool) : (K6 c6x15).f n call T H kn kx =
  rowOf (TT.slot T 5) H fun s z row =>
    bIf (Nat.beq 9 z)
      (bIf (Nat.beq s 0)
        (bIf true (putRows [row] (Rows.r0 []) 0 fun rs => newO H (AObj.cells rs 1 9 39 false false) fun a H => srcRows 9 (AV.slice a 0 1 1 false 9) H fun m l => appendTo 39 9 176 (TT.slot T 2) m l H fun v H => kn (TT.setSlot T 2 v) H) false)
        false)
      (dropC row s fun q =>
        takeC q 9 fun q =>
          bIf true (putRows [q] (Rows.r0 []) 0 fun rs => newO H (AObj.cells rs 1 9 39 false false) fun a H => srcRows 9 (AV.slice a 0 1 1 false 9) H fun m l => appendTo 39 9 176 (TT.slot T 2) m l H fun v H => kn (TT.setSlot T 2 v) H) false) := by kernel_rfl
theorem c6x16_eq (n : Nat) (call : CallK) (T : TT) (H : Heap) (kn : TT → Heap → Bool) (kx : X → TT → Heap → Bool) : (K6 c6x16).f n call T H kn kx =
  vInt (TT.slot T 4) fun c1 a => bIf (Nat.beq c1 3) (bIf true (forceNat (subN 18446744073709551616 a 1) fun r => kn (TT.setSlot T 4 (AV.int 3 r)) H) false) false := by kernel_rfl
theorem c6x17_eq (n : Nat) (call : CallK) (T : TT) (H : Heap) (kn : TT → Heap → Bool) (kx : X → TT → Heap → Bool) : (K6 c6x17).f n call T H kn kx =
  kx X.ret (TT.setSlot T 1 (TT.slot T 2)) H := by kernel_rfl
theorem e6_eq (n : Nat) (call : CallK) (args : List AV) (H : Heap) (k : Res → Heap → Bool) : (cfn (pgF Tryz.prog) Go.Sp.E0 Go.Sp.extS 6).f n call args H k =
  lenC args 1 (initT args fun T => CC.f (K6 b6) n call T H (fun T H => noDs T (k (Res.val (TT.slot T 1)) H)) fun x T H => xCase x (fun x => false) (noDs T (k (Res.val (TT.slot T 1)) H)) fun v => noDs T (k (Res.pan v) H)) := by kernel_rfl
end Go.Sp
