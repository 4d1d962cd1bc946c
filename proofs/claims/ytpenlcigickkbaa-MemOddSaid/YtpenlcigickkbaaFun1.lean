/- The program's functions as plain terms, each with its equation; printed by wip/am/fun.py. -/
import Derived.Test.YtpenlcigickkbaaFunK
namespace Go.Proofs.Ytpenlcigickkbaa.Fun
open Go.RowKit Go.Proofs.YtpenlcigickkbaaA.Am
set_option linter.unusedVariables false
set_option maxRecDepth 10000
noncomputable def F15_j0 (C : Oracle) (n : Nat) (vs : List Value) (H : Heap) : Option (Value × Heap) :=
  bnd (some ((sl [0, 1, 4, 5, 10] vs 5), H)) fun x5 H =>
  bnd (some (x5, H)) fun x6 H =>
  some (x6, H)

noncomputable def F15_j0v (C : Oracle) (n : Nat) (v0 v1 v4 v5 v10 : Value) (H : Heap) : Option (Value × Heap) :=
  bnd (some (v5, H)) fun x5 H =>
  bnd (some (x5, H)) fun x6 H =>
  some (x6, H)

theorem F15_j0_v (C : Oracle) (n : Nat) (v0 v1 v4 v5 v10 : Value) (H : Heap) : F15_j0 C n [v0, v1, v4, v5, v10] H = F15_j0v C n v0 v1 v4 v5 v10 H := by
  kernel_rfl

noncomputable def F15 (C : Oracle) (n : Nat) (a0 a1 : Value) (H : Heap) : Option (Value × Heap) :=
  bnd (some ((Value.int .i64 (0)), H)) fun x0 H =>
  bnd (some (a0, H)) fun x1 H =>
  bnd (some (a1, H)) fun x2 H =>
  bnd (pS (abin Try.prog .rem 3 x1 x2) H) fun x3 H =>
  bnd (some (x3, H)) fun x4 H =>
  bnd (some (x4, H)) fun x7 H =>
  bnd (pS (abin Try.prog .lss 3 x7 (Value.int .i64 (0))) H) fun x8 H =>
  brB x8 (bnd (some (x4, H)) fun x9 H =>
  bnd (some (a1, H)) fun x10 H =>
  bnd (pS (abin Try.prog .add 3 x9 x10) H) fun x11 H =>
  bnd (some (x11, H)) fun x12 H =>
  F15_j0 C n [a0, a1, x0, x12, x8] H) (
  F15_j0 C n [a0, a1, x0, x4, x8] H)

theorem F15_eq (G : Oracle) (n : Nat) (a0 a1 : Value) (H : Heap) : run G (n + 1) 15 [a0, a1] H = F15 (run G n) n a0 a1 H := by
  unfold run; rw [acall_k (fn := Try.f15) (keep := [0, 1, 4, 5, 10]) (notBad 15 rfl) (by kernel_rfl) (by kernel_rfl)]
  kernel_rfl

noncomputable def F18 (C : Oracle) (n : Nat) (a0 a1 : Value) (H : Heap) : Option (Value × Heap) :=
  bnd (some ((Value.int .i64 (0)), H)) fun x0 H =>
  bnd (some (a0, H)) fun x1 H =>
  bnd (some (a1, H)) fun x2 H =>
  bnd (C 66 [x1, x2] H) fun x3 H =>
  bnd (some (x3, H)) fun x4 H =>
  bnd (some (x4, H)) fun x5 H =>
  bnd (pS (abin Try.prog .eql 81 x5 (Value.pointer none)) H) fun x6 H =>
  brB x6 (bnd (some ((Value.int .i64 (0)), H)) fun x7 H =>
  some (x7, H)) (
  bnd (some (x4, H)) fun x8 H =>
  bnd (nckS x8 H) fun x9 H =>
  bnd (pS (ld1 x9 H) H) fun x10 H =>
  bnd (some (x10, H)) fun x11 H =>
  some (x11, H))

theorem F18_eq (G : Oracle) (n : Nat) (a0 a1 : Value) (H : Heap) : run G (n + 1) 18 [a0, a1] H = F18 (run G n) n a0 a1 H := by
  unfold run; rw [acall_k (fn := Try.f18) (keep := [0, 1, 4, 5, 10]) (notBad 18 rfl) (by kernel_rfl) (by kernel_rfl)]
  kernel_rfl

noncomputable def F21 (C : Oracle) (n : Nat) (a0 : Value) (H : Heap) : Option (Value × Heap) :=
  bnd (some ((Value.int .i64 (0)), H)) fun x0 H =>
  bnd (some (a0, H)) fun x1 H =>
  bnd (nckS x1 H) fun x2 H =>
  bnd (fadS 3 x2 H) fun x3 H =>
  bnd (pS (ld1 x3 H) H) fun x4 H =>
  bnd (some (x4, H)) fun x5 H =>
  some (x5, H)

theorem F21_eq (G : Oracle) (n : Nat) (a0 : Value) (H : Heap) : run G (n + 1) 21 [a0] H = F21 (run G n) n a0 H := by
  unfold run; rw [acall_k (fn := Try.f21) (keep := [0, 2]) (notBad 21 rfl) (by kernel_rfl) (by kernel_rfl)]
  kernel_rfl

noncomputable def F48 (C : Oracle) (n : Nat) (a0 a1 : Value) (H : Heap) : Option (Value × Heap) :=
  bnd (some ((Value.int .i64 (0)), H)) fun x0 H =>
  bnd (some (a0, H)) fun x1 H =>
  bnd (C 76 [x1] H) fun x2 H =>
  bnd (pS (aun .not x2) H) fun x3 H =>
  bnd (some (x3, H)) fun x4 H =>
  bnd (gd (wantV x4 false) (some (a1, H)) H) fun x5 H =>
  bnd (gd (wantV x4 false) (C 76 [x5] H) H) fun x6 H =>
  bnd (gd (wantV x4 false) (pS (aun .not x6) H) H) fun x7 H =>
  bnd (pickS x4 (Value.bool true) x7 H) fun x8 H =>
  brB x8 (bnd (some ((Value.int .i64 (0)), H)) fun x9 H =>
  some (x9, H)) (
  bnd (some (a0, H)) fun x10 H =>
  bnd (pS (abin Try.prog .add 3 x10 (Value.int .i64 (4))) H) fun x11 H =>
  bnd (some (a1, H)) fun x12 H =>
  bnd (pS (abin Try.prog .add 3 x11 x12) H) fun x13 H =>
  bnd (some (x13, H)) fun x14 H =>
  some (x14, H))

theorem F48_eq (G : Oracle) (n : Nat) (a0 a1 : Value) (H : Heap) : run G (n + 1) 48 [a0, a1] H = F48 (run G n) n a0 a1 H := by
  unfold run; rw [acall_k (fn := Try.f48) (keep := [0, 1, 4, 12]) (notBad 48 rfl) (by kernel_rfl) (by kernel_rfl)]
  kernel_rfl

noncomputable def F51 (C : Oracle) (n : Nat) (a0 : Value) (H : Heap) : Option (Value × Heap) :=
  bnd (some ((Value.bool false), H)) fun x0 H =>
  bnd (some (a0, H)) fun x1 H =>
  bnd (C 20 [x1] H) fun x2 H =>
  bnd (pS (abin Try.prog .neq 3 x2 (Value.int .i64 (0))) H) fun x3 H =>
  bnd (some (x3, H)) fun x4 H =>
  bnd (gd (wantV x4 false) (some (a0, H)) H) fun x5 H =>
  bnd (gd (wantV x4 false) (C 35 [x5] H) H) fun x6 H =>
  bnd (gd (wantV x4 false) (pS (abin Try.prog .lss 3 x6 (Value.int .i64 (7))) H) H) fun x7 H =>
  bnd (pickS x4 (Value.bool true) x7 H) fun x8 H =>
  brB x8 (bnd (some ((Value.bool false), H)) fun x9 H =>
  some (x9, H)) (
  bnd (some (a0, H)) fun x10 H =>
  bnd (C 55 [(Value.int .i64 (1)), (Value.int .i64 (7))] H) fun x11 H =>
  bnd (abuildSlice Try.prog 28 1 [(0, x11)] H) fun x12 H =>
  bnd (C 37 [(Value.int .i64 (0)), (Value.slice none 0 0), x12] H) fun x13 H =>
  bnd (C 17 [x10, x13] H) fun x14 H =>
  bnd (some (a0, H)) fun x15 H =>
  bnd (C 40 [] H) fun x16 H =>
  bnd (C 17 [x15, x16] H) fun x17 H =>
  bnd (some ((Value.bool true), H)) fun x18 H =>
  some (x18, H))

theorem F51_eq (G : Oracle) (n : Nat) (a0 : Value) (H : Heap) : run G (n + 1) 51 [a0] H = F51 (run G n) n a0 H := by
  unfold run; rw [acall_k (fn := Try.f51) (keep := [0, 2, 10]) (notBad 51 rfl) (by kernel_rfl) (by kernel_rfl)]
  kernel_rfl

noncomputable def F56 (C : Oracle) (n : Nat) (a0 : Value) (H : Heap) : Option (Value × Heap) :=
  bnd (some ((Value.pointer none), H)) fun x0 H =>
  bnd (some (a0, H)) fun x1 H =>
  bnd (pS (abuild Try.prog 93 [(1, x1)]) H) fun x2 H =>
  bnd (boxS 93 x2 H) fun x3 H =>
  bnd (some (x3, H)) fun x4 H =>
  some (x4, H)

theorem F56_eq (G : Oracle) (n : Nat) (a0 : Value) (H : Heap) : run G (n + 1) 56 [a0] H = F56 (run G n) n a0 H := by
  unfold run; rw [acall_k (fn := Try.f56) (keep := [0, 2]) (notBad 56 rfl) (by kernel_rfl) (by kernel_rfl)]
  kernel_rfl

noncomputable def F59 (C : Oracle) (n : Nat) (a0 a1 a2 a3 : Value) (H : Heap) : Option (Value × Heap) :=
  bnd (some ((Value.pointer none), H)) fun x0 H =>
  bnd (some (a0, H)) fun x1 H =>
  bnd (some (a1, H)) fun x2 H =>
  bnd (some (a2, H)) fun x3 H =>
  bnd (some (a3, H)) fun x4 H =>
  bnd (pS (abuild Try.prog 95 [(1, x1), (2, x2), (3, x3), (4, x4)]) H) fun x5 H =>
  bnd (boxS 95 x5 H) fun x6 H =>
  bnd (some (x6, H)) fun x7 H =>
  some (x7, H)

theorem F59_eq (G : Oracle) (n : Nat) (a0 a1 a2 a3 : Value) (H : Heap) : run G (n + 1) 59 [a0, a1, a2, a3] H = F59 (run G n) n a0 a1 a2 a3 H := by
  unfold run; rw [acall_k (fn := Try.f59) (keep := [0, 1, 2, 3, 8]) (notBad 59 rfl) (by kernel_rfl) (by kernel_rfl)]
  kernel_rfl

noncomputable def F63 (C : Oracle) (n : Nat) (a0 a1 : Value) (H : Heap) : Option (Value × Heap) :=
  bnd (some ((Value.slice none 0 0), H)) fun x0 H =>
  bnd (some (a0, H)) fun x1 H =>
  bnd (pS (slen x1) H) fun x2 H =>
  bnd (some (a1, H)) fun x3 H =>
  bnd (pS (abin Try.prog .gtr 3 x2 x3) H) fun x4 H =>
  brB x4 (bnd (some (a0, H)) fun x5 H =>
  bnd (some (a1, H)) fun x6 H =>
  bnd (pS (scut 1 H x5 none (some x6)) H) fun x7 H =>
  bnd (some (x7, H)) fun x8 H =>
  some (x8, H)) (
  bnd (some (a0, H)) fun x9 H =>
  bnd (some (x9, H)) fun x10 H =>
  some (x10, H))

theorem F63_eq (G : Oracle) (n : Nat) (a0 a1 : Value) (H : Heap) : run G (n + 1) 63 [a0, a1] H = F63 (run G n) n a0 a1 H := by
  unfold run; rw [acall_k (fn := Try.f63) (keep := [0, 1, 4, 8]) (notBad 63 rfl) (by kernel_rfl) (by kernel_rfl)]
  kernel_rfl

noncomputable def F74_j1 (C : Oracle) (n : Nat) (vs : List Value) (H : Heap) : AOut :=
  bnd (pS (abin Try.prog .add 3 (sl [0, 2, 11, 10, 12, 9, 3, 5, 20, 27, 26, 28, 25, 6, 8] vs 11) (Value.int .i64 (1))) H) fun x6 H =>
  bnd (some (x6, H)) fun x7 H =>
  fin .normal [(sl [0, 2, 11, 10, 12, 9, 3, 5, 20, 27, 26, 28, 25, 6, 8] vs 0), (sl [0, 2, 11, 10, 12, 9, 3, 5, 20, 27, 26, 28, 25, 6, 8] vs 2), x7, (sl [0, 2, 11, 10, 12, 9, 3, 5, 20, 27, 26, 28, 25, 6, 8] vs 10), (sl [0, 2, 11, 10, 12, 9, 3, 5, 20, 27, 26, 28, 25, 6, 8] vs 12), (sl [0, 2, 11, 10, 12, 9, 3, 5, 20, 27, 26, 28, 25, 6, 8] vs 9), (sl [0, 2, 11, 10, 12, 9, 3, 5, 20, 27, 26, 28, 25, 6, 8] vs 3), (sl [0, 2, 11, 10, 12, 9, 3, 5, 20, 27, 26, 28, 25, 6, 8] vs 5), (sl [0, 2, 11, 10, 12, 9, 3, 5, 20, 27, 26, 28, 25, 6, 8] vs 20), (sl [0, 2, 11, 10, 12, 9, 3, 5, 20, 27, 26, 28, 25, 6, 8] vs 27), (sl [0, 2, 11, 10, 12, 9, 3, 5, 20, 27, 26, 28, 25, 6, 8] vs 26), (sl [0, 2, 11, 10, 12, 9, 3, 5, 20, 27, 26, 28, 25, 6, 8] vs 28), (sl [0, 2, 11, 10, 12, 9, 3, 5, 20, 27, 26, 28, 25, 6, 8] vs 25), (sl [0, 2, 11, 10, 12, 9, 3, 5, 20, 27, 26, 28, 25, 6, 8] vs 6), (sl [0, 2, 11, 10, 12, 9, 3, 5, 20, 27, 26, 28, 25, 6, 8] vs 8)] H

noncomputable def F74_j1v (C : Oracle) (n : Nat) (v0 v2 v11 v10 v12 v9 v3 v5 v20 v27 v26 v28 v25 v6 v8 : Value) (H : Heap) : AOut :=
  bnd (pS (abin Try.prog .add 3 v11 (Value.int .i64 (1))) H) fun x6 H =>
  bnd (some (x6, H)) fun x7 H =>
  fin .normal [v0, v2, x7, v10, v12, v9, v3, v5, v20, v27, v26, v28, v25, v6, v8] H

theorem F74_j1_v (C : Oracle) (n : Nat) (v0 v2 v11 v10 v12 v9 v3 v5 v20 v27 v26 v28 v25 v6 v8 : Value) (H : Heap) : F74_j1 C n [v0, v2, v11, v10, v12, v9, v3, v5, v20, v27, v26, v28, v25, v6, v8] H = F74_j1v C n v0 v2 v11 v10 v12 v9 v3 v5 v20 v27 v26 v28 v25 v6 v8 H := by
  kernel_rfl

noncomputable def F74_b0 (C : Oracle) (n : Nat) (vs : List Value) (H : Heap) : AOut :=
  bnd (pS (abin Try.prog .lss 3 (sl [0, 2, 11, 10, 12, 9, 3, 5, 20, 27, 26, 28, 25, 6, 8] vs 11) (sl [0, 2, 11, 10, 12, 9, 3, 5, 20, 27, 26, 28, 25, 6, 8] vs 10)) H) fun x5 H =>
  brB x5 (bnd (iadS 1 (sl [0, 2, 11, 10, 12, 9, 3, 5, 20, 27, 26, 28, 25, 6, 8] vs 9) (sl [0, 2, 11, 10, 12, 9, 3, 5, 20, 27, 26, 28, 25, 6, 8] vs 11) H) fun x8 H =>
  bnd (pS (ld1 x8 H) H) fun x9 H =>
  bnd (some (x9, H)) fun x10 H =>
  bnd (some ((sl [0, 2, 11, 10, 12, 9, 3, 5, 20, 27, 26, 28, 25, 6, 8] vs 3), H)) fun x11 H =>
  bnd (some (x10, H)) fun x12 H =>
  bnd (pS (slen x12) H) fun x13 H =>
  bnd (pS (abin Try.prog .add 3 x11 x13) H) fun x14 H =>
  bnd (some (x14, H)) fun x15 H =>
  bnd (some (x15, H)) fun x16 H =>
  bnd (pS (abin Try.prog .lss 3 x16 (Value.int .i64 (0))) H) fun x17 H =>
  brB x17 (bnd (none) fun x18 H =>
  bnd (none) fun x19 H =>
  F74_j1 C n [(sl [0, 2, 11, 10, 12, 9, 3, 5, 20, 27, 26, 28, 25, 6, 8] vs 0), (sl [0, 2, 11, 10, 12, 9, 3, 5, 20, 27, 26, 28, 25, 6, 8] vs 2), (sl [0, 2, 11, 10, 12, 9, 3, 5, 20, 27, 26, 28, 25, 6, 8] vs 11), (sl [0, 2, 11, 10, 12, 9, 3, 5, 20, 27, 26, 28, 25, 6, 8] vs 10), x5, (sl [0, 2, 11, 10, 12, 9, 3, 5, 20, 27, 26, 28, 25, 6, 8] vs 9), x15, x10, x17, (sl [0, 2, 11, 10, 12, 9, 3, 5, 20, 27, 26, 28, 25, 6, 8] vs 27), (sl [0, 2, 11, 10, 12, 9, 3, 5, 20, 27, 26, 28, 25, 6, 8] vs 26), (sl [0, 2, 11, 10, 12, 9, 3, 5, 20, 27, 26, 28, 25, 6, 8] vs 28), (sl [0, 2, 11, 10, 12, 9, 3, 5, 20, 27, 26, 28, 25, 6, 8] vs 25), (sl [0, 2, 11, 10, 12, 9, 3, 5, 20, 27, 26, 28, 25, 6, 8] vs 6), (sl [0, 2, 11, 10, 12, 9, 3, 5, 20, 27, 26, 28, 25, 6, 8] vs 8)] H) (
  F74_j1 C n [(sl [0, 2, 11, 10, 12, 9, 3, 5, 20, 27, 26, 28, 25, 6, 8] vs 0), (sl [0, 2, 11, 10, 12, 9, 3, 5, 20, 27, 26, 28, 25, 6, 8] vs 2), (sl [0, 2, 11, 10, 12, 9, 3, 5, 20, 27, 26, 28, 25, 6, 8] vs 11), (sl [0, 2, 11, 10, 12, 9, 3, 5, 20, 27, 26, 28, 25, 6, 8] vs 10), x5, (sl [0, 2, 11, 10, 12, 9, 3, 5, 20, 27, 26, 28, 25, 6, 8] vs 9), x15, x10, x17, (sl [0, 2, 11, 10, 12, 9, 3, 5, 20, 27, 26, 28, 25, 6, 8] vs 27), (sl [0, 2, 11, 10, 12, 9, 3, 5, 20, 27, 26, 28, 25, 6, 8] vs 26), (sl [0, 2, 11, 10, 12, 9, 3, 5, 20, 27, 26, 28, 25, 6, 8] vs 28), (sl [0, 2, 11, 10, 12, 9, 3, 5, 20, 27, 26, 28, 25, 6, 8] vs 25), (sl [0, 2, 11, 10, 12, 9, 3, 5, 20, 27, 26, 28, 25, 6, 8] vs 6), (sl [0, 2, 11, 10, 12, 9, 3, 5, 20, 27, 26, 28, 25, 6, 8] vs 8)] H)) (
  fin (.exit 0) [(sl [0, 2, 11, 10, 12, 9, 3, 5, 20, 27, 26, 28, 25, 6, 8] vs 0), (sl [0, 2, 11, 10, 12, 9, 3, 5, 20, 27, 26, 28, 25, 6, 8] vs 2), (sl [0, 2, 11, 10, 12, 9, 3, 5, 20, 27, 26, 28, 25, 6, 8] vs 11), (sl [0, 2, 11, 10, 12, 9, 3, 5, 20, 27, 26, 28, 25, 6, 8] vs 10), x5, (sl [0, 2, 11, 10, 12, 9, 3, 5, 20, 27, 26, 28, 25, 6, 8] vs 9), (sl [0, 2, 11, 10, 12, 9, 3, 5, 20, 27, 26, 28, 25, 6, 8] vs 3), (sl [0, 2, 11, 10, 12, 9, 3, 5, 20, 27, 26, 28, 25, 6, 8] vs 5), (sl [0, 2, 11, 10, 12, 9, 3, 5, 20, 27, 26, 28, 25, 6, 8] vs 20), (sl [0, 2, 11, 10, 12, 9, 3, 5, 20, 27, 26, 28, 25, 6, 8] vs 27), (sl [0, 2, 11, 10, 12, 9, 3, 5, 20, 27, 26, 28, 25, 6, 8] vs 26), (sl [0, 2, 11, 10, 12, 9, 3, 5, 20, 27, 26, 28, 25, 6, 8] vs 28), (sl [0, 2, 11, 10, 12, 9, 3, 5, 20, 27, 26, 28, 25, 6, 8] vs 25), (sl [0, 2, 11, 10, 12, 9, 3, 5, 20, 27, 26, 28, 25, 6, 8] vs 6), (sl [0, 2, 11, 10, 12, 9, 3, 5, 20, 27, 26, 28, 25, 6, 8] vs 8)] H)

noncomputable def F74_b0v (C : Oracle) (n : Nat) (v0 v2 v11 v10 v12 v9 v3 v5 v20 v27 v26 v28 v25 v6 v8 : Value) (H : Heap) : AOut :=
  bnd (pS (abin Try.prog .lss 3 v11 v10) H) fun x5 H =>
  brB x5 (bnd (iadS 1 v9 v11 H) fun x8 H =>
  bnd (pS (ld1 x8 H) H) fun x9 H =>
  bnd (some (x9, H)) fun x10 H =>
  bnd (some (v3, H)) fun x11 H =>
  bnd (some (x10, H)) fun x12 H =>
  bnd (pS (slen x12) H) fun x13 H =>
  bnd (pS (abin Try.prog .add 3 x11 x13) H) fun x14 H =>
  bnd (some (x14, H)) fun x15 H =>
  bnd (some (x15, H)) fun x16 H =>
  bnd (pS (abin Try.prog .lss 3 x16 (Value.int .i64 (0))) H) fun x17 H =>
  brB x17 (bnd (none) fun x18 H =>
  bnd (none) fun x19 H =>
  F74_j1 C n [v0, v2, v11, v10, x5, v9, x15, x10, x17, v27, v26, v28, v25, v6, v8] H) (
  F74_j1 C n [v0, v2, v11, v10, x5, v9, x15, x10, x17, v27, v26, v28, v25, v6, v8] H)) (
  fin (.exit 0) [v0, v2, v11, v10, x5, v9, v3, v5, v20, v27, v26, v28, v25, v6, v8] H)

theorem F74_b0_v (C : Oracle) (n : Nat) (v0 v2 v11 v10 v12 v9 v3 v5 v20 v27 v26 v28 v25 v6 v8 : Value) (H : Heap) : F74_b0 C n [v0, v2, v11, v10, v12, v9, v3, v5, v20, v27, v26, v28, v25, v6, v8] H = F74_b0v C n v0 v2 v11 v10 v12 v9 v3 v5 v20 v27 v26 v28 v25 v6 v8 H := by
  kernel_rfl

noncomputable def F74_b3 (C : Oracle) (n : Nat) (vs : List Value) (H : Heap) : AOut :=
  bnd (pS (abin Try.prog .lss 3 (sl [0, 2, 11, 10, 12, 9, 3, 5, 20, 27, 26, 28, 25, 6, 8] vs 27) (sl [0, 2, 11, 10, 12, 9, 3, 5, 20, 27, 26, 28, 25, 6, 8] vs 26)) H) fun x26 H =>
  brB x26 (bnd (iadS 1 (sl [0, 2, 11, 10, 12, 9, 3, 5, 20, 27, 26, 28, 25, 6, 8] vs 25) (sl [0, 2, 11, 10, 12, 9, 3, 5, 20, 27, 26, 28, 25, 6, 8] vs 27) H) fun x27 H =>
  bnd (pS (ld1 x27 H) H) fun x28 H =>
  bnd (some (x28, H)) fun x29 H =>
  bnd (some ((sl [0, 2, 11, 10, 12, 9, 3, 5, 20, 27, 26, 28, 25, 6, 8] vs 6), H)) fun x30 H =>
  bnd (some (x29, H)) fun x31 H =>
  bnd (appS 2 1 8 x30 x31 H) fun x32 H =>
  bnd (some (x32, H)) fun x33 H =>
  bnd (pS (abin Try.prog .add 3 (sl [0, 2, 11, 10, 12, 9, 3, 5, 20, 27, 26, 28, 25, 6, 8] vs 27) (Value.int .i64 (1))) H) fun x34 H =>
  bnd (some (x34, H)) fun x35 H =>
  fin .normal [(sl [0, 2, 11, 10, 12, 9, 3, 5, 20, 27, 26, 28, 25, 6, 8] vs 0), (sl [0, 2, 11, 10, 12, 9, 3, 5, 20, 27, 26, 28, 25, 6, 8] vs 2), (sl [0, 2, 11, 10, 12, 9, 3, 5, 20, 27, 26, 28, 25, 6, 8] vs 11), (sl [0, 2, 11, 10, 12, 9, 3, 5, 20, 27, 26, 28, 25, 6, 8] vs 10), (sl [0, 2, 11, 10, 12, 9, 3, 5, 20, 27, 26, 28, 25, 6, 8] vs 12), (sl [0, 2, 11, 10, 12, 9, 3, 5, 20, 27, 26, 28, 25, 6, 8] vs 9), (sl [0, 2, 11, 10, 12, 9, 3, 5, 20, 27, 26, 28, 25, 6, 8] vs 3), (sl [0, 2, 11, 10, 12, 9, 3, 5, 20, 27, 26, 28, 25, 6, 8] vs 5), (sl [0, 2, 11, 10, 12, 9, 3, 5, 20, 27, 26, 28, 25, 6, 8] vs 20), x35, (sl [0, 2, 11, 10, 12, 9, 3, 5, 20, 27, 26, 28, 25, 6, 8] vs 26), x26, (sl [0, 2, 11, 10, 12, 9, 3, 5, 20, 27, 26, 28, 25, 6, 8] vs 25), x33, x29] H) (
  fin (.exit 2) [(sl [0, 2, 11, 10, 12, 9, 3, 5, 20, 27, 26, 28, 25, 6, 8] vs 0), (sl [0, 2, 11, 10, 12, 9, 3, 5, 20, 27, 26, 28, 25, 6, 8] vs 2), (sl [0, 2, 11, 10, 12, 9, 3, 5, 20, 27, 26, 28, 25, 6, 8] vs 11), (sl [0, 2, 11, 10, 12, 9, 3, 5, 20, 27, 26, 28, 25, 6, 8] vs 10), (sl [0, 2, 11, 10, 12, 9, 3, 5, 20, 27, 26, 28, 25, 6, 8] vs 12), (sl [0, 2, 11, 10, 12, 9, 3, 5, 20, 27, 26, 28, 25, 6, 8] vs 9), (sl [0, 2, 11, 10, 12, 9, 3, 5, 20, 27, 26, 28, 25, 6, 8] vs 3), (sl [0, 2, 11, 10, 12, 9, 3, 5, 20, 27, 26, 28, 25, 6, 8] vs 5), (sl [0, 2, 11, 10, 12, 9, 3, 5, 20, 27, 26, 28, 25, 6, 8] vs 20), (sl [0, 2, 11, 10, 12, 9, 3, 5, 20, 27, 26, 28, 25, 6, 8] vs 27), (sl [0, 2, 11, 10, 12, 9, 3, 5, 20, 27, 26, 28, 25, 6, 8] vs 26), x26, (sl [0, 2, 11, 10, 12, 9, 3, 5, 20, 27, 26, 28, 25, 6, 8] vs 25), (sl [0, 2, 11, 10, 12, 9, 3, 5, 20, 27, 26, 28, 25, 6, 8] vs 6), (sl [0, 2, 11, 10, 12, 9, 3, 5, 20, 27, 26, 28, 25, 6, 8] vs 8)] H)

noncomputable def F74_b3v (C : Oracle) (n : Nat) (v0 v2 v11 v10 v12 v9 v3 v5 v20 v27 v26 v28 v25 v6 v8 : Value) (H : Heap) : AOut :=
  bnd (pS (abin Try.prog .lss 3 v27 v26) H) fun x26 H =>
  brB x26 (bnd (iadS 1 v25 v27 H) fun x27 H =>
  bnd (pS (ld1 x27 H) H) fun x28 H =>
  bnd (some (x28, H)) fun x29 H =>
  bnd (some (v6, H)) fun x30 H =>
  bnd (some (x29, H)) fun x31 H =>
  bnd (appS 2 1 8 x30 x31 H) fun x32 H =>
  bnd (some (x32, H)) fun x33 H =>
  bnd (pS (abin Try.prog .add 3 v27 (Value.int .i64 (1))) H) fun x34 H =>
  bnd (some (x34, H)) fun x35 H =>
  fin .normal [v0, v2, v11, v10, v12, v9, v3, v5, v20, x35, v26, x26, v25, x33, x29] H) (
  fin (.exit 2) [v0, v2, v11, v10, v12, v9, v3, v5, v20, v27, v26, x26, v25, v6, v8] H)

theorem F74_b3_v (C : Oracle) (n : Nat) (v0 v2 v11 v10 v12 v9 v3 v5 v20 v27 v26 v28 v25 v6 v8 : Value) (H : Heap) : F74_b3 C n [v0, v2, v11, v10, v12, v9, v3, v5, v20, v27, v26, v28, v25, v6, v8] H = F74_b3v C n v0 v2 v11 v10 v12 v9 v3 v5 v20 v27 v26 v28 v25 v6 v8 H := by
  kernel_rfl

noncomputable def F74_j4 (C : Oracle) (n : Nat) (vs : List Value) (H : Heap) : Option (Value × Heap) :=
  bnd (some ((sl [0, 2, 11, 10, 12, 9, 3, 5, 20, 27, 26, 28, 25, 6, 8] vs 6), H)) fun x36 H =>
  bnd (some (x36, H)) fun x37 H =>
  some (x37, H)

noncomputable def F74_j4v (C : Oracle) (n : Nat) (v0 v2 v11 v10 v12 v9 v3 v5 v20 v27 v26 v28 v25 v6 v8 : Value) (H : Heap) : Option (Value × Heap) :=
  bnd (some (v6, H)) fun x36 H =>
  bnd (some (x36, H)) fun x37 H =>
  some (x37, H)

theorem F74_j4_v (C : Oracle) (n : Nat) (v0 v2 v11 v10 v12 v9 v3 v5 v20 v27 v26 v28 v25 v6 v8 : Value) (H : Heap) : F74_j4 C n [v0, v2, v11, v10, v12, v9, v3, v5, v20, v27, v26, v28, v25, v6, v8] H = F74_j4v C n v0 v2 v11 v10 v12 v9 v3 v5 v20 v27 v26 v28 v25 v6 v8 H := by
  kernel_rfl

noncomputable def F74_j2 (C : Oracle) (n : Nat) (vs : List Value) (H : Heap) : Option (Value × Heap) :=
  bnd (some ((sl [0, 2, 11, 10, 12, 9, 3, 5, 20, 27, 26, 28, 25, 6, 8] vs 3), H)) fun x20 H =>
  bnd (C 82 [(Value.slice none 0 0), x20] H) fun x21 H =>
  bnd (some (x21, H)) fun x22 H =>
  bnd (some ((sl [0, 2, 11, 10, 12, 9, 3, 5, 20, 27, 26, 28, 25, 6, 8] vs 0), H)) fun x23 H =>
  bnd (pS (slen x23) H) fun x24 H =>
  bnd (some ((Value.int .i64 (0)), H)) fun x25 H =>
  onOut (iter n (F74_b3 C n) [(sl [0, 2, 11, 10, 12, 9, 3, 5, 20, 27, 26, 28, 25, 6, 8] vs 0), (sl [0, 2, 11, 10, 12, 9, 3, 5, 20, 27, 26, 28, 25, 6, 8] vs 2), (sl [0, 2, 11, 10, 12, 9, 3, 5, 20, 27, 26, 28, 25, 6, 8] vs 11), (sl [0, 2, 11, 10, 12, 9, 3, 5, 20, 27, 26, 28, 25, 6, 8] vs 10), (sl [0, 2, 11, 10, 12, 9, 3, 5, 20, 27, 26, 28, 25, 6, 8] vs 12), (sl [0, 2, 11, 10, 12, 9, 3, 5, 20, 27, 26, 28, 25, 6, 8] vs 9), (sl [0, 2, 11, 10, 12, 9, 3, 5, 20, 27, 26, 28, 25, 6, 8] vs 3), (sl [0, 2, 11, 10, 12, 9, 3, 5, 20, 27, 26, 28, 25, 6, 8] vs 5), (sl [0, 2, 11, 10, 12, 9, 3, 5, 20, 27, 26, 28, 25, 6, 8] vs 20), x25, x24, (sl [0, 2, 11, 10, 12, 9, 3, 5, 20, 27, 26, 28, 25, 6, 8] vs 28), x23, x22, (sl [0, 2, 11, 10, 12, 9, 3, 5, 20, 27, 26, 28, 25, 6, 8] vs 8)] H) (kBlk 2 (kSeq (F74_j4 C n) (kRet Try.prog [.tmp 2] [0, 2, 11, 10, 12, 9, 3, 5, 20, 27, 26, 28, 25, 6, 8])))

noncomputable def F74_j2v (C : Oracle) (n : Nat) (v0 v2 v11 v10 v12 v9 v3 v5 v20 v27 v26 v28 v25 v6 v8 : Value) (H : Heap) : Option (Value × Heap) :=
  bnd (some (v3, H)) fun x20 H =>
  bnd (C 82 [(Value.slice none 0 0), x20] H) fun x21 H =>
  bnd (some (x21, H)) fun x22 H =>
  bnd (some (v0, H)) fun x23 H =>
  bnd (pS (slen x23) H) fun x24 H =>
  bnd (some ((Value.int .i64 (0)), H)) fun x25 H =>
  onOut (iter n (F74_b3 C n) [v0, v2, v11, v10, v12, v9, v3, v5, v20, x25, x24, v28, x23, x22, v8] H) (kBlk 2 (kSeq (F74_j4 C n) (kRet Try.prog [.tmp 2] [0, 2, 11, 10, 12, 9, 3, 5, 20, 27, 26, 28, 25, 6, 8])))

theorem F74_j2_v (C : Oracle) (n : Nat) (v0 v2 v11 v10 v12 v9 v3 v5 v20 v27 v26 v28 v25 v6 v8 : Value) (H : Heap) : F74_j2 C n [v0, v2, v11, v10, v12, v9, v3, v5, v20, v27, v26, v28, v25, v6, v8] H = F74_j2v C n v0 v2 v11 v10 v12 v9 v3 v5 v20 v27 v26 v28 v25 v6 v8 H := by
  kernel_rfl

noncomputable def F74 (C : Oracle) (n : Nat) (a0 : Value) (H : Heap) : Option (Value × Heap) :=
  bnd (some ((Value.slice none 0 0), H)) fun x0 H =>
  bnd (some ((Value.int .i64 (0)), H)) fun x1 H =>
  bnd (some (a0, H)) fun x2 H =>
  bnd (pS (slen x2) H) fun x3 H =>
  bnd (some ((Value.int .i64 (0)), H)) fun x4 H =>
  onOut (iter n (F74_b0 C n) [a0, x0, x4, x3, undef, x2, x1, undef, undef, undef, undef, undef, undef, undef, undef] H) (kBlk 0 (kSeq (F74_j2 C n) (kRet Try.prog [.tmp 2] [0, 2, 11, 10, 12, 9, 3, 5, 20, 27, 26, 28, 25, 6, 8])))

theorem F74_eq (G : Oracle) (n : Nat) (a0 : Value) (H : Heap) : run G (n + 1) 74 [a0] H = F74 (run G n) n a0 H := by
  unfold run; rw [acall_k (fn := Try.f74) (keep := [0, 2, 11, 10, 12, 9, 3, 5, 20, 27, 26, 28, 25, 6, 8]) (notBad 74 rfl) (by kernel_rfl) (by kernel_rfl)]
  kernel_rfl

noncomputable def F80 (C : Oracle) (n : Nat) (a0 a1 : Value) (H : Heap) : Option (Value × Heap) :=
  bnd (some (a0, H)) fun x0 H =>
  bnd (some (a0, H)) fun x1 H =>
  bnd (some (a1, H)) fun x2 H =>
  bnd (nckS x0 H) fun x3 H =>
  bnd (fadS 7 x3 H) fun x4 H =>
  bnd (stS 1 x4 x2 H) fun x5 H =>
  bnd (nckS x1 H) fun x6 H =>
  bnd (fadS 0 x6 H) fun x7 H =>
  bnd (stS 1 x7 (Value.int .i64 (6)) H) fun x8 H =>
  some (Value.tuple #[], H)

theorem F80_eq (G : Oracle) (n : Nat) (a0 a1 : Value) (H : Heap) : run G (n + 1) 80 [a0, a1] H = F80 (run G n) n a0 a1 H := by
  unfold run; rw [acall_k (fn := Try.f80) (keep := [0, 1]) (notBad 80 rfl) (by kernel_rfl) (by kernel_rfl)]
  kernel_rfl

end Go.Proofs.Ytpenlcigickkbaa.Fun
