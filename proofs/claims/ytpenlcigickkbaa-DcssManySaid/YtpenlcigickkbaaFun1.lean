/- The program's functions as plain terms, each with its equation; printed by wip/am/fun.py. -/
import Derived.Test.YtpenlcigickkbaaFunK
namespace Go.Proofs.Ytpenlcigickkbaa.Fun
open Go.RowKit Go.Proofs.YtpenlcigickkbaaA.Am
set_option linter.unusedVariables false
set_option maxRecDepth 10000
noncomputable def F22 (C : Oracle) (n : Nat) (a0 : Value) (H : Heap) : Option (Value × Heap) :=
  bnd (some ((Value.slice none 0 0), H)) fun x0 H =>
  bnd (some (a0, H)) fun x1 H =>
  bnd (nckS x1 H) fun x2 H =>
  bnd (fadS 0 x2 H) fun x3 H =>
  bnd (pS (ld1 x3 H) H) fun x4 H =>
  bnd (C 67 [x4] H) fun x5 H =>
  bnd (some (x5, H)) fun x6 H =>
  some (x6, H)

theorem F22_eq (G : Oracle) (n : Nat) (a0 : Value) (H : Heap) : run G (n + 1) 22 [a0] H = F22 (run G n) n a0 H := by
  unfold run; rw [acall_k (fn := Try.f22) (keep := [0, 2]) (notBad 22 rfl) (by kernel_rfl) (by kernel_rfl)]
  kernel_rfl

noncomputable def F32 (C : Oracle) (n : Nat) (a0 : Value) (H : Heap) : Option (Value × Heap) :=
  bnd (some ((Value.int .i64 (0)), H)) fun x0 H =>
  bnd (some (a0, H)) fun x1 H =>
  bnd (nckS x1 H) fun x2 H =>
  bnd (fadS 4 x2 H) fun x3 H =>
  bnd (pS (ld1 x3 H) H) fun x4 H =>
  bnd (some (x4, H)) fun x5 H =>
  some (x5, H)

theorem F32_eq (G : Oracle) (n : Nat) (a0 : Value) (H : Heap) : run G (n + 1) 32 [a0] H = F32 (run G n) n a0 H := by
  unfold run; rw [acall_k (fn := Try.f32) (keep := [0, 2]) (notBad 32 rfl) (by kernel_rfl) (by kernel_rfl)]
  kernel_rfl

noncomputable def F41 (C : Oracle) (n : Nat) (H : Heap) : Option (Value × Heap) :=
  bnd (some ((Value.slice none 0 0), H)) fun x0 H =>
  bnd (abuildSlice Try.prog 28 1 [(0, (Value.int .i64 (0)))] H) fun x1 H =>
  bnd (some (x1, H)) fun x2 H =>
  some (x2, H)

theorem F41_eq (G : Oracle) (n : Nat) (H : Heap) : run G (n + 1) 41 [] H = F41 (run G n) n H := by
  unfold run; rw [acall_k (fn := Try.f41) (keep := [0]) (notBad 41 rfl) (by kernel_rfl) (by kernel_rfl)]
  kernel_rfl

noncomputable def F46 (C : Oracle) (n : Nat) (a0 a1 a2 a3 : Value) (H : Heap) : Option (Value × Heap) :=
  bnd (some ((Value.slice none 0 0), H)) fun x0 H =>
  bnd (some (a0, H)) fun x1 H =>
  bnd (some (a1, H)) fun x2 H =>
  bnd (some (a2, H)) fun x3 H =>
  bnd (some (a3, H)) fun x4 H =>
  bnd (abuildSlice Try.prog 28 5 [(0, x1), (1, x2), (2, x3), (3, x4), (4, (Value.int .i64 (0)))] H) fun x5 H =>
  bnd (some (x5, H)) fun x6 H =>
  some (x6, H)

theorem F46_eq (G : Oracle) (n : Nat) (a0 a1 a2 a3 : Value) (H : Heap) : run G (n + 1) 46 [a0, a1, a2, a3] H = F46 (run G n) n a0 a1 a2 a3 H := by
  unfold run; rw [acall_k (fn := Try.f46) (keep := [0, 1, 2, 3, 8]) (notBad 46 rfl) (by kernel_rfl) (by kernel_rfl)]
  kernel_rfl

noncomputable def F47 (C : Oracle) (n : Nat) (a0 a1 : Value) (H : Heap) : Option (Value × Heap) :=
  bnd (some ((Value.int .i64 (0)), H)) fun x0 H =>
  bnd (some (a0, H)) fun x1 H =>
  bnd (some (a1, H)) fun x2 H =>
  bnd (abuildSlice Try.prog 22 2 [(0, x1), (1, x2)] H) fun x3 H =>
  bnd (C 75 [x3] H) fun x4 H =>
  bnd (pS (aun .not x4) H) fun x5 H =>
  brB x5 (bnd (some ((Value.int .i64 (0)), H)) fun x6 H =>
  some (x6, H)) (
  bnd (some (a0, H)) fun x7 H =>
  bnd (pS (abin Try.prog .add 3 x7 (Value.int .i64 (4))) H) fun x8 H =>
  bnd (some (a1, H)) fun x9 H =>
  bnd (pS (abin Try.prog .add 3 x8 x9) H) fun x10 H =>
  bnd (some (x10, H)) fun x11 H =>
  some (x11, H))

theorem F47_eq (G : Oracle) (n : Nat) (a0 a1 : Value) (H : Heap) : run G (n + 1) 47 [a0, a1] H = F47 (run G n) n a0 a1 H := by
  unfold run; rw [acall_k (fn := Try.f47) (keep := [0, 1, 4, 9]) (notBad 47 rfl) (by kernel_rfl) (by kernel_rfl)]
  kernel_rfl

noncomputable def F48 (C : Oracle) (n : Nat) (a0 a1 : Value) (H : Heap) : Option (Value × Heap) :=
  bnd (some ((Value.int .i64 (0)), H)) fun x0 H =>
  bnd (some (a0, H)) fun x1 H =>
  bnd (C 76 [x1] H) fun x2 H =>
  bnd (pS (aun .not x2) H) fun x3 H =>
  bnd (some (x3, H)) fun x4 H =>
  bnd (gd (wantV x4 false) (some (a1, H)) H) fun x5 H =>
  bnd (gd (wantV x4 false) (C 76 [x5] H) H) fun x6 H =>
  bnd (gd (wantV x4 false) (pS (aun .not x6) H) H) fun x7 H =>
  bnd (pickS x4 (Value.bool true) x7 H) fun x8 H =>
  brB x8 (bnd (some ((Value.int .i64 (0)), H)) fun x9 H =>
  some (x9, H)) (
  bnd (some (a0, H)) fun x10 H =>
  bnd (pS (abin Try.prog .add 3 x10 (Value.int .i64 (4))) H) fun x11 H =>
  bnd (some (a1, H)) fun x12 H =>
  bnd (pS (abin Try.prog .add 3 x11 x12) H) fun x13 H =>
  bnd (some (x13, H)) fun x14 H =>
  some (x14, H))

theorem F48_eq (G : Oracle) (n : Nat) (a0 a1 : Value) (H : Heap) : run G (n + 1) 48 [a0, a1] H = F48 (run G n) n a0 a1 H := by
  unfold run; rw [acall_k (fn := Try.f48) (keep := [0, 1, 4, 12]) (notBad 48 rfl) (by kernel_rfl) (by kernel_rfl)]
  kernel_rfl

noncomputable def F51 (C : Oracle) (n : Nat) (a0 : Value) (H : Heap) : Option (Value × Heap) :=
  bnd (some ((Value.bool false), H)) fun x0 H =>
  bnd (some (a0, H)) fun x1 H =>
  bnd (C 20 [x1] H) fun x2 H =>
  bnd (pS (abin Try.prog .neq 3 x2 (Value.int .i64 (0))) H) fun x3 H =>
  bnd (some (x3, H)) fun x4 H =>
  bnd (gd (wantV x4 false) (some (a0, H)) H) fun x5 H =>
  bnd (gd (wantV x4 false) (C 35 [x5] H) H) fun x6 H =>
  bnd (gd (wantV x4 false) (pS (abin Try.prog .lss 3 x6 (Value.int .i64 (7))) H) H) fun x7 H =>
  bnd (pickS x4 (Value.bool true) x7 H) fun x8 H =>
  brB x8 (bnd (some ((Value.bool false), H)) fun x9 H =>
  some (x9, H)) (
  bnd (some (a0, H)) fun x10 H =>
  bnd (C 55 [(Value.int .i64 (1)), (Value.int .i64 (7))] H) fun x11 H =>
  bnd (abuildSlice Try.prog 28 1 [(0, x11)] H) fun x12 H =>
  bnd (C 37 [(Value.int .i64 (0)), (Value.slice none 0 0), x12] H) fun x13 H =>
  bnd (C 17 [x10, x13] H) fun x14 H =>
  bnd (some (a0, H)) fun x15 H =>
  bnd (C 40 [] H) fun x16 H =>
  bnd (C 17 [x15, x16] H) fun x17 H =>
  bnd (some ((Value.bool true), H)) fun x18 H =>
  some (x18, H))

theorem F51_eq (G : Oracle) (n : Nat) (a0 : Value) (H : Heap) : run G (n + 1) 51 [a0] H = F51 (run G n) n a0 H := by
  unfold run; rw [acall_k (fn := Try.f51) (keep := [0, 2, 10]) (notBad 51 rfl) (by kernel_rfl) (by kernel_rfl)]
  kernel_rfl

noncomputable def F73 (C : Oracle) (n : Nat) (a0 a1 a2 : Value) (H : Heap) : Option (Value × Heap) :=
  bnd (some ((Value.int .i64 (0)), H)) fun x0 H =>
  bnd (some (a0, H)) fun x1 H =>
  bnd (some (a1, H)) fun x2 H =>
  bnd (C 81 [x1, x2] H) fun x3 H =>
  bnd (pS (aun .not x3) H) fun x4 H =>
  brB x4 (bnd (some ((Value.int .i64 (0)), H)) fun x5 H =>
  some (x5, H)) (
  bnd (some (a0, H)) fun x6 H =>
  bnd (nckS x6 H) fun x7 H =>
  bnd (fadS 1 x7 H) fun x8 H =>
  bnd (pS (ld1 x8 H) H) fun x9 H =>
  bnd (some (a1, H)) fun x10 H =>
  bnd (pS (abin Try.prog .sub 3 x10 (Value.int .i64 (1))) H) fun x11 H =>
  bnd (iadS 1 x9 x11 H) fun x12 H =>
  bnd (pS (ld1 x12 H) H) fun x13 H =>
  bnd (some (x13, H)) fun x14 H =>
  bnd (some (a0, H)) fun x15 H =>
  bnd (nckS x15 H) fun x16 H =>
  bnd (fadS 1 x16 H) fun x17 H =>
  bnd (pS (ld1 x17 H) H) fun x18 H =>
  bnd (some (a1, H)) fun x19 H =>
  bnd (pS (abin Try.prog .sub 3 x19 (Value.int .i64 (1))) H) fun x20 H =>
  bnd (some (x14, H)) fun x21 H =>
  bnd (some (a2, H)) fun x22 H =>
  bnd (pS (abin Try.prog .add 2 x21 x22) H) fun x23 H =>
  bnd (iadS 1 x18 x20 H) fun x24 H =>
  bnd (stS 1 x24 x23 H) fun x25 H =>
  bnd (some (x14, H)) fun x26 H =>
  bnd (some (x26, H)) fun x27 H =>
  some (x27, H))

theorem F73_eq (G : Oracle) (n : Nat) (a0 a1 a2 : Value) (H : Heap) : run G (n + 1) 73 [a0, a1, a2] H = F73 (run G n) n a0 a1 a2 H := by
  unfold run; rw [acall_k (fn := Try.f73) (keep := [0, 1, 2, 6, 11, 7]) (notBad 73 rfl) (by kernel_rfl) (by kernel_rfl)]
  kernel_rfl

abbrev F74_st (v0 : Value := undef) (v2 : Value := undef) (v11 : Value := undef) (v10 : Value := undef) (v12 : Value := undef) (v9 : Value := undef) (v3 : Value := undef) (v5 : Value := undef) (v20 : Value := undef) (v27 : Value := undef) (v26 : Value := undef) (v28 : Value := undef) (v25 : Value := undef) (v6 : Value := undef) (v8 : Value := undef) : List Value := [v0, v2, v11, v10, v12, v9, v3, v5, v20, v27, v26, v28, v25, v6, v8]

noncomputable def F74_j1 (C : Oracle) (n : Nat) (vs : List Value) (H : Heap) : AOut :=
  bnd (pS (abin Try.prog .add 3 (sl [0, 2, 11, 10, 12, 9, 3, 5, 20, 27, 26, 28, 25, 6, 8] vs 11) (Value.int .i64 (1))) H) fun x6 H =>
  bnd (some (x6, H)) fun x7 H =>
  fin .normal [(sl [0, 2, 11, 10, 12, 9, 3, 5, 20, 27, 26, 28, 25, 6, 8] vs 0), (sl [0, 2, 11, 10, 12, 9, 3, 5, 20, 27, 26, 28, 25, 6, 8] vs 2), x7, (sl [0, 2, 11, 10, 12, 9, 3, 5, 20, 27, 26, 28, 25, 6, 8] vs 10), (sl [0, 2, 11, 10, 12, 9, 3, 5, 20, 27, 26, 28, 25, 6, 8] vs 12), (sl [0, 2, 11, 10, 12, 9, 3, 5, 20, 27, 26, 28, 25, 6, 8] vs 9), (sl [0, 2, 11, 10, 12, 9, 3, 5, 20, 27, 26, 28, 25, 6, 8] vs 3), (sl [0, 2, 11, 10, 12, 9, 3, 5, 20, 27, 26, 28, 25, 6, 8] vs 5), (sl [0, 2, 11, 10, 12, 9, 3, 5, 20, 27, 26, 28, 25, 6, 8] vs 20), (sl [0, 2, 11, 10, 12, 9, 3, 5, 20, 27, 26, 28, 25, 6, 8] vs 27), (sl [0, 2, 11, 10, 12, 9, 3, 5, 20, 27, 26, 28, 25, 6, 8] vs 26), (sl [0, 2, 11, 10, 12, 9, 3, 5, 20, 27, 26, 28, 25, 6, 8] vs 28), (sl [0, 2, 11, 10, 12, 9, 3, 5, 20, 27, 26, 28, 25, 6, 8] vs 25), (sl [0, 2, 11, 10, 12, 9, 3, 5, 20, 27, 26, 28, 25, 6, 8] vs 6), (sl [0, 2, 11, 10, 12, 9, 3, 5, 20, 27, 26, 28, 25, 6, 8] vs 8)] H

noncomputable def F74_j1v (C : Oracle) (n : Nat) (v0 v2 v11 v10 v12 v9 v3 v5 v20 v27 v26 v28 v25 v6 v8 : Value) (H : Heap) : AOut :=
  bnd (pS (abin Try.prog .add 3 v11 (Value.int .i64 (1))) H) fun x6 H =>
  bnd (some (x6, H)) fun x7 H =>
  fin .normal [v0, v2, x7, v10, v12, v9, v3, v5, v20, v27, v26, v28, v25, v6, v8] H

theorem F74_j1_v (C : Oracle) (n : Nat) (v0 v2 v11 v10 v12 v9 v3 v5 v20 v27 v26 v28 v25 v6 v8 : Value) (H : Heap) : F74_j1 C n [v0, v2, v11, v10, v12, v9, v3, v5, v20, v27, v26, v28, v25, v6, v8] H = F74_j1v C n v0 v2 v11 v10 v12 v9 v3 v5 v20 v27 v26 v28 v25 v6 v8 H := by
  kernel_rfl

noncomputable def F74_b0 (C : Oracle) (n : Nat) (vs : List Value) (H : Heap) : AOut :=
  bnd (pS (abin Try.prog .lss 3 (sl [0, 2, 11, 10, 12, 9, 3, 5, 20, 27, 26, 28, 25, 6, 8] vs 11) (sl [0, 2, 11, 10, 12, 9, 3, 5, 20, 27, 26, 28, 25, 6, 8] vs 10)) H) fun x5 H =>
  brB x5 (bnd (iadS 1 (sl [0, 2, 11, 10, 12, 9, 3, 5, 20, 27, 26, 28, 25, 6, 8] vs 9) (sl [0, 2, 11, 10, 12, 9, 3, 5, 20, 27, 26, 28, 25, 6, 8] vs 11) H) fun x8 H =>
  bnd (pS (ld1 x8 H) H) fun x9 H =>
  bnd (some (x9, H)) fun x10 H =>
  bnd (some ((sl [0, 2, 11, 10, 12, 9, 3, 5, 20, 27, 26, 28, 25, 6, 8] vs 3), H)) fun x11 H =>
  bnd (some (x10, H)) fun x12 H =>
  bnd (pS (slen x12) H) fun x13 H =>
  bnd (pS (abin Try.prog .add 3 x11 x13) H) fun x14 H =>
  bnd (some (x14, H)) fun x15 H =>
  bnd (some (x15, H)) fun x16 H =>
  bnd (pS (abin Try.prog .lss 3 x16 (Value.int .i64 (0))) H) fun x17 H =>
  brB x17 (bnd (none) fun x18 H =>
  bnd (none) fun x19 H =>
  F74_j1 C n [(sl [0, 2, 11, 10, 12, 9, 3, 5, 20, 27, 26, 28, 25, 6, 8] vs 0), (sl [0, 2, 11, 10, 12, 9, 3, 5, 20, 27, 26, 28, 25, 6, 8] vs 2), (sl [0, 2, 11, 10, 12, 9, 3, 5, 20, 27, 26, 28, 25, 6, 8] vs 11), (sl [0, 2, 11, 10, 12, 9, 3, 5, 20, 27, 26, 28, 25, 6, 8] vs 10), x5, (sl [0, 2, 11, 10, 12, 9, 3, 5, 20, 27, 26, 28, 25, 6, 8] vs 9), x15, x10, x17, (sl [0, 2, 11, 10, 12, 9, 3, 5, 20, 27, 26, 28, 25, 6, 8] vs 27), (sl [0, 2, 11, 10, 12, 9, 3, 5, 20, 27, 26, 28, 25, 6, 8] vs 26), (sl [0, 2, 11, 10, 12, 9, 3, 5, 20, 27, 26, 28, 25, 6, 8] vs 28), (sl [0, 2, 11, 10, 12, 9, 3, 5, 20, 27, 26, 28, 25, 6, 8] vs 25), (sl [0, 2, 11, 10, 12, 9, 3, 5, 20, 27, 26, 28, 25, 6, 8] vs 6), (sl [0, 2, 11, 10, 12, 9, 3, 5, 20, 27, 26, 28, 25, 6, 8] vs 8)] H) (
  F74_j1 C n [(sl [0, 2, 11, 10, 12, 9, 3, 5, 20, 27, 26, 28, 25, 6, 8] vs 0), (sl [0, 2, 11, 10, 12, 9, 3, 5, 20, 27, 26, 28, 25, 6, 8] vs 2), (sl [0, 2, 11, 10, 12, 9, 3, 5, 20, 27, 26, 28, 25, 6, 8] vs 11), (sl [0, 2, 11, 10, 12, 9, 3, 5, 20, 27, 26, 28, 25, 6, 8] vs 10), x5, (sl [0, 2, 11, 10, 12, 9, 3, 5, 20, 27, 26, 28, 25, 6, 8] vs 9), x15, x10, x17, (sl [0, 2, 11, 10, 12, 9, 3, 5, 20, 27, 26, 28, 25, 6, 8] vs 27), (sl [0, 2, 11, 10, 12, 9, 3, 5, 20, 27, 26, 28, 25, 6, 8] vs 26), (sl [0, 2, 11, 10, 12, 9, 3, 5, 20, 27, 26, 28, 25, 6, 8] vs 28), (sl [0, 2, 11, 10, 12, 9, 3, 5, 20, 27, 26, 28, 25, 6, 8] vs 25), (sl [0, 2, 11, 10, 12, 9, 3, 5, 20, 27, 26, 28, 25, 6, 8] vs 6), (sl [0, 2, 11, 10, 12, 9, 3, 5, 20, 27, 26, 28, 25, 6, 8] vs 8)] H)) (
  fin (.exit 0) [(sl [0, 2, 11, 10, 12, 9, 3, 5, 20, 27, 26, 28, 25, 6, 8] vs 0), (sl [0, 2, 11, 10, 12, 9, 3, 5, 20, 27, 26, 28, 25, 6, 8] vs 2), (sl [0, 2, 11, 10, 12, 9, 3, 5, 20, 27, 26, 28, 25, 6, 8] vs 11), (sl [0, 2, 11, 10, 12, 9, 3, 5, 20, 27, 26, 28, 25, 6, 8] vs 10), x5, (sl [0, 2, 11, 10, 12, 9, 3, 5, 20, 27, 26, 28, 25, 6, 8] vs 9), (sl [0, 2, 11, 10, 12, 9, 3, 5, 20, 27, 26, 28, 25, 6, 8] vs 3), (sl [0, 2, 11, 10, 12, 9, 3, 5, 20, 27, 26, 28, 25, 6, 8] vs 5), (sl [0, 2, 11, 10, 12, 9, 3, 5, 20, 27, 26, 28, 25, 6, 8] vs 20), (sl [0, 2, 11, 10, 12, 9, 3, 5, 20, 27, 26, 28, 25, 6, 8] vs 27), (sl [0, 2, 11, 10, 12, 9, 3, 5, 20, 27, 26, 28, 25, 6, 8] vs 26), (sl [0, 2, 11, 10, 12, 9, 3, 5, 20, 27, 26, 28, 25, 6, 8] vs 28), (sl [0, 2, 11, 10, 12, 9, 3, 5, 20, 27, 26, 28, 25, 6, 8] vs 25), (sl [0, 2, 11, 10, 12, 9, 3, 5, 20, 27, 26, 28, 25, 6, 8] vs 6), (sl [0, 2, 11, 10, 12, 9, 3, 5, 20, 27, 26, 28, 25, 6, 8] vs 8)] H)

noncomputable def F74_b0v (C : Oracle) (n : Nat) (v0 v2 v11 v10 v12 v9 v3 v5 v20 v27 v26 v28 v25 v6 v8 : Value) (H : Heap) : AOut :=
  bnd (pS (abin Try.prog .lss 3 v11 v10) H) fun x5 H =>
  brB x5 (bnd (iadS 1 v9 v11 H) fun x8 H =>
  bnd (pS (ld1 x8 H) H) fun x9 H =>
  bnd (some (x9, H)) fun x10 H =>
  bnd (some (v3, H)) fun x11 H =>
  bnd (some (x10, H)) fun x12 H =>
  bnd (pS (slen x12) H) fun x13 H =>
  bnd (pS (abin Try.prog .add 3 x11 x13) H) fun x14 H =>
  bnd (some (x14, H)) fun x15 H =>
  bnd (some (x15, H)) fun x16 H =>
  bnd (pS (abin Try.prog .lss 3 x16 (Value.int .i64 (0))) H) fun x17 H =>
  brB x17 (bnd (none) fun x18 H =>
  bnd (none) fun x19 H =>
  F74_j1 C n [v0, v2, v11, v10, x5, v9, x15, x10, x17, v27, v26, v28, v25, v6, v8] H) (
  F74_j1 C n [v0, v2, v11, v10, x5, v9, x15, x10, x17, v27, v26, v28, v25, v6, v8] H)) (
  fin (.exit 0) [v0, v2, v11, v10, x5, v9, v3, v5, v20, v27, v26, v28, v25, v6, v8] H)

theorem F74_b0_v (C : Oracle) (n : Nat) (v0 v2 v11 v10 v12 v9 v3 v5 v20 v27 v26 v28 v25 v6 v8 : Value) (H : Heap) : F74_b0 C n [v0, v2, v11, v10, v12, v9, v3, v5, v20, v27, v26, v28, v25, v6, v8] H = F74_b0v C n v0 v2 v11 v10 v12 v9 v3 v5 v20 v27 v26 v28 v25 v6 v8 H := by
  kernel_rfl

noncomputable def F74_b3 (C : Oracle) (n : Nat) (vs : List Value) (H : Heap) : AOut :=
  bnd (pS (abin Try.prog .lss 3 (sl [0, 2, 11, 10, 12, 9, 3, 5, 20, 27, 26, 28, 25, 6, 8] vs 27) (sl [0, 2, 11, 10, 12, 9, 3, 5, 20, 27, 26, 28, 25, 6, 8] vs 26)) H) fun x26 H =>
  brB x26 (bnd (iadS 1 (sl [0, 2, 11, 10, 12, 9, 3, 5, 20, 27, 26, 28, 25, 6, 8] vs 25) (sl [0, 2, 11, 10, 12, 9, 3, 5, 20, 27, 26, 28, 25, 6, 8] vs 27) H) fun x27 H =>
  bnd (pS (ld1 x27 H) H) fun x28 H =>
  bnd (some (x28, H)) fun x29 H =>
  bnd (some ((sl [0, 2, 11, 10, 12, 9, 3, 5, 20, 27, 26, 28, 25, 6, 8] vs 6), H)) fun x30 H =>
  bnd (some (x29, H)) fun x31 H =>
  bnd (appS 2 1 8 x30 x31 H) fun x32 H =>
  bnd (some (x32, H)) fun x33 H =>
  bnd (pS (abin Try.prog .add 3 (sl [0, 2, 11, 10, 12, 9, 3, 5, 20, 27, 26, 28, 25, 6, 8] vs 27) (Value.int .i64 (1))) H) fun x34 H =>
  bnd (some (x34, H)) fun x35 H =>
  fin .normal [(sl [0, 2, 11, 10, 12, 9, 3, 5, 20, 27, 26, 28, 25, 6, 8] vs 0), (sl [0, 2, 11, 10, 12, 9, 3, 5, 20, 27, 26, 28, 25, 6, 8] vs 2), (sl [0, 2, 11, 10, 12, 9, 3, 5, 20, 27, 26, 28, 25, 6, 8] vs 11), (sl [0, 2, 11, 10, 12, 9, 3, 5, 20, 27, 26, 28, 25, 6, 8] vs 10), (sl [0, 2, 11, 10, 12, 9, 3, 5, 20, 27, 26, 28, 25, 6, 8] vs 12), (sl [0, 2, 11, 10, 12, 9, 3, 5, 20, 27, 26, 28, 25, 6, 8] vs 9), (sl [0, 2, 11, 10, 12, 9, 3, 5, 20, 27, 26, 28, 25, 6, 8] vs 3), (sl [0, 2, 11, 10, 12, 9, 3, 5, 20, 27, 26, 28, 25, 6, 8] vs 5), (sl [0, 2, 11, 10, 12, 9, 3, 5, 20, 27, 26, 28, 25, 6, 8] vs 20), x35, (sl [0, 2, 11, 10, 12, 9, 3, 5, 20, 27, 26, 28, 25, 6, 8] vs 26), x26, (sl [0, 2, 11, 10, 12, 9, 3, 5, 20, 27, 26, 28, 25, 6, 8] vs 25), x33, x29] H) (
  fin (.exit 2) [(sl [0, 2, 11, 10, 12, 9, 3, 5, 20, 27, 26, 28, 25, 6, 8] vs 0), (sl [0, 2, 11, 10, 12, 9, 3, 5, 20, 27, 26, 28, 25, 6, 8] vs 2), (sl [0, 2, 11, 10, 12, 9, 3, 5, 20, 27, 26, 28, 25, 6, 8] vs 11), (sl [0, 2, 11, 10, 12, 9, 3, 5, 20, 27, 26, 28, 25, 6, 8] vs 10), (sl [0, 2, 11, 10, 12, 9, 3, 5, 20, 27, 26, 28, 25, 6, 8] vs 12), (sl [0, 2, 11, 10, 12, 9, 3, 5, 20, 27, 26, 28, 25, 6, 8] vs 9), (sl [0, 2, 11, 10, 12, 9, 3, 5, 20, 27, 26, 28, 25, 6, 8] vs 3), (sl [0, 2, 11, 10, 12, 9, 3, 5, 20, 27, 26, 28, 25, 6, 8] vs 5), (sl [0, 2, 11, 10, 12, 9, 3, 5, 20, 27, 26, 28, 25, 6, 8] vs 20), (sl [0, 2, 11, 10, 12, 9, 3, 5, 20, 27, 26, 28, 25, 6, 8] vs 27), (sl [0, 2, 11, 10, 12, 9, 3, 5, 20, 27, 26, 28, 25, 6, 8] vs 26), x26, (sl [0, 2, 11, 10, 12, 9, 3, 5, 20, 27, 26, 28, 25, 6, 8] vs 25), (sl [0, 2, 11, 10, 12, 9, 3, 5, 20, 27, 26, 28, 25, 6, 8] vs 6), (sl [0, 2, 11, 10, 12, 9, 3, 5, 20, 27, 26, 28, 25, 6, 8] vs 8)] H)

noncomputable def F74_b3v (C : Oracle) (n : Nat) (v0 v2 v11 v10 v12 v9 v3 v5 v20 v27 v26 v28 v25 v6 v8 : Value) (H : Heap) : AOut :=
  bnd (pS (abin Try.prog .lss 3 v27 v26) H) fun x26 H =>
  brB x26 (bnd (iadS 1 v25 v27 H) fun x27 H =>
  bnd (pS (ld1 x27 H) H) fun x28 H =>
  bnd (some (x28, H)) fun x29 H =>
  bnd (some (v6, H)) fun x30 H =>
  bnd (some (x29, H)) fun x31 H =>
  bnd (appS 2 1 8 x30 x31 H) fun x32 H =>
  bnd (some (x32, H)) fun x33 H =>
  bnd (pS (abin Try.prog .add 3 v27 (Value.int .i64 (1))) H) fun x34 H =>
  bnd (some (x34, H)) fun x35 H =>
  fin .normal [v0, v2, v11, v10, v12, v9, v3, v5, v20, x35, v26, x26, v25, x33, x29] H) (
  fin (.exit 2) [v0, v2, v11, v10, v12, v9, v3, v5, v20, v27, v26, x26, v25, v6, v8] H)

theorem F74_b3_v (C : Oracle) (n : Nat) (v0 v2 v11 v10 v12 v9 v3 v5 v20 v27 v26 v28 v25 v6 v8 : Value) (H : Heap) : F74_b3 C n [v0, v2, v11, v10, v12, v9, v3, v5, v20, v27, v26, v28, v25, v6, v8] H = F74_b3v C n v0 v2 v11 v10 v12 v9 v3 v5 v20 v27 v26 v28 v25 v6 v8 H := by
  kernel_rfl

noncomputable def F74_j4 (C : Oracle) (n : Nat) (vs : List Value) (H : Heap) : Option (Value × Heap) :=
  bnd (some ((sl [0, 2, 11, 10, 12, 9, 3, 5, 20, 27, 26, 28, 25, 6, 8] vs 6), H)) fun x36 H =>
  bnd (some (x36, H)) fun x37 H =>
  some (x37, H)

noncomputable def F74_j4v (C : Oracle) (n : Nat) (v0 v2 v11 v10 v12 v9 v3 v5 v20 v27 v26 v28 v25 v6 v8 : Value) (H : Heap) : Option (Value × Heap) :=
  bnd (some (v6, H)) fun x36 H =>
  bnd (some (x36, H)) fun x37 H =>
  some (x37, H)

theorem F74_j4_v (C : Oracle) (n : Nat) (v0 v2 v11 v10 v12 v9 v3 v5 v20 v27 v26 v28 v25 v6 v8 : Value) (H : Heap) : F74_j4 C n [v0, v2, v11, v10, v12, v9, v3, v5, v20, v27, v26, v28, v25, v6, v8] H = F74_j4v C n v0 v2 v11 v10 v12 v9 v3 v5 v20 v27 v26 v28 v25 v6 v8 H := by
  kernel_rfl

noncomputable def F74_j2 (C : Oracle) (n : Nat) (vs : List Value) (H : Heap) : Option (Value × Heap) :=
  bnd (some ((sl [0, 2, 11, 10, 12, 9, 3, 5, 20, 27, 26, 28, 25, 6, 8] vs 3), H)) fun x20 H =>
  bnd (C 82 [(Value.slice none 0 0), x20] H) fun x21 H =>
  bnd (some (x21, H)) fun x22 H =>
  bnd (some ((sl [0, 2, 11, 10, 12, 9, 3, 5, 20, 27, 26, 28, 25, 6, 8] vs 0), H)) fun x23 H =>
  bnd (pS (slen x23) H) fun x24 H =>
  bnd (some ((Value.int .i64 (0)), H)) fun x25 H =>
  onOut (iter n (F74_b3 C n) [(sl [0, 2, 11, 10, 12, 9, 3, 5, 20, 27, 26, 28, 25, 6, 8] vs 0), (sl [0, 2, 11, 10, 12, 9, 3, 5, 20, 27, 26, 28, 25, 6, 8] vs 2), (sl [0, 2, 11, 10, 12, 9, 3, 5, 20, 27, 26, 28, 25, 6, 8] vs 11), (sl [0, 2, 11, 10, 12, 9, 3, 5, 20, 27, 26, 28, 25, 6, 8] vs 10), (sl [0, 2, 11, 10, 12, 9, 3, 5, 20, 27, 26, 28, 25, 6, 8] vs 12), (sl [0, 2, 11, 10, 12, 9, 3, 5, 20, 27, 26, 28, 25, 6, 8] vs 9), (sl [0, 2, 11, 10, 12, 9, 3, 5, 20, 27, 26, 28, 25, 6, 8] vs 3), (sl [0, 2, 11, 10, 12, 9, 3, 5, 20, 27, 26, 28, 25, 6, 8] vs 5), (sl [0, 2, 11, 10, 12, 9, 3, 5, 20, 27, 26, 28, 25, 6, 8] vs 20), x25, x24, (sl [0, 2, 11, 10, 12, 9, 3, 5, 20, 27, 26, 28, 25, 6, 8] vs 28), x23, x22, (sl [0, 2, 11, 10, 12, 9, 3, 5, 20, 27, 26, 28, 25, 6, 8] vs 8)] H) (kBlk 2 (kSeq (F74_j4 C n) (kRet Try.prog [.tmp 2] [0, 2, 11, 10, 12, 9, 3, 5, 20, 27, 26, 28, 25, 6, 8])))

noncomputable def F74_j2v (C : Oracle) (n : Nat) (v0 v2 v11 v10 v12 v9 v3 v5 v20 v27 v26 v28 v25 v6 v8 : Value) (H : Heap) : Option (Value × Heap) :=
  bnd (some (v3, H)) fun x20 H =>
  bnd (C 82 [(Value.slice none 0 0), x20] H) fun x21 H =>
  bnd (some (x21, H)) fun x22 H =>
  bnd (some (v0, H)) fun x23 H =>
  bnd (pS (slen x23) H) fun x24 H =>
  bnd (some ((Value.int .i64 (0)), H)) fun x25 H =>
  onOut (iter n (F74_b3 C n) [v0, v2, v11, v10, v12, v9, v3, v5, v20, x25, x24, v28, x23, x22, v8] H) (kBlk 2 (kSeq (F74_j4 C n) (kRet Try.prog [.tmp 2] [0, 2, 11, 10, 12, 9, 3, 5, 20, 27, 26, 28, 25, 6, 8])))

theorem F74_j2_v (C : Oracle) (n : Nat) (v0 v2 v11 v10 v12 v9 v3 v5 v20 v27 v26 v28 v25 v6 v8 : Value) (H : Heap) : F74_j2 C n [v0, v2, v11, v10, v12, v9, v3, v5, v20, v27, v26, v28, v25, v6, v8] H = F74_j2v C n v0 v2 v11 v10 v12 v9 v3 v5 v20 v27 v26 v28 v25 v6 v8 H := by
  kernel_rfl

noncomputable def F74 (C : Oracle) (n : Nat) (a0 : Value) (H : Heap) : Option (Value × Heap) :=
  bnd (some ((Value.slice none 0 0), H)) fun x0 H =>
  bnd (some ((Value.int .i64 (0)), H)) fun x1 H =>
  bnd (some (a0, H)) fun x2 H =>
  bnd (pS (slen x2) H) fun x3 H =>
  bnd (some ((Value.int .i64 (0)), H)) fun x4 H =>
  onOut (iter n (F74_b0 C n) [a0, x0, x4, x3, undef, x2, x1, undef, undef, undef, undef, undef, undef, undef, undef] H) (kBlk 0 (kSeq (F74_j2 C n) (kRet Try.prog [.tmp 2] [0, 2, 11, 10, 12, 9, 3, 5, 20, 27, 26, 28, 25, 6, 8])))

theorem F74_eq (G : Oracle) (n : Nat) (a0 : Value) (H : Heap) : run G (n + 1) 74 [a0] H = F74 (run G n) n a0 H := by
  unfold run; rw [acall_k (fn := Try.f74) (keep := [0, 2, 11, 10, 12, 9, 3, 5, 20, 27, 26, 28, 25, 6, 8]) (notBad 74 rfl) (by kernel_rfl) (by kernel_rfl)]
  kernel_rfl

noncomputable def F76 (C : Oracle) (n : Nat) (a0 : Value) (H : Heap) : Option (Value × Heap) :=
  bnd (some ((Value.bool false), H)) fun x0 H =>
  bnd (some (a0, H)) fun x1 H =>
  bnd (pS (abin Try.prog .geq 3 x1 (Value.int .i64 (0))) H) fun x2 H =>
  bnd (some (x2, H)) fun x3 H =>
  bnd (gd (wantV x3 true) (some (a0, H)) H) fun x4 H =>
  bnd (gd (wantV x3 true) (pS (abin Try.prog .leq 3 x4 (Value.int .i64 (1099511627776))) H) H) fun x5 H =>
  bnd (pickS x3 x5 (Value.bool false) H) fun x6 H =>
  bnd (some (x6, H)) fun x7 H =>
  some (x7, H)

theorem F76_eq (G : Oracle) (n : Nat) (a0 : Value) (H : Heap) : run G (n + 1) 76 [a0] H = F76 (run G n) n a0 H := by
  unfold run; rw [acall_k (fn := Try.f76) (keep := [0, 2]) (notBad 76 rfl) (by kernel_rfl) (by kernel_rfl)]
  kernel_rfl

noncomputable def F83 (C : Oracle) (n : Nat) (a0 a1 : Value) (H : Heap) : Option (Value × Heap) :=
  bnd (some ((Value.bool false), H)) fun x0 H =>
  bnd (some (a0, H)) fun x1 H =>
  bnd (some (a1, H)) fun x2 H =>
  bnd (C 85 [x1, x2] H) fun x3 H =>
  bnd (pS (abin Try.prog .geq 3 x3 (Value.int .i64 (0))) H) fun x4 H =>
  bnd (some (x4, H)) fun x5 H =>
  some (x5, H)

theorem F83_eq (G : Oracle) (n : Nat) (a0 a1 : Value) (H : Heap) : run G (n + 1) 83 [a0, a1] H = F83 (run G n) n a0 a1 H := by
  unfold run; rw [acall_k (fn := Try.f83) (keep := [0, 1, 4]) (notBad 83 rfl) (by kernel_rfl) (by kernel_rfl)]
  kernel_rfl

end Go.Proofs.Ytpenlcigickkbaa.Fun
