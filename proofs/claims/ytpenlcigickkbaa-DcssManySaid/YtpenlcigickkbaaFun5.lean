/- The program's functions as plain terms, each with its equation; printed by wip/am/fun.py. -/
import Derived.Test.YtpenlcigickkbaaFunK
namespace Go.Proofs.Ytpenlcigickkbaa.Fun
open Go.RowKit Go.Proofs.YtpenlcigickkbaaA.Am
set_option linter.unusedVariables false
set_option maxRecDepth 10000
noncomputable def F30 (C : Oracle) (n : Nat) (a0 : Value) (H : Heap) : Option (Value × Heap) :=
  bnd (some ((Value.pointer none), H)) fun x0 H =>
  bnd (some (a0, H)) fun x1 H =>
  bnd (nckS x1 H) fun x2 H =>
  bnd (pS (ldn 5 x2 H) H) fun x3 H =>
  bnd (some (newBlk H 80 1 [(Value.slice none 0 0), (Value.int .i64 (0)), (Value.int .i64 (0)), (Value.int .i64 (0)), (Value.int .i64 (0))])) fun x4 H =>
  bnd (stS 5 x4 x3 H) fun x5 H =>
  bnd (some (a0, H)) fun x6 H =>
  bnd (nckS x6 H) fun x7 H =>
  bnd (fadS 0 x7 H) fun x8 H =>
  bnd (pS (ld1 x8 H) H) fun x9 H =>
  bnd (C 67 [x9] H) fun x10 H =>
  bnd (fadS 0 x4 H) fun x11 H =>
  bnd (stS 1 x11 x10 H) fun x12 H =>
  bnd (some (x4, H)) fun x13 H =>
  some (x13, H)

theorem F30_eq (G : Oracle) (n : Nat) (a0 : Value) (H : Heap) : run G (n + 1) 30 [a0] H = F30 (run G n) n a0 H := by
  unfold run; rw [acall_k (fn := Try.f30) (keep := [0, 2, 3]) (notBad 30 rfl) (by kernel_rfl) (by kernel_rfl)]
  kernel_rfl

noncomputable def F42 (C : Oracle) (n : Nat) (a0 a1 a2 : Value) (H : Heap) : Option (Value × Heap) :=
  bnd (some ((Value.slice none 0 0), H)) fun x0 H =>
  bnd (some (a2, H)) fun x1 H =>
  bnd (pS (slen x1) H) fun x2 H =>
  bnd (some (a1, H)) fun x3 H =>
  bnd (pS (slen x3) H) fun x4 H =>
  bnd (pS (abin Try.prog .add 3 x4 (Value.int .i64 (1))) H) fun x5 H =>
  bnd (pS (abin Try.prog .neq 3 x2 x5) H) fun x6 H =>
  brB x6 (bnd (some ((Value.slice none 0 0), H)) fun x7 H =>
  some (x7, H)) (
  bnd (some (a2, H)) fun x8 H =>
  bnd (pS (slen x8) H) fun x9 H =>
  bnd (some (a0, H)) fun x10 H =>
  bnd (abuildSlice Try.prog 28 5 [(0, x9), (1, x10), (2, (Value.int .i64 (0))), (3, (Value.int .i64 (0))), (4, (Value.int .i64 (0)))] H) fun x11 H =>
  bnd (some (x11, H)) fun x12 H =>
  bnd (some (x12, H)) fun x13 H =>
  bnd (some (a1, H)) fun x14 H =>
  bnd (appS 2 1 8 x13 x14 H) fun x15 H =>
  bnd (some (x15, H)) fun x16 H =>
  bnd (some (x16, H)) fun x17 H =>
  bnd (some (a2, H)) fun x18 H =>
  bnd (appS 2 1 8 x17 x18 H) fun x19 H =>
  bnd (some (x19, H)) fun x20 H =>
  some (x20, H))

theorem F42_eq (G : Oracle) (n : Nat) (a0 a1 a2 : Value) (H : Heap) : run G (n + 1) 42 [a0, a1, a2] H = F42 (run G n) n a0 a1 a2 H := by
  unfold run; rw [acall_k (fn := Try.f42) (keep := [0, 1, 2, 6, 13, 7]) (notBad 42 rfl) (by kernel_rfl) (by kernel_rfl)]
  kernel_rfl

noncomputable def F62 (C : Oracle) (n : Nat) (a0 : Value) (H : Heap) : Option (Value × Heap) :=
  bnd (some ((Value.int .i64 (0)), H)) fun x0 H =>
  bnd (some (a0, H)) fun x1 H =>
  bnd (nckS x1 H) fun x2 H =>
  bnd (fadS 5 x2 H) fun x3 H =>
  bnd (pS (ld1 x3 H) H) fun x4 H =>
  bnd (some (x4, H)) fun x5 H =>
  some (x5, H)

theorem F62_eq (G : Oracle) (n : Nat) (a0 : Value) (H : Heap) : run G (n + 1) 62 [a0] H = F62 (run G n) n a0 H := by
  unfold run; rw [acall_k (fn := Try.f62) (keep := [0, 2]) (notBad 62 rfl) (by kernel_rfl) (by kernel_rfl)]
  kernel_rfl

noncomputable def F64 (C : Oracle) (n : Nat) (a0 a1 : Value) (H : Heap) : Option (Value × Heap) :=
  bnd (some ((Value.int .i64 (0)), H)) fun x0 H =>
  bnd (some (a0, H)) fun x1 H =>
  bnd (some (a1, H)) fun x2 H =>
  bnd (C 28 [x1, x2] H) fun x3 H =>
  bnd (some (x3, H)) fun x4 H =>
  bnd (some (x4, H)) fun x5 H =>
  bnd (C 52 [x5] H) fun x6 H =>
  bnd (pS (abin Try.prog .neq 3 x6 (Value.int .i64 (5))) H) fun x7 H =>
  brB x7 (bnd (some (x4, H)) fun x8 H =>
  bnd (some (x8, H)) fun x9 H =>
  some (x9, H)) (
  bnd (some (a0, H)) fun x10 H =>
  bnd (some (x4, H)) fun x11 H =>
  bnd (C 53 [x11] H) fun x12 H =>
  bnd (pS (abin Try.prog .add 3 x12 (Value.int .i64 (4))) H) fun x13 H =>
  bnd (C 28 [x10, x13] H) fun x14 H =>
  bnd (pS (abin Try.prog .eql 2 x14 (Value.int .i64 (1))) H) fun x15 H =>
  brB x15 (bnd (some (a0, H)) fun x16 H =>
  bnd (some (x4, H)) fun x17 H =>
  bnd (C 53 [x17] H) fun x18 H =>
  bnd (pS (abin Try.prog .add 3 x18 (Value.int .i64 (3))) H) fun x19 H =>
  bnd (C 28 [x16, x19] H) fun x20 H =>
  bnd (some (x20, H)) fun x21 H =>
  some (x21, H)) (
  bnd (some (a0, H)) fun x22 H =>
  bnd (some (x4, H)) fun x23 H =>
  bnd (C 53 [x23] H) fun x24 H =>
  bnd (pS (abin Try.prog .add 3 x24 (Value.int .i64 (2))) H) fun x25 H =>
  bnd (C 28 [x22, x25] H) fun x26 H =>
  bnd (some (x26, H)) fun x27 H =>
  some (x27, H)))

theorem F64_eq (G : Oracle) (n : Nat) (a0 a1 : Value) (H : Heap) : run G (n + 1) 64 [a0, a1] H = F64 (run G n) n a0 a1 H := by
  unfold run; rw [acall_k (fn := Try.f64) (keep := [0, 1, 4, 5, 11, 18]) (notBad 64 rfl) (by kernel_rfl) (by kernel_rfl)]
  kernel_rfl

noncomputable def F67 (C : Oracle) (n : Nat) (a0 : Value) (H : Heap) : Option (Value × Heap) :=
  bnd (some ((Value.slice none 0 0), H)) fun x0 H =>
  bnd (some (a0, H)) fun x1 H =>
  bnd (pS (abin Try.prog .eql 28 x1 (Value.slice none 0 0)) H) fun x2 H =>
  brB x2 (bnd (some ((Value.slice none 0 0), H)) fun x3 H =>
  some (x3, H)) (
  bnd (abuildSlice Try.prog 28 0 [] H) fun x4 H =>
  bnd (some (a0, H)) fun x5 H =>
  bnd (appS 2 1 8 x4 x5 H) fun x6 H =>
  bnd (some (x6, H)) fun x7 H =>
  some (x7, H))

theorem F67_eq (G : Oracle) (n : Nat) (a0 : Value) (H : Heap) : run G (n + 1) 67 [a0] H = F67 (run G n) n a0 H := by
  unfold run; rw [acall_k (fn := Try.f67) (keep := [0, 2, 4]) (notBad 67 rfl) (by kernel_rfl) (by kernel_rfl)]
  kernel_rfl

noncomputable def F71 (C : Oracle) (n : Nat) (a0 a1 a2 : Value) (H : Heap) : Option (Value × Heap) :=
  bnd (some (a0, H)) fun x0 H =>
  bnd (some (a1, H)) fun x1 H =>
  bnd (C 81 [x0, x1] H) fun x2 H =>
  brB x2 (bnd (some (a0, H)) fun x3 H =>
  bnd (nckS x3 H) fun x4 H =>
  bnd (fadS 1 x4 H) fun x5 H =>
  bnd (pS (ld1 x5 H) H) fun x6 H =>
  bnd (some (a1, H)) fun x7 H =>
  bnd (pS (abin Try.prog .sub 3 x7 (Value.int .i64 (1))) H) fun x8 H =>
  bnd (some (a2, H)) fun x9 H =>
  bnd (iadS 1 x6 x8 H) fun x10 H =>
  bnd (stS 1 x10 x9 H) fun x11 H =>
  some (Value.tuple #[], H)) (
  some (Value.tuple #[], H))

theorem F71_eq (G : Oracle) (n : Nat) (a0 a1 a2 : Value) (H : Heap) : run G (n + 1) 71 [a0, a1, a2] H = F71 (run G n) n a0 a1 a2 H := by
  unfold run; rw [acall_k (fn := Try.f71) (keep := [0, 1, 2, 8]) (notBad 71 rfl) (by kernel_rfl) (by kernel_rfl)]
  kernel_rfl

noncomputable def F75 (C : Oracle) (n : Nat) (a0 : Value) (H : Heap) : Option (Value × Heap) :=
  bnd (some ((Value.bool false), H)) fun x0 H =>
  bnd (some (a0, H)) fun x1 H =>
  bnd (C 83 [x1, (Value.func (.func 84) #[] #[])] H) fun x2 H =>
  bnd (pS (aun .not x2) H) fun x3 H =>
  bnd (some (x3, H)) fun x4 H =>
  some (x4, H)

theorem F75_eq (G : Oracle) (n : Nat) (a0 : Value) (H : Heap) : run G (n + 1) 75 [a0] H = F75 (run G n) n a0 H := by
  unfold run; rw [acall_k (fn := Try.f75) (keep := [0, 2]) (notBad 75 rfl) (by kernel_rfl) (by kernel_rfl)]
  kernel_rfl

noncomputable def F77 (C : Oracle) (n : Nat) (a0 : Value) (H : Heap) : Option (Value × Heap) :=
  bnd (some ((Value.int .i64 (0)), H)) fun x0 H =>
  bnd (some ((Value.int .i64 (0)), H)) fun x1 H =>
  bnd (some ((Value.bool false), H)) fun x2 H =>
  bnd (some (a0, H)) fun x3 H =>
  bnd (pS (abin Try.prog .lss 2 x3 (Value.int .i64 (0))) H) fun x4 H =>
  bnd (some (x4, H)) fun x5 H =>
  bnd (gd (wantV x5 false) (some (a0, H)) H) fun x6 H =>
  bnd (gd (wantV x5 false) (pS (abin Try.prog .gtr 2 x6 (Value.int .i64 (524296))) H) H) fun x7 H =>
  bnd (pickS x5 (Value.bool true) x7 H) fun x8 H =>
  brB x8 (bnd (some ((Value.int .i64 (0)), H)) fun x9 H =>
  bnd (some ((Value.int .i64 (0)), H)) fun x10 H =>
  bnd (some ((Value.bool false), H)) fun x11 H =>
  some (Value.tuple #[x9, x10, x11], H)) (
  bnd (some (a0, H)) fun x12 H =>
  bnd (pS (abin Try.prog .and 2 x12 (Value.int .i64 (7))) H) fun x13 H =>
  bnd (some (a0, H)) fun x14 H =>
  bnd (pS (abin Try.prog .shr 2 x14 (Value.int .u64 (3))) H) fun x15 H =>
  bnd (some (x13, H)) fun x16 H =>
  bnd (some (x15, H)) fun x17 H =>
  bnd (some (x16, H)) fun x18 H =>
  bnd (some (x17, H)) fun x19 H =>
  bnd (C 79 [x18, x19] H) fun x20 H =>
  bnd (pS (aun .not x20) H) fun x21 H =>
  brB x21 (bnd (some ((Value.int .i64 (0)), H)) fun x22 H =>
  bnd (some ((Value.int .i64 (0)), H)) fun x23 H =>
  bnd (some ((Value.bool false), H)) fun x24 H =>
  some (Value.tuple #[x22, x23, x24], H)) (
  bnd (some (x16, H)) fun x25 H =>
  bnd (some (x17, H)) fun x26 H =>
  bnd (some (x25, H)) fun x27 H =>
  bnd (some (x26, H)) fun x28 H =>
  bnd (some ((Value.bool true), H)) fun x29 H =>
  some (Value.tuple #[x27, x28, x29], H)))

theorem F77_eq (G : Oracle) (n : Nat) (a0 : Value) (H : Heap) : run G (n + 1) 77 [a0] H = F77 (run G n) n a0 H := by
  unfold run; rw [acall_k (fn := Try.f77) (keep := [0, 2, 3, 4, 12, 5, 6, 20]) (notBad 77 rfl) (by kernel_rfl) (by kernel_rfl)]
  kernel_rfl

noncomputable def F79 (C : Oracle) (n : Nat) (a0 a1 : Value) (H : Heap) : Option (Value × Heap) :=
  bnd (some ((Value.bool false), H)) fun x0 H =>
  bnd (some (a0, H)) fun x1 H =>
  bnd (pS (abin Try.prog .geq 3 x1 (Value.int .i64 (1))) H) fun x2 H =>
  bnd (some (x2, H)) fun x3 H =>
  bnd (gd (wantV x3 true) (some (a0, H)) H) fun x4 H =>
  bnd (gd (wantV x3 true) (pS (abin Try.prog .leq 3 x4 (Value.int .i64 (5))) H) H) fun x5 H =>
  bnd (pickS x3 x5 (Value.bool false) H) fun x6 H =>
  bnd (some (x6, H)) fun x7 H =>
  bnd (gd (wantV x7 true) (some (a1, H)) H) fun x8 H =>
  bnd (gd (wantV x7 true) (pS (abin Try.prog .geq 3 x8 (Value.int .i64 (1))) H) H) fun x9 H =>
  bnd (pickS x7 x9 (Value.bool false) H) fun x10 H =>
  bnd (some (x10, H)) fun x11 H =>
  bnd (gd (wantV x11 true) (some (a1, H)) H) fun x12 H =>
  bnd (gd (wantV x11 true) (pS (abin Try.prog .leq 3 x12 (Value.int .i64 (65536))) H) H) fun x13 H =>
  bnd (pickS x11 x13 (Value.bool false) H) fun x14 H =>
  bnd (some (x14, H)) fun x15 H =>
  some (x15, H)

theorem F79_eq (G : Oracle) (n : Nat) (a0 a1 : Value) (H : Heap) : run G (n + 1) 79 [a0, a1] H = F79 (run G n) n a0 a1 H := by
  unfold run; rw [acall_k (fn := Try.f79) (keep := [0, 1, 4]) (notBad 79 rfl) (by kernel_rfl) (by kernel_rfl)]
  kernel_rfl

noncomputable def F80 (C : Oracle) (n : Nat) (a0 a1 : Value) (H : Heap) : Option (Value × Heap) :=
  bnd (some (a0, H)) fun x0 H =>
  bnd (some (a0, H)) fun x1 H =>
  bnd (some (a1, H)) fun x2 H =>
  bnd (nckS x0 H) fun x3 H =>
  bnd (fadS 7 x3 H) fun x4 H =>
  bnd (stS 1 x4 x2 H) fun x5 H =>
  bnd (nckS x1 H) fun x6 H =>
  bnd (fadS 0 x6 H) fun x7 H =>
  bnd (stS 1 x7 (Value.int .i64 (6)) H) fun x8 H =>
  some (Value.tuple #[], H)

theorem F80_eq (G : Oracle) (n : Nat) (a0 a1 : Value) (H : Heap) : run G (n + 1) 80 [a0, a1] H = F80 (run G n) n a0 a1 H := by
  unfold run; rw [acall_k (fn := Try.f80) (keep := [0, 1]) (notBad 80 rfl) (by kernel_rfl) (by kernel_rfl)]
  kernel_rfl

abbrev F82_st (v0 : Value := undef) (v1 : Value := undef) (v4 : Value := undef) (v6 : Value := undef) (v16 : Value := undef) : List Value := [v0, v1, v4, v6, v16]

noncomputable def F82_j1 (C : Oracle) (n : Nat) (vs : List Value) (H : Heap) : Option (Value × Heap) :=
  bnd (some ((sl [0, 1, 4, 6, 16] vs 0), H)) fun x1 H =>
  bnd (some (x1, H)) fun x2 H =>
  some (x2, H)

noncomputable def F82_j1v (C : Oracle) (n : Nat) (v0 v1 v4 v6 v16 : Value) (H : Heap) : Option (Value × Heap) :=
  bnd (some (v0, H)) fun x1 H =>
  bnd (some (x1, H)) fun x2 H =>
  some (x2, H)

theorem F82_j1_v (C : Oracle) (n : Nat) (v0 v1 v4 v6 v16 : Value) (H : Heap) : F82_j1 C n [v0, v1, v4, v6, v16] H = F82_j1v C n v0 v1 v4 v6 v16 H := by
  kernel_rfl

noncomputable def F82_j0 (C : Oracle) (n : Nat) (vs : List Value) (H : Heap) : Option (Value × Heap) :=
  bnd (some ((sl [0, 1, 4, 6, 16] vs 1), H)) fun x3 H =>
  bnd (some ((sl [0, 1, 4, 6, 16] vs 0), H)) fun x4 H =>
  bnd (abuiltin Try.prog .cap #[28] [x4] H) fun x5 H =>
  bnd (some ((sl [0, 1, 4, 6, 16] vs 0), H)) fun x6 H =>
  bnd (pS (slen x6) H) fun x7 H =>
  bnd (pS (abin Try.prog .sub 3 x5 x7) H) fun x8 H =>
  bnd (pS (abin Try.prog .sub 3 x3 x8) H) fun x9 H =>
  bnd (some (x9, H)) fun x10 H =>
  bnd (some (x10, H)) fun x11 H =>
  bnd (pS (abin Try.prog .gtr 3 x11 (Value.int .i64 (0))) H) fun x12 H =>
  brB x12 (bnd (some ((sl [0, 1, 4, 6, 16] vs 0), H)) fun x13 H =>
  bnd (some ((sl [0, 1, 4, 6, 16] vs 0), H)) fun x14 H =>
  bnd (abuiltin Try.prog .cap #[28] [x14] H) fun x15 H =>
  bnd (pS (scut 1 H x13 none (some x15)) H) fun x16 H =>
  bnd (some (x10, H)) fun x17 H =>
  bnd (abuiltin Try.prog .append #[28, 3] [x16, x17] H) fun x18 H =>
  bnd (some ((sl [0, 1, 4, 6, 16] vs 0), H)) fun x19 H =>
  bnd (pS (slen x19) H) fun x20 H =>
  bnd (pS (scut 1 H x18 none (some x20)) H) fun x21 H =>
  bnd (some (x21, H)) fun x22 H =>
  F82_j1 C n [x22, x10, (sl [0, 1, 4, 6, 16] vs 4), (sl [0, 1, 4, 6, 16] vs 6), x12] H) (
  F82_j1 C n [(sl [0, 1, 4, 6, 16] vs 0), x10, (sl [0, 1, 4, 6, 16] vs 4), (sl [0, 1, 4, 6, 16] vs 6), x12] H)

noncomputable def F82_j0v (C : Oracle) (n : Nat) (v0 v1 v4 v6 v16 : Value) (H : Heap) : Option (Value × Heap) :=
  bnd (some (v1, H)) fun x3 H =>
  bnd (some (v0, H)) fun x4 H =>
  bnd (abuiltin Try.prog .cap #[28] [x4] H) fun x5 H =>
  bnd (some (v0, H)) fun x6 H =>
  bnd (pS (slen x6) H) fun x7 H =>
  bnd (pS (abin Try.prog .sub 3 x5 x7) H) fun x8 H =>
  bnd (pS (abin Try.prog .sub 3 x3 x8) H) fun x9 H =>
  bnd (some (x9, H)) fun x10 H =>
  bnd (some (x10, H)) fun x11 H =>
  bnd (pS (abin Try.prog .gtr 3 x11 (Value.int .i64 (0))) H) fun x12 H =>
  brB x12 (bnd (some (v0, H)) fun x13 H =>
  bnd (some (v0, H)) fun x14 H =>
  bnd (abuiltin Try.prog .cap #[28] [x14] H) fun x15 H =>
  bnd (pS (scut 1 H x13 none (some x15)) H) fun x16 H =>
  bnd (some (x10, H)) fun x17 H =>
  bnd (abuiltin Try.prog .append #[28, 3] [x16, x17] H) fun x18 H =>
  bnd (some (v0, H)) fun x19 H =>
  bnd (pS (slen x19) H) fun x20 H =>
  bnd (pS (scut 1 H x18 none (some x20)) H) fun x21 H =>
  bnd (some (x21, H)) fun x22 H =>
  F82_j1 C n [x22, x10, v4, v6, x12] H) (
  F82_j1 C n [v0, x10, v4, v6, x12] H)

theorem F82_j0_v (C : Oracle) (n : Nat) (v0 v1 v4 v6 v16 : Value) (H : Heap) : F82_j0 C n [v0, v1, v4, v6, v16] H = F82_j0v C n v0 v1 v4 v6 v16 H := by
  kernel_rfl

noncomputable def F82 (C : Oracle) (n : Nat) (a0 a1 : Value) (H : Heap) : Option (Value × Heap) :=
  bnd (some ((Value.slice none 0 0), H)) fun x0 H =>
  bnd (some (a1, H)) fun x23 H =>
  bnd (pS (abin Try.prog .lss 3 x23 (Value.int .i64 (0))) H) fun x24 H =>
  brB x24 (bnd (none) fun x25 H =>
  bnd (none) fun x26 H =>
  F82_j0 C n [a0, a1, x0, x24, undef] H) (
  F82_j0 C n [a0, a1, x0, x24, undef] H)

theorem F82_eq (G : Oracle) (n : Nat) (a0 a1 : Value) (H : Heap) : run G (n + 1) 82 [a0, a1] H = F82 (run G n) n a0 a1 H := by
  unfold run; rw [acall_k (fn := Try.f82) (keep := [0, 1, 4, 6, 16]) (notBad 82 rfl) (by kernel_rfl) (by kernel_rfl)]
  kernel_rfl

abbrev F85_st (v0 : Value := undef) (v1 : Value := undef) (v4 : Value := undef) (v8 : Value := undef) (v7 : Value := undef) (v9 : Value := undef) (v5 : Value := undef) (v16 : Value := undef) : List Value := [v0, v1, v4, v8, v7, v9, v5, v16]

noncomputable def F85_b0 (C : Oracle) (n : Nat) (vs : List Value) (H : Heap) : AOut :=
  bnd (pS (abin Try.prog .lss 3 (sl [0, 1, 4, 8, 7, 9, 5, 16] vs 8) (sl [0, 1, 4, 8, 7, 9, 5, 16] vs 7)) H) fun x4 H =>
  brB x4 (bnd (some ((sl [0, 1, 4, 8, 7, 9, 5, 16] vs 8), H)) fun x5 H =>
  bnd (some (x5, H)) fun x6 H =>
  bnd (some ((sl [0, 1, 4, 8, 7, 9, 5, 16] vs 1), H)) fun x7 H =>
  bnd (some ((sl [0, 1, 4, 8, 7, 9, 5, 16] vs 0), H)) fun x8 H =>
  bnd (some (x6, H)) fun x9 H =>
  bnd (iadS 1 x8 x9 H) fun x10 H =>
  bnd (pS (ld1 x10 H) H) fun x11 H =>
  bnd (dynC C x7 [x11] H) fun x12 H =>
  brB x12 (bnd (some (x6, H)) fun x13 H =>
  bnd (some (x13, H)) fun x14 H =>
  fin .ret [(sl [0, 1, 4, 8, 7, 9, 5, 16] vs 0), (sl [0, 1, 4, 8, 7, 9, 5, 16] vs 1), x14, (sl [0, 1, 4, 8, 7, 9, 5, 16] vs 8), (sl [0, 1, 4, 8, 7, 9, 5, 16] vs 7), x4, x6, x12] H) (
  bnd (pS (abin Try.prog .add 3 (sl [0, 1, 4, 8, 7, 9, 5, 16] vs 8) (Value.int .i64 (1))) H) fun x15 H =>
  bnd (some (x15, H)) fun x16 H =>
  fin .normal [(sl [0, 1, 4, 8, 7, 9, 5, 16] vs 0), (sl [0, 1, 4, 8, 7, 9, 5, 16] vs 1), (sl [0, 1, 4, 8, 7, 9, 5, 16] vs 4), x16, (sl [0, 1, 4, 8, 7, 9, 5, 16] vs 7), x4, x6, x12] H)) (
  fin (.exit 0) [(sl [0, 1, 4, 8, 7, 9, 5, 16] vs 0), (sl [0, 1, 4, 8, 7, 9, 5, 16] vs 1), (sl [0, 1, 4, 8, 7, 9, 5, 16] vs 4), (sl [0, 1, 4, 8, 7, 9, 5, 16] vs 8), (sl [0, 1, 4, 8, 7, 9, 5, 16] vs 7), x4, (sl [0, 1, 4, 8, 7, 9, 5, 16] vs 5), (sl [0, 1, 4, 8, 7, 9, 5, 16] vs 16)] H)

noncomputable def F85_b0v (C : Oracle) (n : Nat) (v0 v1 v4 v8 v7 v9 v5 v16 : Value) (H : Heap) : AOut :=
  bnd (pS (abin Try.prog .lss 3 v8 v7) H) fun x4 H =>
  brB x4 (bnd (some (v8, H)) fun x5 H =>
  bnd (some (x5, H)) fun x6 H =>
  bnd (some (v1, H)) fun x7 H =>
  bnd (some (v0, H)) fun x8 H =>
  bnd (some (x6, H)) fun x9 H =>
  bnd (iadS 1 x8 x9 H) fun x10 H =>
  bnd (pS (ld1 x10 H) H) fun x11 H =>
  bnd (dynC C x7 [x11] H) fun x12 H =>
  brB x12 (bnd (some (x6, H)) fun x13 H =>
  bnd (some (x13, H)) fun x14 H =>
  fin .ret [v0, v1, x14, v8, v7, x4, x6, x12] H) (
  bnd (pS (abin Try.prog .add 3 v8 (Value.int .i64 (1))) H) fun x15 H =>
  bnd (some (x15, H)) fun x16 H =>
  fin .normal [v0, v1, v4, x16, v7, x4, x6, x12] H)) (
  fin (.exit 0) [v0, v1, v4, v8, v7, x4, v5, v16] H)

theorem F85_b0_v (C : Oracle) (n : Nat) (v0 v1 v4 v8 v7 v9 v5 v16 : Value) (H : Heap) : F85_b0 C n [v0, v1, v4, v8, v7, v9, v5, v16] H = F85_b0v C n v0 v1 v4 v8 v7 v9 v5 v16 H := by
  kernel_rfl

noncomputable def F85_j1 (C : Oracle) (n : Nat) (vs : List Value) (H : Heap) : Option (Value × Heap) :=
  bnd (some ((Value.int .i64 (-1)), H)) fun x17 H =>
  some (x17, H)

noncomputable def F85_j1v (C : Oracle) (n : Nat) (v0 v1 v4 v8 v7 v9 v5 v16 : Value) (H : Heap) : Option (Value × Heap) :=
  bnd (some ((Value.int .i64 (-1)), H)) fun x17 H =>
  some (x17, H)

theorem F85_j1_v (C : Oracle) (n : Nat) (v0 v1 v4 v8 v7 v9 v5 v16 : Value) (H : Heap) : F85_j1 C n [v0, v1, v4, v8, v7, v9, v5, v16] H = F85_j1v C n v0 v1 v4 v8 v7 v9 v5 v16 H := by
  kernel_rfl

noncomputable def F85 (C : Oracle) (n : Nat) (a0 a1 : Value) (H : Heap) : Option (Value × Heap) :=
  bnd (some ((Value.int .i64 (0)), H)) fun x0 H =>
  bnd (some (a0, H)) fun x1 H =>
  bnd (pS (slen x1) H) fun x2 H =>
  bnd (some ((Value.int .i64 (0)), H)) fun x3 H =>
  onOut (iter n (F85_b0 C n) [a0, a1, x0, x3, x2, undef, undef, undef] H) (kBlk 0 (kSeq (F85_j1 C n) (kRet Try.prog [.tmp 4] [0, 1, 4, 8, 7, 9, 5, 16])))

theorem F85_eq (G : Oracle) (n : Nat) (a0 a1 : Value) (H : Heap) : run G (n + 1) 85 [a0, a1] H = F85 (run G n) n a0 a1 H := by
  unfold run; rw [acall_k (fn := Try.f85) (keep := [0, 1, 4, 8, 7, 9, 5, 16]) (notBad 85 rfl) (by kernel_rfl) (by kernel_rfl)]
  kernel_rfl


end Go.Proofs.Ytpenlcigickkbaa.Fun
