/- The program's functions as plain terms, each with its equation; printed by wip/am/fun.py. -/
import Derived.Test.YtpenlcigickkbaaFunK
namespace Go.Proofs.Ytpenlcigickkbaa.Fun
open Go.RowKit Go.Proofs.YtpenlcigickkbaaA.Am
set_option linter.unusedVariables false
set_option maxRecDepth 10000
noncomputable def F18 (C : Oracle) (n : Nat) (a0 a1 : Value) (H : Heap) : Option (Value × Heap) :=
  bnd (some ((Value.int .i64 (0)), H)) fun x0 H =>
  bnd (some (a0, H)) fun x1 H =>
  bnd (some (a1, H)) fun x2 H =>
  bnd (C 66 [x1, x2] H) fun x3 H =>
  bnd (some (x3, H)) fun x4 H =>
  bnd (some (x4, H)) fun x5 H =>
  bnd (pS (abin Try.prog .eql 81 x5 (Value.pointer none)) H) fun x6 H =>
  brB x6 (bnd (some ((Value.int .i64 (0)), H)) fun x7 H =>
  some (x7, H)) (
  bnd (some (x4, H)) fun x8 H =>
  bnd (nckS x8 H) fun x9 H =>
  bnd (pS (ld1 x9 H) H) fun x10 H =>
  bnd (some (x10, H)) fun x11 H =>
  some (x11, H))

theorem F18_eq (G : Oracle) (n : Nat) (a0 a1 : Value) (H : Heap) : run G (n + 1) 18 [a0, a1] H = F18 (run G n) n a0 a1 H := by
  unfold run; rw [acall_k (fn := Try.f18) (keep := [0, 1, 4, 5, 10]) (notBad 18 rfl) (by kernel_rfl) (by kernel_rfl)]
  kernel_rfl

noncomputable def F21 (C : Oracle) (n : Nat) (a0 : Value) (H : Heap) : Option (Value × Heap) :=
  bnd (some ((Value.int .i64 (0)), H)) fun x0 H =>
  bnd (some (a0, H)) fun x1 H =>
  bnd (nckS x1 H) fun x2 H =>
  bnd (fadS 3 x2 H) fun x3 H =>
  bnd (pS (ld1 x3 H) H) fun x4 H =>
  bnd (some (x4, H)) fun x5 H =>
  some (x5, H)

theorem F21_eq (G : Oracle) (n : Nat) (a0 : Value) (H : Heap) : run G (n + 1) 21 [a0] H = F21 (run G n) n a0 H := by
  unfold run; rw [acall_k (fn := Try.f21) (keep := [0, 2]) (notBad 21 rfl) (by kernel_rfl) (by kernel_rfl)]
  kernel_rfl

noncomputable def F25 (C : Oracle) (n : Nat) (a0 a1 a2 a3 : Value) (H : Heap) : Option (Value × Heap) :=
  bnd (some ((Value.bool false), H)) fun x0 H =>
  bnd (some (a0, H)) fun x1 H =>
  bnd (some (a1, H)) fun x2 H =>
  bnd (C 66 [x1, x2] H) fun x3 H =>
  bnd (some (x3, H)) fun x4 H =>
  bnd (some (x4, H)) fun x5 H =>
  bnd (pS (abin Try.prog .eql 81 x5 (Value.pointer none)) H) fun x6 H =>
  bnd (some (x6, H)) fun x7 H =>
  bnd (gd (wantV x7 false) (some (x4, H)) H) fun x8 H =>
  bnd (gd (wantV x7 false) (nckS x8 H) H) fun x9 H =>
  bnd (gd (wantV x7 false) (pS (ld1 x9 H) H) H) fun x10 H =>
  bnd (gd (wantV x7 false) (some (a2, H)) H) fun x11 H =>
  bnd (gd (wantV x7 false) (pS (abin Try.prog .neq 2 x10 x11) H) H) fun x12 H =>
  bnd (pickS x7 (Value.bool true) x12 H) fun x13 H =>
  brB x13 (bnd (some ((Value.bool false), H)) fun x14 H =>
  some (x14, H)) (
  bnd (some (x4, H)) fun x15 H =>
  bnd (some (a3, H)) fun x16 H =>
  bnd (nckS x15 H) fun x17 H =>
  bnd (stS 1 x17 x16 H) fun x18 H =>
  bnd (some ((Value.bool true), H)) fun x19 H =>
  some (x19, H))

theorem F25_eq (G : Oracle) (n : Nat) (a0 a1 a2 a3 : Value) (H : Heap) : run G (n + 1) 25 [a0, a1, a2, a3] H = F25 (run G n) n a0 a1 a2 a3 H := by
  unfold run; rw [acall_k (fn := Try.f25) (keep := [0, 1, 2, 3, 8, 9, 21]) (notBad 25 rfl) (by kernel_rfl) (by kernel_rfl)]
  kernel_rfl

noncomputable def F29 (C : Oracle) (n : Nat) (a0 : Value) (H : Heap) : Option (Value × Heap) :=
  bnd (some ((Value.pointer none), H)) fun x0 H =>
  bnd (some ((Value.int .i64 (0)), H)) fun x1 H =>
  bnd (some (a0, H)) fun x2 H =>
  bnd (pS (abin Try.prog .lss 3 x2 (Value.int .i64 (1))) H) fun x3 H =>
  bnd (some (x3, H)) fun x4 H =>
  bnd (gd (wantV x4 false) (some (a0, H)) H) fun x5 H =>
  bnd (gd (wantV x4 false) (pS (abin Try.prog .gtr 3 x5 (Value.int .i64 (65536))) H) H) fun x6 H =>
  bnd (pickS x4 (Value.bool true) x6 H) fun x7 H =>
  brB x7 (bnd (some ((Value.pointer none), H)) fun x8 H =>
  bnd (some ((Value.int .i64 (1)), H)) fun x9 H =>
  some (Value.tuple #[x8, x9], H)) (
  bnd (some (a0, H)) fun x10 H =>
  bnd (pS (abuild Try.prog 51 [(0, x10)]) H) fun x11 H =>
  bnd (boxS 51 x11 H) fun x12 H =>
  bnd (some (x12, H)) fun x13 H =>
  bnd (some ((Value.int .i64 (0)), H)) fun x14 H =>
  some (Value.tuple #[x13, x14], H))

theorem F29_eq (G : Oracle) (n : Nat) (a0 : Value) (H : Heap) : run G (n + 1) 29 [a0] H = F29 (run G n) n a0 H := by
  unfold run; rw [acall_k (fn := Try.f29) (keep := [0, 2, 3, 9]) (notBad 29 rfl) (by kernel_rfl) (by kernel_rfl)]
  kernel_rfl

abbrev F31_st (v0 : Value := undef) (v1 : Value := undef) (v2 : Value := undef) (v6 : Value := undef) (v5 : Value := undef) (v24 : Value := undef) (v25 : Value := undef) (v8 : Value := undef) (v13 : Value := undef) (v47 : Value := undef) (v9 : Value := undef) (v11 : Value := undef) (v10 : Value := undef) (v12 : Value := undef) (v66 : Value := undef) (v7 : Value := undef) (v75 : Value := undef) (v87 : Value := undef) (v94 : Value := undef) (v14 : Value := undef) (v111 : Value := undef) : List Value := [v0, v1, v2, v6, v5, v24, v25, v8, v13, v47, v9, v11, v10, v12, v66, v7, v75, v87, v94, v14, v111]

noncomputable def F31_j0 (C : Oracle) (n : Nat) (vs : List Value) (H : Heap) : Option (Value × Heap) :=
  bnd (some ((Value.bool true), H)) fun x10 H =>
  some (x10, H)

noncomputable def F31_j0v (C : Oracle) (n : Nat) (v0 v1 v2 v6 v5 v24 v25 v8 v13 v47 v9 v11 v10 v12 v66 v7 v75 v87 v94 v14 v111 : Value) (H : Heap) : Option (Value × Heap) :=
  bnd (some ((Value.bool true), H)) fun x10 H =>
  some (x10, H)

theorem F31_j0_v (C : Oracle) (n : Nat) (v0 v1 v2 v6 v5 v24 v25 v8 v13 v47 v9 v11 v10 v12 v66 v7 v75 v87 v94 v14 v111 : Value) (H : Heap) : F31_j0 C n [v0, v1, v2, v6, v5, v24, v25, v8, v13, v47, v9, v11, v10, v12, v66, v7, v75, v87, v94, v14, v111] H = F31_j0v C n v0 v1 v2 v6 v5 v24 v25 v8 v13 v47 v9 v11 v10 v12 v66 v7 v75 v87 v94 v14 v111 H := by
  kernel_rfl

noncomputable def F31_b1 (C : Oracle) (n : Nat) (vs : List Value) (H : Heap) : AOut :=
  bnd (some ((sl [0, 1, 2, 6, 5, 24, 25, 8, 13, 47, 9, 11, 10, 12, 66, 7, 75, 87, 94, 14, 111] vs 13), H)) fun x39 H =>
  bnd (some ((sl [0, 1, 2, 6, 5, 24, 25, 8, 13, 47, 9, 11, 10, 12, 66, 7, 75, 87, 94, 14, 111] vs 8), H)) fun x40 H =>
  bnd (pS (slen x40) H) fun x41 H =>
  bnd (pS (abin Try.prog .lss 3 x39 x41) H) fun x42 H =>
  brB x42 (bnd (some ((sl [0, 1, 2, 6, 5, 24, 25, 8, 13, 47, 9, 11, 10, 12, 66, 7, 75, 87, 94, 14, 111] vs 8), H)) fun x43 H =>
  bnd (some ((sl [0, 1, 2, 6, 5, 24, 25, 8, 13, 47, 9, 11, 10, 12, 66, 7, 75, 87, 94, 14, 111] vs 13), H)) fun x44 H =>
  bnd (some ((sl [0, 1, 2, 6, 5, 24, 25, 8, 13, 47, 9, 11, 10, 12, 66, 7, 75, 87, 94, 14, 111] vs 8), H)) fun x45 H =>
  bnd (some ((sl [0, 1, 2, 6, 5, 24, 25, 8, 13, 47, 9, 11, 10, 12, 66, 7, 75, 87, 94, 14, 111] vs 13), H)) fun x46 H =>
  bnd (iadS 1 x45 x46 H) fun x47 H =>
  bnd (pS (ld1 x47 H) H) fun x48 H =>
  bnd (pS (abin Try.prog .add 2 x48 (Value.int .i64 (1))) H) fun x49 H =>
  bnd (iadS 1 x43 x44 H) fun x50 H =>
  bnd (stS 1 x50 x49 H) fun x51 H =>
  bnd (some ((sl [0, 1, 2, 6, 5, 24, 25, 8, 13, 47, 9, 11, 10, 12, 66, 7, 75, 87, 94, 14, 111] vs 13), H)) fun x52 H =>
  bnd (pS (abin Try.prog .add 3 x52 (Value.int .i64 (1))) H) fun x53 H =>
  bnd (some (x53, H)) fun x54 H =>
  fin .normal [(sl [0, 1, 2, 6, 5, 24, 25, 8, 13, 47, 9, 11, 10, 12, 66, 7, 75, 87, 94, 14, 111] vs 0), (sl [0, 1, 2, 6, 5, 24, 25, 8, 13, 47, 9, 11, 10, 12, 66, 7, 75, 87, 94, 14, 111] vs 1), (sl [0, 1, 2, 6, 5, 24, 25, 8, 13, 47, 9, 11, 10, 12, 66, 7, 75, 87, 94, 14, 111] vs 2), (sl [0, 1, 2, 6, 5, 24, 25, 8, 13, 47, 9, 11, 10, 12, 66, 7, 75, 87, 94, 14, 111] vs 6), (sl [0, 1, 2, 6, 5, 24, 25, 8, 13, 47, 9, 11, 10, 12, 66, 7, 75, 87, 94, 14, 111] vs 5), (sl [0, 1, 2, 6, 5, 24, 25, 8, 13, 47, 9, 11, 10, 12, 66, 7, 75, 87, 94, 14, 111] vs 24), (sl [0, 1, 2, 6, 5, 24, 25, 8, 13, 47, 9, 11, 10, 12, 66, 7, 75, 87, 94, 14, 111] vs 25), (sl [0, 1, 2, 6, 5, 24, 25, 8, 13, 47, 9, 11, 10, 12, 66, 7, 75, 87, 94, 14, 111] vs 8), x54, x42, (sl [0, 1, 2, 6, 5, 24, 25, 8, 13, 47, 9, 11, 10, 12, 66, 7, 75, 87, 94, 14, 111] vs 9), (sl [0, 1, 2, 6, 5, 24, 25, 8, 13, 47, 9, 11, 10, 12, 66, 7, 75, 87, 94, 14, 111] vs 11), (sl [0, 1, 2, 6, 5, 24, 25, 8, 13, 47, 9, 11, 10, 12, 66, 7, 75, 87, 94, 14, 111] vs 10), (sl [0, 1, 2, 6, 5, 24, 25, 8, 13, 47, 9, 11, 10, 12, 66, 7, 75, 87, 94, 14, 111] vs 12), (sl [0, 1, 2, 6, 5, 24, 25, 8, 13, 47, 9, 11, 10, 12, 66, 7, 75, 87, 94, 14, 111] vs 66), (sl [0, 1, 2, 6, 5, 24, 25, 8, 13, 47, 9, 11, 10, 12, 66, 7, 75, 87, 94, 14, 111] vs 7), (sl [0, 1, 2, 6, 5, 24, 25, 8, 13, 47, 9, 11, 10, 12, 66, 7, 75, 87, 94, 14, 111] vs 75), (sl [0, 1, 2, 6, 5, 24, 25, 8, 13, 47, 9, 11, 10, 12, 66, 7, 75, 87, 94, 14, 111] vs 87), (sl [0, 1, 2, 6, 5, 24, 25, 8, 13, 47, 9, 11, 10, 12, 66, 7, 75, 87, 94, 14, 111] vs 94), (sl [0, 1, 2, 6, 5, 24, 25, 8, 13, 47, 9, 11, 10, 12, 66, 7, 75, 87, 94, 14, 111] vs 14), (sl [0, 1, 2, 6, 5, 24, 25, 8, 13, 47, 9, 11, 10, 12, 66, 7, 75, 87, 94, 14, 111] vs 111)] H) (
  fin (.exit 1) [(sl [0, 1, 2, 6, 5, 24, 25, 8, 13, 47, 9, 11, 10, 12, 66, 7, 75, 87, 94, 14, 111] vs 0), (sl [0, 1, 2, 6, 5, 24, 25, 8, 13, 47, 9, 11, 10, 12, 66, 7, 75, 87, 94, 14, 111] vs 1), (sl [0, 1, 2, 6, 5, 24, 25, 8, 13, 47, 9, 11, 10, 12, 66, 7, 75, 87, 94, 14, 111] vs 2), (sl [0, 1, 2, 6, 5, 24, 25, 8, 13, 47, 9, 11, 10, 12, 66, 7, 75, 87, 94, 14, 111] vs 6), (sl [0, 1, 2, 6, 5, 24, 25, 8, 13, 47, 9, 11, 10, 12, 66, 7, 75, 87, 94, 14, 111] vs 5), (sl [0, 1, 2, 6, 5, 24, 25, 8, 13, 47, 9, 11, 10, 12, 66, 7, 75, 87, 94, 14, 111] vs 24), (sl [0, 1, 2, 6, 5, 24, 25, 8, 13, 47, 9, 11, 10, 12, 66, 7, 75, 87, 94, 14, 111] vs 25), (sl [0, 1, 2, 6, 5, 24, 25, 8, 13, 47, 9, 11, 10, 12, 66, 7, 75, 87, 94, 14, 111] vs 8), (sl [0, 1, 2, 6, 5, 24, 25, 8, 13, 47, 9, 11, 10, 12, 66, 7, 75, 87, 94, 14, 111] vs 13), x42, (sl [0, 1, 2, 6, 5, 24, 25, 8, 13, 47, 9, 11, 10, 12, 66, 7, 75, 87, 94, 14, 111] vs 9), (sl [0, 1, 2, 6, 5, 24, 25, 8, 13, 47, 9, 11, 10, 12, 66, 7, 75, 87, 94, 14, 111] vs 11), (sl [0, 1, 2, 6, 5, 24, 25, 8, 13, 47, 9, 11, 10, 12, 66, 7, 75, 87, 94, 14, 111] vs 10), (sl [0, 1, 2, 6, 5, 24, 25, 8, 13, 47, 9, 11, 10, 12, 66, 7, 75, 87, 94, 14, 111] vs 12), (sl [0, 1, 2, 6, 5, 24, 25, 8, 13, 47, 9, 11, 10, 12, 66, 7, 75, 87, 94, 14, 111] vs 66), (sl [0, 1, 2, 6, 5, 24, 25, 8, 13, 47, 9, 11, 10, 12, 66, 7, 75, 87, 94, 14, 111] vs 7), (sl [0, 1, 2, 6, 5, 24, 25, 8, 13, 47, 9, 11, 10, 12, 66, 7, 75, 87, 94, 14, 111] vs 75), (sl [0, 1, 2, 6, 5, 24, 25, 8, 13, 47, 9, 11, 10, 12, 66, 7, 75, 87, 94, 14, 111] vs 87), (sl [0, 1, 2, 6, 5, 24, 25, 8, 13, 47, 9, 11, 10, 12, 66, 7, 75, 87, 94, 14, 111] vs 94), (sl [0, 1, 2, 6, 5, 24, 25, 8, 13, 47, 9, 11, 10, 12, 66, 7, 75, 87, 94, 14, 111] vs 14), (sl [0, 1, 2, 6, 5, 24, 25, 8, 13, 47, 9, 11, 10, 12, 66, 7, 75, 87, 94, 14, 111] vs 111)] H)

noncomputable def F31_b1v (C : Oracle) (n : Nat) (v0 v1 v2 v6 v5 v24 v25 v8 v13 v47 v9 v11 v10 v12 v66 v7 v75 v87 v94 v14 v111 : Value) (H : Heap) : AOut :=
  bnd (some (v13, H)) fun x39 H =>
  bnd (some (v8, H)) fun x40 H =>
  bnd (pS (slen x40) H) fun x41 H =>
  bnd (pS (abin Try.prog .lss 3 x39 x41) H) fun x42 H =>
  brB x42 (bnd (some (v8, H)) fun x43 H =>
  bnd (some (v13, H)) fun x44 H =>
  bnd (some (v8, H)) fun x45 H =>
  bnd (some (v13, H)) fun x46 H =>
  bnd (iadS 1 x45 x46 H) fun x47 H =>
  bnd (pS (ld1 x47 H) H) fun x48 H =>
  bnd (pS (abin Try.prog .add 2 x48 (Value.int .i64 (1))) H) fun x49 H =>
  bnd (iadS 1 x43 x44 H) fun x50 H =>
  bnd (stS 1 x50 x49 H) fun x51 H =>
  bnd (some (v13, H)) fun x52 H =>
  bnd (pS (abin Try.prog .add 3 x52 (Value.int .i64 (1))) H) fun x53 H =>
  bnd (some (x53, H)) fun x54 H =>
  fin .normal [v0, v1, v2, v6, v5, v24, v25, v8, x54, x42, v9, v11, v10, v12, v66, v7, v75, v87, v94, v14, v111] H) (
  fin (.exit 1) [v0, v1, v2, v6, v5, v24, v25, v8, v13, x42, v9, v11, v10, v12, v66, v7, v75, v87, v94, v14, v111] H)

theorem F31_b1_v (C : Oracle) (n : Nat) (v0 v1 v2 v6 v5 v24 v25 v8 v13 v47 v9 v11 v10 v12 v66 v7 v75 v87 v94 v14 v111 : Value) (H : Heap) : F31_b1 C n [v0, v1, v2, v6, v5, v24, v25, v8, v13, v47, v9, v11, v10, v12, v66, v7, v75, v87, v94, v14, v111] H = F31_b1v C n v0 v1 v2 v6 v5 v24 v25 v8 v13 v47 v9 v11 v10 v12 v66 v7 v75 v87 v94 v14 v111 H := by
  kernel_rfl

noncomputable def F31_j2 (C : Oracle) (n : Nat) (vs : List Value) (H : Heap) : Option (Value × Heap) :=
  bnd (some ((sl [0, 1, 2, 6, 5, 24, 25, 8, 13, 47, 9, 11, 10, 12, 66, 7, 75, 87, 94, 14, 111] vs 9), H)) fun x55 H =>
  bnd (some ((sl [0, 1, 2, 6, 5, 24, 25, 8, 13, 47, 9, 11, 10, 12, 66, 7, 75, 87, 94, 14, 111] vs 11), H)) fun x56 H =>
  bnd (pS (abin Try.prog .eql 3 x55 x56) H) fun x57 H =>
  bnd (some (x57, H)) fun x58 H =>
  bnd (gd (wantV x58 true) (some ((sl [0, 1, 2, 6, 5, 24, 25, 8, 13, 47, 9, 11, 10, 12, 66, 7, 75, 87, 94, 14, 111] vs 10), H)) H) fun x59 H =>
  bnd (gd (wantV x58 true) (some ((sl [0, 1, 2, 6, 5, 24, 25, 8, 13, 47, 9, 11, 10, 12, 66, 7, 75, 87, 94, 14, 111] vs 12), H)) H) fun x60 H =>
  bnd (gd (wantV x58 true) (pS (abin Try.prog .eql 4 x59 x60) H) H) fun x61 H =>
  bnd (pickS x58 x61 (Value.bool false) H) fun x62 H =>
  bnd (some (x62, H)) fun x63 H =>
  some (x63, H)

noncomputable def F31_j2v (C : Oracle) (n : Nat) (v0 v1 v2 v6 v5 v24 v25 v8 v13 v47 v9 v11 v10 v12 v66 v7 v75 v87 v94 v14 v111 : Value) (H : Heap) : Option (Value × Heap) :=
  bnd (some (v9, H)) fun x55 H =>
  bnd (some (v11, H)) fun x56 H =>
  bnd (pS (abin Try.prog .eql 3 x55 x56) H) fun x57 H =>
  bnd (some (x57, H)) fun x58 H =>
  bnd (gd (wantV x58 true) (some (v10, H)) H) fun x59 H =>
  bnd (gd (wantV x58 true) (some (v12, H)) H) fun x60 H =>
  bnd (gd (wantV x58 true) (pS (abin Try.prog .eql 4 x59 x60) H) H) fun x61 H =>
  bnd (pickS x58 x61 (Value.bool false) H) fun x62 H =>
  bnd (some (x62, H)) fun x63 H =>
  some (x63, H)

theorem F31_j2_v (C : Oracle) (n : Nat) (v0 v1 v2 v6 v5 v24 v25 v8 v13 v47 v9 v11 v10 v12 v66 v7 v75 v87 v94 v14 v111 : Value) (H : Heap) : F31_j2 C n [v0, v1, v2, v6, v5, v24, v25, v8, v13, v47, v9, v11, v10, v12, v66, v7, v75, v87, v94, v14, v111] H = F31_j2v C n v0 v1 v2 v6 v5 v24 v25 v8 v13 v47 v9 v11 v10 v12 v66 v7 v75 v87 v94 v14 v111 H := by
  kernel_rfl

noncomputable def F31_j3 (C : Oracle) (n : Nat) (vs : List Value) (H : Heap) : Option (Value × Heap) :=
  bnd (some ((sl [0, 1, 2, 6, 5, 24, 25, 8, 13, 47, 9, 11, 10, 12, 66, 7, 75, 87, 94, 14, 111] vs 0), H)) fun x91 Hx91 =>
  bnd (some ((sl [0, 1, 2, 6, 5, 24, 25, 8, 13, 47, 9, 11, 10, 12, 66, 7, 75, 87, 94, 14, 111] vs 7), Hx91)) fun x92 Hx92 =>
  bnd (some ((sl [0, 1, 2, 6, 5, 24, 25, 8, 13, 47, 9, 11, 10, 12, 66, 7, 75, 87, 94, 14, 111] vs 14), Hx92)) fun x93 Hx93 =>
  bnd (fadS 3 (sl [0, 1, 2, 6, 5, 24, 25, 8, 13, 47, 9, 11, 10, 12, 66, 7, 75, 87, 94, 14, 111] vs 5) Hx93) fun x94 Hx94 =>
  bnd (pS (ld1 x94 Hx94) Hx94) fun x95 Hx95 =>
  bnd (C 25 [x91, x92, x93, x95] Hx95) fun x96 Hx96 =>
  bnd (some ((sl [0, 1, 2, 6, 5, 24, 25, 8, 13, 47, 9, 11, 10, 12, 66, 7, 75, 87, 94, 14, 111] vs 1), Hx96)) fun x97 Hx97 =>
  bnd (some ((sl [0, 1, 2, 6, 5, 24, 25, 8, 13, 47, 9, 11, 10, 12, 66, 7, 75, 87, 94, 14, 111] vs 7), Hx97)) fun x98 Hx98 =>
  bnd (some ((sl [0, 1, 2, 6, 5, 24, 25, 8, 13, 47, 9, 11, 10, 12, 66, 7, 75, 87, 94, 14, 111] vs 14), Hx98)) fun x99 Hx99 =>
  bnd (fadS 3 (sl [0, 1, 2, 6, 5, 24, 25, 8, 13, 47, 9, 11, 10, 12, 66, 7, 75, 87, 94, 14, 111] vs 5) Hx99) fun x100 Hx100 =>
  bnd (pS (ld1 x100 Hx100) Hx100) fun x101 Hx101 =>
  bnd (C 72 [x97, x98, x99, x101] Hx101) fun x102 Hx102 =>
  bnd (pS (abin Try.prog .eql 4 x96 x102) Hx102) fun x103 Hx103 =>
  bnd (some (x103, Hx103)) fun x104 Hx104 =>
  (fun H => if (cfS (some true) (some true) (pS (ld1 x100 Hx100) Hx100) (pS (ld1 x100 Hx95) Hx95) (pS (ld1 x100 Hx96) Hx96) && true) = true then
  some (x104, H) else none) Hx104

noncomputable def F31_j3v (C : Oracle) (n : Nat) (v0 v1 v2 v6 v5 v24 v25 v8 v13 v47 v9 v11 v10 v12 v66 v7 v75 v87 v94 v14 v111 : Value) (H : Heap) : Option (Value × Heap) :=
  bnd (some (v0, H)) fun x91 Hx91 =>
  bnd (some (v7, Hx91)) fun x92 Hx92 =>
  bnd (some (v14, Hx92)) fun x93 Hx93 =>
  bnd (fadS 3 v5 Hx93) fun x94 Hx94 =>
  bnd (pS (ld1 x94 Hx94) Hx94) fun x95 Hx95 =>
  bnd (C 25 [x91, x92, x93, x95] Hx95) fun x96 Hx96 =>
  bnd (some (v1, Hx96)) fun x97 Hx97 =>
  bnd (some (v7, Hx97)) fun x98 Hx98 =>
  bnd (some (v14, Hx98)) fun x99 Hx99 =>
  bnd (fadS 3 v5 Hx99) fun x100 Hx100 =>
  bnd (pS (ld1 x100 Hx100) Hx100) fun x101 Hx101 =>
  bnd (C 72 [x97, x98, x99, x101] Hx101) fun x102 Hx102 =>
  bnd (pS (abin Try.prog .eql 4 x96 x102) Hx102) fun x103 Hx103 =>
  bnd (some (x103, Hx103)) fun x104 Hx104 =>
  (fun H => if (cfS (some true) (some true) (pS (ld1 x100 Hx100) Hx100) (pS (ld1 x100 Hx95) Hx95) (pS (ld1 x100 Hx96) Hx96) && true) = true then
  some (x104, H) else none) Hx104

theorem F31_j3_v (C : Oracle) (n : Nat) (v0 v1 v2 v6 v5 v24 v25 v8 v13 v47 v9 v11 v10 v12 v66 v7 v75 v87 v94 v14 v111 : Value) (H : Heap) : F31_j3 C n [v0, v1, v2, v6, v5, v24, v25, v8, v13, v47, v9, v11, v10, v12, v66, v7, v75, v87, v94, v14, v111] H = F31_j3v C n v0 v1 v2 v6 v5 v24 v25 v8 v13 v47 v9 v11 v10 v12 v66 v7 v75 v87 v94 v14 v111 H := by
  kernel_rfl

noncomputable def F31 (C : Oracle) (n : Nat) (a0 a1 a2 : Value) (H : Heap) : Option (Value × Heap) :=
  bnd (boxS 42 a2 H) fun x0 H =>
  bnd (some ((Value.bool false), H)) fun x1 H =>
  bnd (pS (ldn 6 x0 H) H) fun x2 H =>
  bnd (some (a1, H)) fun x3 H =>
  bnd (nckS x3 H) fun x4 H =>
  bnd (fadS 1 x4 H) fun x5 H =>
  bnd (pS (ld1 x5 H) H) fun x6 H =>
  bnd (pS (slen x6) H) fun x7 H =>
  bnd (C 68 [x2, x7] H) fun x8 H =>
  bnd (some (x8, H)) fun x9 H =>
  bnd (fadS 0 x0 H) fun x11 H =>
  bnd (pS (ld1 x11 H) H) fun x12 H =>
  bnd (C 15 [x12, (Value.int .i64 (6))] H) fun x13 H =>
  bnd (pS (abin Try.prog .eql 3 x13 (Value.int .i64 (0))) H) fun x14 H =>
  bnd (some (x14, H)) fun x15 H =>
  brB x15 (bnd (abuildSlice Try.prog 28 0 [] H) fun x16 H =>
  bnd (fadS 5 x0 H) fun x17 H =>
  bnd (pS (ld1 x17 H) H) fun x18 H =>
  bnd (appS 2 1 8 x16 x18 H) fun x19 H =>
  bnd (some (x19, H)) fun x20 H =>
  bnd (some (a0, H)) fun x21 H =>
  bnd (some (x20, H)) fun x22 H =>
  bnd (C 17 [x21, x22] H) fun x23 H =>
  bnd (some (x23, H)) fun x24 H =>
  bnd (extS 0 x24 H) fun x25 H =>
  bnd (extS 1 x24 H) fun x26 H =>
  bnd (some (x25, H)) fun x27 H =>
  bnd (some (x26, H)) fun x28 H =>
  bnd (some (a1, H)) fun x29 H =>
  bnd (fadS 5 x0 H) fun x30 H =>
  bnd (pS (ld1 x30 H) H) fun x31 H =>
  bnd (C 69 [x29, x31] H) fun x32 H =>
  bnd (some (x32, H)) fun x33 H =>
  bnd (extS 0 x33 H) fun x34 H =>
  bnd (extS 1 x33 H) fun x35 H =>
  bnd (some (x34, H)) fun x36 H =>
  bnd (some (x35, H)) fun x37 H =>
  bnd (some ((Value.int .i64 (0)), H)) fun x38 H =>
  onOut (iter n (F31_b1 C n) [a0, a1, a2, x1, x0, x13, x15, x20, x38, undef, x27, x36, x28, x37, undef, x9, undef, undef, undef, undef, undef] H) (kBlk 1 (kSeq (F31_j2 C n) (kBlk 0 (kSeq (F31_j0 C n) (kRet Try.prog [.tmp 6] [0, 1, 2, 6, 5, 24, 25, 8, 13, 47, 9, 11, 10, 12, 66, 7, 75, 87, 94, 14, 111])))))) (
  bnd (pS (abin Try.prog .eql 3 x13 (Value.int .i64 (1))) H) fun x64 H =>
  bnd (some (x64, H)) fun x65 H =>
  brB x65 (bnd (some (a0, H)) fun x66 H =>
  bnd (some (x9, H)) fun x67 H =>
  bnd (C 18 [x66, x67] H) fun x68 H =>
  bnd (some (a1, H)) fun x69 H =>
  bnd (some (x9, H)) fun x70 H =>
  bnd (C 70 [x69, x70] H) fun x71 H =>
  bnd (pS (abin Try.prog .eql 2 x68 x71) H) fun x72 H =>
  bnd (some (x72, H)) fun x73 H =>
  some (x73, H)) (
  bnd (pS (abin Try.prog .eql 3 x13 (Value.int .i64 (2))) H) fun x74 H =>
  bnd (some (x74, H)) fun x75 H =>
  brB x75 (bnd (some (a0, H)) fun x76 H =>
  bnd (some (x9, H)) fun x77 H =>
  bnd (fadS 3 x0 H) fun x78 H =>
  bnd (pS (ld1 x78 H) H) fun x79 H =>
  bnd (C 24 [x76, x77, x79] H) fun x80 H =>
  bnd (some (a1, H)) fun x81 H =>
  bnd (some (x9, H)) fun x82 H =>
  bnd (fadS 3 x0 H) fun x83 H =>
  bnd (pS (ld1 x83 H) H) fun x84 H =>
  bnd (C 71 [x81, x82, x84] H) fun x85 H =>
  F31_j0 C n [a0, a1, a2, x1, x0, x13, x15, undef, undef, undef, undef, undef, undef, undef, x65, x9, x75, undef, undef, undef, undef] H) (
  bnd (pS (abin Try.prog .eql 3 x13 (Value.int .i64 (3))) H) fun x86 H =>
  bnd (some (x86, H)) fun x87 H =>
  brB x87 (bnd (fadS 4 x0 H) fun x88 H =>
  bnd (pS (ld1 x88 H) H) fun x89 H =>
  bnd (some (x89, H)) fun x90 H =>
  bnd (fadS 3 x0 H) fun x105 H =>
  bnd (pS (ld1 x105 H) H) fun x106 H =>
  bnd (pS (abin Try.prog .rem 2 x106 (Value.int .i64 (2))) H) fun x107 H =>
  bnd (pS (abin Try.prog .eql 2 x107 (Value.int .i64 (0))) H) fun x108 H =>
  brB x108 (bnd (some (a1, H)) fun x109 H =>
  bnd (some (x9, H)) fun x110 H =>
  bnd (C 34 [x109, x110] H) fun x111 H =>
  bnd (some (x111, H)) fun x112 H =>
  F31_j3 C n [a0, a1, a2, x1, x0, x13, x15, undef, undef, undef, undef, undef, undef, undef, x65, x9, x75, x87, x108, x112, undef] H) (
  F31_j3 C n [a0, a1, a2, x1, x0, x13, x15, undef, undef, undef, undef, undef, undef, undef, x65, x9, x75, x87, x108, x90, undef] H)) (
  bnd (pS (abin Try.prog .eql 3 x13 (Value.int .i64 (4))) H) fun x113 H =>
  bnd (some (x113, H)) fun x114 H =>
  brB x114 (bnd (some (a0, H)) fun x115 Hx115 =>
  bnd (some (x9, Hx115)) fun x116 Hx116 =>
  bnd (fadS 3 x0 Hx116) fun x117 Hx117 =>
  bnd (pS (ld1 x117 Hx117) Hx117) fun x118 Hx118 =>
  bnd (C 26 [x115, x116, x118] Hx118) fun x119 Hx119 =>
  bnd (some (a1, Hx119)) fun x120 Hx120 =>
  bnd (some (x9, Hx120)) fun x121 Hx121 =>
  bnd (fadS 3 x0 Hx121) fun x122 Hx122 =>
  bnd (pS (ld1 x122 Hx122) Hx122) fun x123 Hx123 =>
  bnd (C 73 [x120, x121, x123] Hx123) fun x124 Hx124 =>
  bnd (pS (abin Try.prog .eql 2 x119 x124) Hx124) fun x125 Hx125 =>
  bnd (some (x125, Hx125)) fun x126 Hx126 =>
  (fun H => if (cfS (some true) (some true) (pS (ld1 x122 Hx122) Hx122) (pS (ld1 x122 Hx118) Hx118) (pS (ld1 x122 Hx119) Hx119) && true) = true then
  some (x126, H) else none) Hx126) (
  F31_j0 C n [a0, a1, a2, x1, x0, x13, x15, undef, undef, undef, undef, undef, undef, undef, x65, x9, x75, x87, undef, undef, x114] H)))))

theorem F31_eq (G : Oracle) (n : Nat) (a0 a1 a2 : Value) (H : Heap) : run G (n + 1) 31 [a0, a1, a2] H = F31 (run G n) n a0 a1 a2 H := by
  unfold run; rw [acall_k (fn := Try.f31) (keep := [0, 1, 2, 6, 5, 24, 25, 8, 13, 47, 9, 11, 10, 12, 66, 7, 75, 87, 94, 14, 111]) (notBad 31 rfl) (by kernel_rfl) (by kernel_rfl)]
  kernel_rfl

noncomputable def F44 (C : Oracle) (n : Nat) (a0 a1 a2 : Value) (H : Heap) : Option (Value × Heap) :=
  bnd (some ((Value.slice none 0 0), H)) fun x0 H =>
  bnd (some (a0, H)) fun x1 H =>
  bnd (some (a1, H)) fun x2 H =>
  bnd (some (a2, H)) fun x3 H =>
  bnd (abuildSlice Try.prog 28 5 [(0, x1), (1, x2), (2, x3), (3, (Value.int .i64 (0))), (4, (Value.int .i64 (0)))] H) fun x4 H =>
  bnd (some (x4, H)) fun x5 H =>
  some (x5, H)

theorem F44_eq (G : Oracle) (n : Nat) (a0 a1 a2 : Value) (H : Heap) : run G (n + 1) 44 [a0, a1, a2] H = F44 (run G n) n a0 a1 a2 H := by
  unfold run; rw [acall_k (fn := Try.f44) (keep := [0, 1, 2, 6]) (notBad 44 rfl) (by kernel_rfl) (by kernel_rfl)]
  kernel_rfl

noncomputable def F56 (C : Oracle) (n : Nat) (a0 : Value) (H : Heap) : Option (Value × Heap) :=
  bnd (some ((Value.pointer none), H)) fun x0 H =>
  bnd (some (a0, H)) fun x1 H =>
  bnd (pS (abuild Try.prog 93 [(1, x1)]) H) fun x2 H =>
  bnd (boxS 93 x2 H) fun x3 H =>
  bnd (some (x3, H)) fun x4 H =>
  some (x4, H)

theorem F56_eq (G : Oracle) (n : Nat) (a0 : Value) (H : Heap) : run G (n + 1) 56 [a0] H = F56 (run G n) n a0 H := by
  unfold run; rw [acall_k (fn := Try.f56) (keep := [0, 2]) (notBad 56 rfl) (by kernel_rfl) (by kernel_rfl)]
  kernel_rfl

noncomputable def F59 (C : Oracle) (n : Nat) (a0 a1 a2 a3 : Value) (H : Heap) : Option (Value × Heap) :=
  bnd (some ((Value.pointer none), H)) fun x0 H =>
  bnd (some (a0, H)) fun x1 H =>
  bnd (some (a1, H)) fun x2 H =>
  bnd (some (a2, H)) fun x3 H =>
  bnd (some (a3, H)) fun x4 H =>
  bnd (pS (abuild Try.prog 95 [(1, x1), (2, x2), (3, x3), (4, x4)]) H) fun x5 H =>
  bnd (boxS 95 x5 H) fun x6 H =>
  bnd (some (x6, H)) fun x7 H =>
  some (x7, H)

theorem F59_eq (G : Oracle) (n : Nat) (a0 a1 a2 a3 : Value) (H : Heap) : run G (n + 1) 59 [a0, a1, a2, a3] H = F59 (run G n) n a0 a1 a2 a3 H := by
  unfold run; rw [acall_k (fn := Try.f59) (keep := [0, 1, 2, 3, 8]) (notBad 59 rfl) (by kernel_rfl) (by kernel_rfl)]
  kernel_rfl

noncomputable def F84 (C : Oracle) (n : Nat) (a0 : Value) (H : Heap) : Option (Value × Heap) :=
  bnd (some ((Value.bool false), H)) fun x0 H =>
  bnd (some (a0, H)) fun x1 H =>
  bnd (pS (abin Try.prog .lss 3 x1 (Value.int .i64 (0))) H) fun x2 H =>
  bnd (some (x2, H)) fun x3 H =>
  bnd (gd (wantV x3 false) (some (a0, H)) H) fun x4 H =>
  bnd (gd (wantV x3 false) (pS (abin Try.prog .gtr 3 x4 (Value.int .i64 (1099511627776))) H) H) fun x5 H =>
  bnd (pickS x3 (Value.bool true) x5 H) fun x6 H =>
  bnd (some (x6, H)) fun x7 H =>
  some (x7, H)

theorem F84_eq (G : Oracle) (n : Nat) (a0 : Value) (H : Heap) : run G (n + 1) 84 [a0] H = F84 (run G n) n a0 H := by
  unfold run; rw [acall_k (fn := Try.f84) (keep := [0, 2]) (notBad 84 rfl) (by kernel_rfl) (by kernel_rfl)]
  kernel_rfl

end Go.Proofs.Ytpenlcigickkbaa.Fun
