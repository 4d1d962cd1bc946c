/- The program's functions as plain terms, each with its equation; printed by wip/am/fun.py. -/
import Derived.Test.YtdgolnenpnkjbaaFunK
namespace Go.Proofs.Ytdgolnenpnkjbaa.Fun
open Go.RowKit Go.Proofs.YtdgolnenpnkjbaaA.Am
set_option linter.unusedVariables false
set_option maxRecDepth 10000
abbrev F11_st (v0 : Value := undef) (v2 : Value := undef) (v4 : Value := undef) (v14 : Value := undef) (v3 : Value := undef) : List Value := [v0, v2, v4, v14, v3]

noncomputable def F11_b0 (C : Oracle) (n : Nat) (vs : List Value) (H : Heap) : AOut :=
  bnd (some ((sl [0, 2, 4, 14, 3] vs 4), H)) fun x5 H =>
  bnd (some ((sl [0, 2, 4, 14, 3] vs 0), H)) fun x6 H =>
  bnd (pS (slen x6) H) fun x7 H =>
  bnd (pS (abin Try.prog .lss 3 x5 x7) H) fun x8 H =>
  bnd (some (x8, H)) fun x9 H =>
  bnd (gd (wantV x9 true) (some ((sl [0, 2, 4, 14, 3] vs 4), H)) H) fun x10 H =>
  bnd (gd (wantV x9 true) (pS (abin Try.prog .lss 3 x10 (Value.int .i64 (200))) H) H) fun x11 H =>
  bnd (pickS x9 x11 (Value.bool false) H) fun x12 H =>
  brB x12 (bnd (some ((sl [0, 2, 4, 14, 3] vs 3), H)) fun x13 H =>
  bnd (some ((sl [0, 2, 4, 14, 3] vs 0), H)) fun x14 H =>
  bnd (some ((sl [0, 2, 4, 14, 3] vs 4), H)) fun x15 H =>
  bnd (iadS 1 x14 x15 H) fun x16 H =>
  bnd (pS (ld1 x16 H) H) fun x17 H =>
  bnd (some ((sl [0, 2, 4, 14, 3] vs 4), H)) fun x18 H =>
  bnd (C 20 [x13, x17, x18] H) fun x19 H =>
  bnd (some ((sl [0, 2, 4, 14, 3] vs 4), H)) fun x20 H =>
  bnd (pS (abin Try.prog .add 3 x20 (Value.int .i64 (1))) H) fun x21 H =>
  bnd (some (x21, H)) fun x22 H =>
  fin .normal [(sl [0, 2, 4, 14, 3] vs 0), (sl [0, 2, 4, 14, 3] vs 2), x22, x12, (sl [0, 2, 4, 14, 3] vs 3)] H) (
  fin (.exit 0) [(sl [0, 2, 4, 14, 3] vs 0), (sl [0, 2, 4, 14, 3] vs 2), (sl [0, 2, 4, 14, 3] vs 4), x12, (sl [0, 2, 4, 14, 3] vs 3)] H)

noncomputable def F11_b0v (C : Oracle) (n : Nat) (v0 v2 v4 v14 v3 : Value) (H : Heap) : AOut :=
  bnd (some (v4, H)) fun x5 H =>
  bnd (some (v0, H)) fun x6 H =>
  bnd (pS (slen x6) H) fun x7 H =>
  bnd (pS (abin Try.prog .lss 3 x5 x7) H) fun x8 H =>
  bnd (some (x8, H)) fun x9 H =>
  bnd (gd (wantV x9 true) (some (v4, H)) H) fun x10 H =>
  bnd (gd (wantV x9 true) (pS (abin Try.prog .lss 3 x10 (Value.int .i64 (200))) H) H) fun x11 H =>
  bnd (pickS x9 x11 (Value.bool false) H) fun x12 H =>
  brB x12 (bnd (some (v3, H)) fun x13 H =>
  bnd (some (v0, H)) fun x14 H =>
  bnd (some (v4, H)) fun x15 H =>
  bnd (iadS 1 x14 x15 H) fun x16 H =>
  bnd (pS (ld1 x16 H) H) fun x17 H =>
  bnd (some (v4, H)) fun x18 H =>
  bnd (C 20 [x13, x17, x18] H) fun x19 H =>
  bnd (some (v4, H)) fun x20 H =>
  bnd (pS (abin Try.prog .add 3 x20 (Value.int .i64 (1))) H) fun x21 H =>
  bnd (some (x21, H)) fun x22 H =>
  fin .normal [v0, v2, x22, x12, v3] H) (
  fin (.exit 0) [v0, v2, v4, x12, v3] H)

theorem F11_b0_v (C : Oracle) (n : Nat) (v0 v2 v4 v14 v3 : Value) (H : Heap) : F11_b0 C n [v0, v2, v4, v14, v3] H = F11_b0v C n v0 v2 v4 v14 v3 H := by
  kernel_rfl

noncomputable def F11_j1 (C : Oracle) (n : Nat) (vs : List Value) (H : Heap) : Option (Value × Heap) :=
  bnd (some ((sl [0, 2, 4, 14, 3] vs 3), H)) fun x23 H =>
  bnd (some (x23, H)) fun x24 H =>
  some (x24, H)

noncomputable def F11_j1v (C : Oracle) (n : Nat) (v0 v2 v4 v14 v3 : Value) (H : Heap) : Option (Value × Heap) :=
  bnd (some (v3, H)) fun x23 H =>
  bnd (some (x23, H)) fun x24 H =>
  some (x24, H)

theorem F11_j1_v (C : Oracle) (n : Nat) (v0 v2 v4 v14 v3 : Value) (H : Heap) : F11_j1 C n [v0, v2, v4, v14, v3] H = F11_j1v C n v0 v2 v4 v14 v3 H := by
  kernel_rfl

noncomputable def F11 (C : Oracle) (n : Nat) (a0 : Value) (H : Heap) : Option (Value × Heap) :=
  bnd (some ((Value.pointer none), H)) fun x0 H =>
  bnd (pS (abuild Try.prog 48 []) H) fun x1 H =>
  bnd (boxS 48 x1 H) fun x2 H =>
  bnd (some (x2, H)) fun x3 H =>
  bnd (some ((Value.int .i64 (0)), H)) fun x4 H =>
  onOut (iter n (F11_b0 C n) [a0, x0, x4, undef, x3] H) (kBlk 0 (kSeq (F11_j1 C n) (kRet Try.prog [.tmp 2] [0, 2, 4, 14, 3])))

theorem F11_eq (G : Oracle) (n : Nat) (a0 : Value) (H : Heap) : run G (n + 1) 11 [a0] H = F11 (run G n) n a0 H := by
  unfold run; rw [acall_k (fn := Try.f11) (keep := [0, 2, 4, 14, 3]) (notBad 11 rfl) (by kernel_rfl) (by kernel_rfl)]
  kernel_rfl

noncomputable def F14 (C : Oracle) (n : Nat) (a0 a1 : Value) (H : Heap) : Option (Value × Heap) :=
  bnd (some ((Value.int .i64 (0)), H)) fun x0 H =>
  bnd (some ((Value.bool false), H)) fun x1 H =>
  bnd (some (a0, H)) fun x2 H =>
  bnd (some (a1, H)) fun x3 H =>
  bnd (C 34 [x2, x3] H) fun x4 H =>
  bnd (some (x4, H)) fun x5 H =>
  bnd (extS 0 x5 H) fun x6 H =>
  bnd (extS 1 x5 H) fun x7 H =>
  bnd (extS 2 x5 H) fun x8 H =>
  bnd (some (x6, H)) fun x9 H =>
  bnd (some (x7, H)) fun x10 H =>
  bnd (some (x8, H)) fun x11 H =>
  bnd (some (x10, H)) fun x12 H =>
  bnd (some (x11, H)) fun x13 H =>
  bnd (some (x12, H)) fun x14 H =>
  bnd (some (x13, H)) fun x15 H =>
  some (Value.tuple #[x14, x15], H)

theorem F14_eq (G : Oracle) (n : Nat) (a0 a1 : Value) (H : Heap) : run G (n + 1) 14 [a0, a1] H = F14 (run G n) n a0 a1 H := by
  unfold run; rw [acall_k (fn := Try.f14) (keep := [0, 1, 4, 5, 7, 8]) (notBad 14 rfl) (by kernel_rfl) (by kernel_rfl)]
  kernel_rfl

noncomputable def F19 (C : Oracle) (n : Nat) (a0 : Value) (H : Heap) : Option (Value × Heap) :=
  bnd (some ((Value.int .i64 (0)), H)) fun x0 H =>
  bnd (some (a0, H)) fun x1 H =>
  bnd (nckS x1 H) fun x2 H =>
  bnd (fadS 0 x2 H) fun x3 H =>
  bnd (pS (ld1 x3 H) H) fun x4 H =>
  bnd (pS (slen x4) H) fun x5 H =>
  bnd (some (x5, H)) fun x6 H =>
  some (x6, H)

theorem F19_eq (G : Oracle) (n : Nat) (a0 : Value) (H : Heap) : run G (n + 1) 19 [a0] H = F19 (run G n) n a0 H := by
  unfold run; rw [acall_k (fn := Try.f19) (keep := [0, 2]) (notBad 19 rfl) (by kernel_rfl) (by kernel_rfl)]
  kernel_rfl

noncomputable def F26 (C : Oracle) (n : Nat) (a0 a1 : Value) (H : Heap) : Option (Value × Heap) :=
  bnd (some ((Value.int .i64 (0)), H)) fun x0 H =>
  bnd (some ((Value.bool false), H)) fun x1 H =>
  bnd (some (a0, H)) fun x2 H =>
  bnd (some (a1, H)) fun x3 H =>
  bnd (C 47 [x2, x3] H) fun x4 H =>
  bnd (some (x4, H)) fun x5 H =>
  bnd (some (x5, H)) fun x6 H =>
  bnd (some (a0, H)) fun x7 H =>
  bnd (pS (slen x7) H) fun x8 H =>
  bnd (pS (abin Try.prog .lss 3 x6 x8) H) fun x9 H =>
  bnd (some (x9, H)) fun x10 H =>
  bnd (gd (wantV x10 true) (some (a0, H)) H) fun x11 H =>
  bnd (gd (wantV x10 true) (some (x5, H)) H) fun x12 H =>
  bnd (gd (wantV x10 true) (iadS 2 x11 x12 H) H) fun x13 H =>
  bnd (gd (wantV x10 true) (fadS 0 x13 H) H) fun x14 H =>
  bnd (gd (wantV x10 true) (pS (ld1 x14 H) H) H) fun x15 H =>
  bnd (gd (wantV x10 true) (some (a1, H)) H) fun x16 H =>
  bnd (gd (wantV x10 true) (pS (abin Try.prog .eql 2 x15 x16) H) H) fun x17 H =>
  bnd (pickS x10 x17 (Value.bool false) H) fun x18 H =>
  brB x18 (bnd (some (a0, H)) fun x19 H =>
  bnd (some (x5, H)) fun x20 H =>
  bnd (iadS 2 x19 x20 H) fun x21 H =>
  bnd (fadS 1 x21 H) fun x22 H =>
  bnd (pS (ld1 x22 H) H) fun x23 H =>
  bnd (some (x23, H)) fun x24 H =>
  bnd (some ((Value.bool true), H)) fun x25 H =>
  some (Value.tuple #[x24, x25], H)) (
  bnd (some ((Value.int .i64 (0)), H)) fun x26 H =>
  bnd (some ((Value.bool false), H)) fun x27 H =>
  some (Value.tuple #[x26, x27], H))

theorem F26_eq (G : Oracle) (n : Nat) (a0 a1 : Value) (H : Heap) : run G (n + 1) 26 [a0, a1] H = F26 (run G n) n a0 a1 H := by
  unfold run; rw [acall_k (fn := Try.f26) (keep := [0, 1, 4, 5, 6, 22]) (notBad 26 rfl) (by kernel_rfl) (by kernel_rfl)]
  kernel_rfl

abbrev F28_st (v0 : Value := undef) (v1 : Value := undef) (v4 : Value := undef) (v5 : Value := undef) (v27 : Value := undef) (v6 : Value := undef) : List Value := [v0, v1, v4, v5, v27, v6]

noncomputable def F28_j0 (C : Oracle) (n : Nat) (vs : List Value) (H : Heap) : Option (Value × Heap) :=
  bnd (some ((sl [0, 1, 4, 5, 27, 6] vs 6), H)) fun x11 H =>
  bnd (some ((sl [0, 1, 4, 5, 27, 6] vs 0), H)) fun x12 H =>
  bnd (some ((sl [0, 1, 4, 5, 27, 6] vs 5), H)) fun x13 H =>
  bnd (pS (scut 2 H x12 (some x13) none) H) fun x14 H =>
  bnd (appS 53 2 16 x11 x14 H) fun x15 H =>
  bnd (some (x15, H)) fun x16 H =>
  some (x16, H)

noncomputable def F28_j0v (C : Oracle) (n : Nat) (v0 v1 v4 v5 v27 v6 : Value) (H : Heap) : Option (Value × Heap) :=
  bnd (some (v6, H)) fun x11 H =>
  bnd (some (v0, H)) fun x12 H =>
  bnd (some (v5, H)) fun x13 H =>
  bnd (pS (scut 2 H x12 (some x13) none) H) fun x14 H =>
  bnd (appS 53 2 16 x11 x14 H) fun x15 H =>
  bnd (some (x15, H)) fun x16 H =>
  some (x16, H)

theorem F28_j0_v (C : Oracle) (n : Nat) (v0 v1 v4 v5 v27 v6 : Value) (H : Heap) : F28_j0 C n [v0, v1, v4, v5, v27, v6] H = F28_j0v C n v0 v1 v4 v5 v27 v6 H := by
  kernel_rfl

noncomputable def F28 (C : Oracle) (n : Nat) (a0 a1 : Value) (H : Heap) : Option (Value × Heap) :=
  bnd (some ((Value.slice none 0 0), H)) fun x0 H =>
  bnd (some (a0, H)) fun x1 H =>
  bnd (some (a1, H)) fun x2 H =>
  bnd (C 47 [x1, x2] H) fun x3 H =>
  bnd (some (x3, H)) fun x4 H =>
  bnd (abuildSlice Try.prog 51 0 [] H) fun x5 H =>
  bnd (some (a0, H)) fun x6 H =>
  bnd (some (x4, H)) fun x7 H =>
  bnd (pS (scut 2 H x6 none (some x7)) H) fun x8 H =>
  bnd (appS 53 2 16 x5 x8 H) fun x9 H =>
  bnd (some (x9, H)) fun x10 H =>
  bnd (some (x4, H)) fun x17 H =>
  bnd (some (a0, H)) fun x18 H =>
  bnd (pS (slen x18) H) fun x19 H =>
  bnd (pS (abin Try.prog .lss 3 x17 x19) H) fun x20 H =>
  bnd (some (x20, H)) fun x21 H =>
  bnd (gd (wantV x21 true) (some (a0, H)) H) fun x22 H =>
  bnd (gd (wantV x21 true) (some (x4, H)) H) fun x23 H =>
  bnd (gd (wantV x21 true) (iadS 2 x22 x23 H) H) fun x24 H =>
  bnd (gd (wantV x21 true) (fadS 0 x24 H) H) fun x25 H =>
  bnd (gd (wantV x21 true) (pS (ld1 x25 H) H) H) fun x26 H =>
  bnd (gd (wantV x21 true) (some (a1, H)) H) fun x27 H =>
  bnd (gd (wantV x21 true) (pS (abin Try.prog .eql 2 x26 x27) H) H) fun x28 H =>
  bnd (pickS x21 x28 (Value.bool false) H) fun x29 H =>
  brB x29 (bnd (some (x4, H)) fun x30 H =>
  bnd (pS (abin Try.prog .add 3 x30 (Value.int .i64 (1))) H) fun x31 H =>
  bnd (some (x31, H)) fun x32 H =>
  F28_j0 C n [a0, a1, x0, x32, x29, x10] H) (
  F28_j0 C n [a0, a1, x0, x4, x29, x10] H)

theorem F28_eq (G : Oracle) (n : Nat) (a0 a1 : Value) (H : Heap) : run G (n + 1) 28 [a0, a1] H = F28 (run G n) n a0 a1 H := by
  unfold run; rw [acall_k (fn := Try.f28) (keep := [0, 1, 4, 5, 27, 6]) (notBad 28 rfl) (by kernel_rfl) (by kernel_rfl)]
  kernel_rfl

noncomputable def F33 (C : Oracle) (n : Nat) (a0 : Value) (H : Heap) : Option (Value × Heap) :=
  bnd (some ((Value.pointer none), H)) fun x0 H =>
  bnd (some (a0, H)) fun x1 Hx1 =>
  bnd (nckS x1 Hx1) fun x2 Hx2 =>
  bnd (fadS 0 x2 Hx2) fun x3 Hx3 =>
  bnd (pS (ld1 x3 Hx3) Hx3) fun x4 Hx4 =>
  bnd (C 50 [x4] Hx4) fun x5 Hx5 =>
  bnd (some (a0, Hx5)) fun x6 Hx6 =>
  bnd (nckS x6 Hx6) fun x7 Hx7 =>
  bnd (fadS 1 x7 Hx7) fun x8 Hx8 =>
  bnd (pS (ld1 x8 Hx8) Hx8) fun x9 Hx9 =>
  bnd (C 50 [x9] Hx9) fun x10 Hx10 =>
  bnd (pS (abuild Try.prog 48 [(0, x5), (1, x10)]) Hx10) fun x11 Hx11 =>
  bnd (boxS 48 x11 Hx11) fun x12 Hx12 =>
  bnd (some (x12, Hx12)) fun x13 Hx13 =>
  (fun H => if (cfS (some true) (some true) (pS (ld1 x8 Hx8) Hx8) (pS (ld1 x8 Hx4) Hx4) (pS (ld1 x8 Hx5) Hx5) && true) = true then
  some (x13, H) else none) Hx13

theorem F33_eq (G : Oracle) (n : Nat) (a0 : Value) (H : Heap) : run G (n + 1) 33 [a0] H = F33 (run G n) n a0 H := by
  unfold run; rw [acall_k (fn := Try.f33) (keep := [0, 2]) (notBad 33 rfl) (by kernel_rfl) (by kernel_rfl)]
  kernel_rfl

abbrev F44_st (v0 : Value := undef) (v1 : Value := undef) (v4 : Value := undef) (v5 : Value := undef) (v6 : Value := undef) (v7 : Value := undef) (v8 : Value := undef) (v15 : Value := undef) (v9 : Value := undef) (v27 : Value := undef) : List Value := [v0, v1, v4, v5, v6, v7, v8, v15, v9, v27]

noncomputable def F44_b0 (C : Oracle) (n : Nat) (vs : List Value) (H : Heap) : AOut :=
  bnd (some ((sl [0, 1, 4, 5, 6, 7, 8, 15, 9, 27] vs 7), H)) fun x8 H =>
  bnd (some ((sl [0, 1, 4, 5, 6, 7, 8, 15, 9, 27] vs 8), H)) fun x9 H =>
  bnd (pS (abin Try.prog .lss 3 x8 x9) H) fun x10 H =>
  brB x10 (bnd (some ((sl [0, 1, 4, 5, 6, 7, 8, 15, 9, 27] vs 7), H)) fun x11 H =>
  bnd (some ((sl [0, 1, 4, 5, 6, 7, 8, 15, 9, 27] vs 8), H)) fun x12 H =>
  bnd (pS (abin Try.prog .add 3 x11 x12) H) fun x13 H =>
  bnd (convS .u64 x13 H) fun x14 H =>
  bnd (pS (abin Try.prog .shr 87 x14 (Value.int .u64 (1))) H) fun x15 H =>
  bnd (convS .i64 x15 H) fun x16 H =>
  bnd (some (x16, H)) fun x17 H =>
  bnd (some ((sl [0, 1, 4, 5, 6, 7, 8, 15, 9, 27] vs 0), H)) fun x18 H =>
  bnd (some (x17, H)) fun x19 H =>
  bnd (iadS 1 x18 x19 H) fun x20 H =>
  bnd (pS (ld1 x20 H) H) fun x21 H =>
  bnd (some ((sl [0, 1, 4, 5, 6, 7, 8, 15, 9, 27] vs 1), H)) fun x22 H =>
  bnd (C 59 [x21, x22] H) fun x23 H =>
  brB x23 (bnd (some (x17, H)) fun x24 H =>
  bnd (pS (abin Try.prog .add 3 x24 (Value.int .i64 (1))) H) fun x25 H =>
  bnd (some (x25, H)) fun x26 H =>
  fin .normal [(sl [0, 1, 4, 5, 6, 7, 8, 15, 9, 27] vs 0), (sl [0, 1, 4, 5, 6, 7, 8, 15, 9, 27] vs 1), (sl [0, 1, 4, 5, 6, 7, 8, 15, 9, 27] vs 4), (sl [0, 1, 4, 5, 6, 7, 8, 15, 9, 27] vs 5), (sl [0, 1, 4, 5, 6, 7, 8, 15, 9, 27] vs 6), x26, (sl [0, 1, 4, 5, 6, 7, 8, 15, 9, 27] vs 8), x10, x17, x23] H) (
  bnd (some (x17, H)) fun x27 H =>
  bnd (some (x27, H)) fun x28 H =>
  fin .normal [(sl [0, 1, 4, 5, 6, 7, 8, 15, 9, 27] vs 0), (sl [0, 1, 4, 5, 6, 7, 8, 15, 9, 27] vs 1), (sl [0, 1, 4, 5, 6, 7, 8, 15, 9, 27] vs 4), (sl [0, 1, 4, 5, 6, 7, 8, 15, 9, 27] vs 5), (sl [0, 1, 4, 5, 6, 7, 8, 15, 9, 27] vs 6), (sl [0, 1, 4, 5, 6, 7, 8, 15, 9, 27] vs 7), x28, x10, x17, x23] H)) (
  fin (.exit 0) [(sl [0, 1, 4, 5, 6, 7, 8, 15, 9, 27] vs 0), (sl [0, 1, 4, 5, 6, 7, 8, 15, 9, 27] vs 1), (sl [0, 1, 4, 5, 6, 7, 8, 15, 9, 27] vs 4), (sl [0, 1, 4, 5, 6, 7, 8, 15, 9, 27] vs 5), (sl [0, 1, 4, 5, 6, 7, 8, 15, 9, 27] vs 6), (sl [0, 1, 4, 5, 6, 7, 8, 15, 9, 27] vs 7), (sl [0, 1, 4, 5, 6, 7, 8, 15, 9, 27] vs 8), x10, (sl [0, 1, 4, 5, 6, 7, 8, 15, 9, 27] vs 9), (sl [0, 1, 4, 5, 6, 7, 8, 15, 9, 27] vs 27)] H)

noncomputable def F44_b0v (C : Oracle) (n : Nat) (v0 v1 v4 v5 v6 v7 v8 v15 v9 v27 : Value) (H : Heap) : AOut :=
  bnd (some (v7, H)) fun x8 H =>
  bnd (some (v8, H)) fun x9 H =>
  bnd (pS (abin Try.prog .lss 3 x8 x9) H) fun x10 H =>
  brB x10 (bnd (some (v7, H)) fun x11 H =>
  bnd (some (v8, H)) fun x12 H =>
  bnd (pS (abin Try.prog .add 3 x11 x12) H) fun x13 H =>
  bnd (convS .u64 x13 H) fun x14 H =>
  bnd (pS (abin Try.prog .shr 87 x14 (Value.int .u64 (1))) H) fun x15 H =>
  bnd (convS .i64 x15 H) fun x16 H =>
  bnd (some (x16, H)) fun x17 H =>
  bnd (some (v0, H)) fun x18 H =>
  bnd (some (x17, H)) fun x19 H =>
  bnd (iadS 1 x18 x19 H) fun x20 H =>
  bnd (pS (ld1 x20 H) H) fun x21 H =>
  bnd (some (v1, H)) fun x22 H =>
  bnd (C 59 [x21, x22] H) fun x23 H =>
  brB x23 (bnd (some (x17, H)) fun x24 H =>
  bnd (pS (abin Try.prog .add 3 x24 (Value.int .i64 (1))) H) fun x25 H =>
  bnd (some (x25, H)) fun x26 H =>
  fin .normal [v0, v1, v4, v5, v6, x26, v8, x10, x17, x23] H) (
  bnd (some (x17, H)) fun x27 H =>
  bnd (some (x27, H)) fun x28 H =>
  fin .normal [v0, v1, v4, v5, v6, v7, x28, x10, x17, x23] H)) (
  fin (.exit 0) [v0, v1, v4, v5, v6, v7, v8, x10, v9, v27] H)

theorem F44_b0_v (C : Oracle) (n : Nat) (v0 v1 v4 v5 v6 v7 v8 v15 v9 v27 : Value) (H : Heap) : F44_b0 C n [v0, v1, v4, v5, v6, v7, v8, v15, v9, v27] H = F44_b0v C n v0 v1 v4 v5 v6 v7 v8 v15 v9 v27 H := by
  kernel_rfl

noncomputable def F44_j1 (C : Oracle) (n : Nat) (vs : List Value) (H : Heap) : Option (Value × Heap) :=
  bnd (some ((sl [0, 1, 4, 5, 6, 7, 8, 15, 9, 27] vs 7), H)) fun x29 H =>
  bnd (some ((sl [0, 1, 4, 5, 6, 7, 8, 15, 9, 27] vs 7), H)) fun x30 H =>
  bnd (some ((sl [0, 1, 4, 5, 6, 7, 8, 15, 9, 27] vs 6), H)) fun x31 H =>
  bnd (pS (abin Try.prog .lss 3 x30 x31) H) fun x32 H =>
  bnd (some (x32, H)) fun x33 H =>
  bnd (gd (wantV x33 true) (some ((sl [0, 1, 4, 5, 6, 7, 8, 15, 9, 27] vs 0), H)) H) fun x34 H =>
  bnd (gd (wantV x33 true) (some ((sl [0, 1, 4, 5, 6, 7, 8, 15, 9, 27] vs 7), H)) H) fun x35 H =>
  bnd (gd (wantV x33 true) (iadS 1 x34 x35 H) H) fun x36 H =>
  bnd (gd (wantV x33 true) (pS (ld1 x36 H) H) H) fun x37 H =>
  bnd (gd (wantV x33 true) (some ((sl [0, 1, 4, 5, 6, 7, 8, 15, 9, 27] vs 1), H)) H) fun x38 H =>
  bnd (gd (wantV x33 true) (pS (abin Try.prog .eql 2 x37 x38) H) H) fun x39 H =>
  bnd (gd (wantV x33 true) (some (x39, H)) H) fun x40 H =>
  bnd (gd (wantV x40 false) (some ((sl [0, 1, 4, 5, 6, 7, 8, 15, 9, 27] vs 0), H)) H) fun x41 H =>
  bnd (gd (wantV x40 false) (some ((sl [0, 1, 4, 5, 6, 7, 8, 15, 9, 27] vs 7), H)) H) fun x42 H =>
  bnd (gd (wantV x40 false) (iadS 1 x41 x42 H) H) fun x43 H =>
  bnd (gd (wantV x40 false) (pS (ld1 x43 H) H) H) fun x44 H =>
  bnd (gd (wantV x40 false) (C 60 [x44] H) H) fun x45 H =>
  bnd (gd (wantV x40 false) (some (x45, H)) H) fun x46 H =>
  bnd (gd (wantV x46 true) (some ((sl [0, 1, 4, 5, 6, 7, 8, 15, 9, 27] vs 1), H)) H) fun x47 H =>
  bnd (gd (wantV x46 true) (C 60 [x47] H) H) fun x48 H =>
  bnd (gd (wantV x40 false) (pickS x46 x48 (Value.bool false) H) H) fun x49 H =>
  bnd (gd (wantV x33 true) (pickS x40 (Value.bool true) x49 H) H) fun x50 H =>
  bnd (pickS x33 x50 (Value.bool false) H) fun x51 H =>
  bnd (some (x29, H)) fun x52 H =>
  bnd (some (x51, H)) fun x53 H =>
  some (Value.tuple #[x52, x53], H)

noncomputable def F44_j1v (C : Oracle) (n : Nat) (v0 v1 v4 v5 v6 v7 v8 v15 v9 v27 : Value) (H : Heap) : Option (Value × Heap) :=
  bnd (some (v7, H)) fun x29 H =>
  bnd (some (v7, H)) fun x30 H =>
  bnd (some (v6, H)) fun x31 H =>
  bnd (pS (abin Try.prog .lss 3 x30 x31) H) fun x32 H =>
  bnd (some (x32, H)) fun x33 H =>
  bnd (gd (wantV x33 true) (some (v0, H)) H) fun x34 H =>
  bnd (gd (wantV x33 true) (some (v7, H)) H) fun x35 H =>
  bnd (gd (wantV x33 true) (iadS 1 x34 x35 H) H) fun x36 H =>
  bnd (gd (wantV x33 true) (pS (ld1 x36 H) H) H) fun x37 H =>
  bnd (gd (wantV x33 true) (some (v1, H)) H) fun x38 H =>
  bnd (gd (wantV x33 true) (pS (abin Try.prog .eql 2 x37 x38) H) H) fun x39 H =>
  bnd (gd (wantV x33 true) (some (x39, H)) H) fun x40 H =>
  bnd (gd (wantV x40 false) (some (v0, H)) H) fun x41 H =>
  bnd (gd (wantV x40 false) (some (v7, H)) H) fun x42 H =>
  bnd (gd (wantV x40 false) (iadS 1 x41 x42 H) H) fun x43 H =>
  bnd (gd (wantV x40 false) (pS (ld1 x43 H) H) H) fun x44 H =>
  bnd (gd (wantV x40 false) (C 60 [x44] H) H) fun x45 H =>
  bnd (gd (wantV x40 false) (some (x45, H)) H) fun x46 H =>
  bnd (gd (wantV x46 true) (some (v1, H)) H) fun x47 H =>
  bnd (gd (wantV x46 true) (C 60 [x47] H) H) fun x48 H =>
  bnd (gd (wantV x40 false) (pickS x46 x48 (Value.bool false) H) H) fun x49 H =>
  bnd (gd (wantV x33 true) (pickS x40 (Value.bool true) x49 H) H) fun x50 H =>
  bnd (pickS x33 x50 (Value.bool false) H) fun x51 H =>
  bnd (some (x29, H)) fun x52 H =>
  bnd (some (x51, H)) fun x53 H =>
  some (Value.tuple #[x52, x53], H)

theorem F44_j1_v (C : Oracle) (n : Nat) (v0 v1 v4 v5 v6 v7 v8 v15 v9 v27 : Value) (H : Heap) : F44_j1 C n [v0, v1, v4, v5, v6, v7, v8, v15, v9, v27] H = F44_j1v C n v0 v1 v4 v5 v6 v7 v8 v15 v9 v27 H := by
  kernel_rfl

noncomputable def F44 (C : Oracle) (n : Nat) (a0 a1 : Value) (H : Heap) : Option (Value × Heap) :=
  bnd (some ((Value.int .i64 (0)), H)) fun x0 H =>
  bnd (some ((Value.bool false), H)) fun x1 H =>
  bnd (some (a0, H)) fun x2 H =>
  bnd (pS (slen x2) H) fun x3 H =>
  bnd (some (x3, H)) fun x4 H =>
  bnd (some (x4, H)) fun x5 H =>
  bnd (some ((Value.int .i64 (0)), H)) fun x6 H =>
  bnd (some (x5, H)) fun x7 H =>
  onOut (iter n (F44_b0 C n) [a0, a1, x0, x1, x4, x6, x7, undef, undef, undef] H) (kBlk 0 (kSeq (F44_j1 C n) (kRet Try.prog [.tmp 4, .tmp 5] [0, 1, 4, 5, 6, 7, 8, 15, 9, 27])))

theorem F44_eq (G : Oracle) (n : Nat) (a0 a1 : Value) (H : Heap) : run G (n + 1) 44 [a0, a1] H = F44 (run G n) n a0 a1 H := by
  unfold run; rw [acall_k (fn := Try.f44) (keep := [0, 1, 4, 5, 6, 7, 8, 15, 9, 27]) (notBad 44 rfl) (by kernel_rfl) (by kernel_rfl)]
  kernel_rfl

abbrev F47_st (v0 : Value := undef) (v1 : Value := undef) (v4 : Value := undef) (v5 : Value := undef) (v18 : Value := undef) : List Value := [v0, v1, v4, v5, v18]

noncomputable def F47_b0 (C : Oracle) (n : Nat) (vs : List Value) (H : Heap) : AOut :=
  bnd (some ((sl [0, 1, 4, 5, 18] vs 5), H)) fun x2 H =>
  bnd (some ((sl [0, 1, 4, 5, 18] vs 0), H)) fun x3 H =>
  bnd (pS (slen x3) H) fun x4 H =>
  bnd (pS (abin Try.prog .lss 3 x2 x4) H) fun x5 H =>
  bnd (some (x5, H)) fun x6 H =>
  bnd (gd (wantV x6 true) (some ((sl [0, 1, 4, 5, 18] vs 0), H)) H) fun x7 H =>
  bnd (gd (wantV x6 true) (some ((sl [0, 1, 4, 5, 18] vs 5), H)) H) fun x8 H =>
  bnd (gd (wantV x6 true) (iadS 2 x7 x8 H) H) fun x9 H =>
  bnd (gd (wantV x6 true) (fadS 0 x9 H) H) fun x10 H =>
  bnd (gd (wantV x6 true) (pS (ld1 x10 H) H) H) fun x11 H =>
  bnd (gd (wantV x6 true) (some ((sl [0, 1, 4, 5, 18] vs 1), H)) H) fun x12 H =>
  bnd (gd (wantV x6 true) (pS (abin Try.prog .lss 2 x11 x12) H) H) fun x13 H =>
  bnd (pickS x6 x13 (Value.bool false) H) fun x14 H =>
  brB x14 (bnd (some ((sl [0, 1, 4, 5, 18] vs 5), H)) fun x15 H =>
  bnd (pS (abin Try.prog .add 3 x15 (Value.int .i64 (1))) H) fun x16 H =>
  bnd (some (x16, H)) fun x17 H =>
  fin .normal [(sl [0, 1, 4, 5, 18] vs 0), (sl [0, 1, 4, 5, 18] vs 1), (sl [0, 1, 4, 5, 18] vs 4), x17, x14] H) (
  fin (.exit 0) [(sl [0, 1, 4, 5, 18] vs 0), (sl [0, 1, 4, 5, 18] vs 1), (sl [0, 1, 4, 5, 18] vs 4), (sl [0, 1, 4, 5, 18] vs 5), x14] H)

noncomputable def F47_b0v (C : Oracle) (n : Nat) (v0 v1 v4 v5 v18 : Value) (H : Heap) : AOut :=
  bnd (some (v5, H)) fun x2 H =>
  bnd (some (v0, H)) fun x3 H =>
  bnd (pS (slen x3) H) fun x4 H =>
  bnd (pS (abin Try.prog .lss 3 x2 x4) H) fun x5 H =>
  bnd (some (x5, H)) fun x6 H =>
  bnd (gd (wantV x6 true) (some (v0, H)) H) fun x7 H =>
  bnd (gd (wantV x6 true) (some (v5, H)) H) fun x8 H =>
  bnd (gd (wantV x6 true) (iadS 2 x7 x8 H) H) fun x9 H =>
  bnd (gd (wantV x6 true) (fadS 0 x9 H) H) fun x10 H =>
  bnd (gd (wantV x6 true) (pS (ld1 x10 H) H) H) fun x11 H =>
  bnd (gd (wantV x6 true) (some (v1, H)) H) fun x12 H =>
  bnd (gd (wantV x6 true) (pS (abin Try.prog .lss 2 x11 x12) H) H) fun x13 H =>
  bnd (pickS x6 x13 (Value.bool false) H) fun x14 H =>
  brB x14 (bnd (some (v5, H)) fun x15 H =>
  bnd (pS (abin Try.prog .add 3 x15 (Value.int .i64 (1))) H) fun x16 H =>
  bnd (some (x16, H)) fun x17 H =>
  fin .normal [v0, v1, v4, x17, x14] H) (
  fin (.exit 0) [v0, v1, v4, v5, x14] H)

theorem F47_b0_v (C : Oracle) (n : Nat) (v0 v1 v4 v5 v18 : Value) (H : Heap) : F47_b0 C n [v0, v1, v4, v5, v18] H = F47_b0v C n v0 v1 v4 v5 v18 H := by
  kernel_rfl

noncomputable def F47_j1 (C : Oracle) (n : Nat) (vs : List Value) (H : Heap) : Option (Value × Heap) :=
  bnd (some ((sl [0, 1, 4, 5, 18] vs 5), H)) fun x18 H =>
  bnd (some (x18, H)) fun x19 H =>
  some (x19, H)

noncomputable def F47_j1v (C : Oracle) (n : Nat) (v0 v1 v4 v5 v18 : Value) (H : Heap) : Option (Value × Heap) :=
  bnd (some (v5, H)) fun x18 H =>
  bnd (some (x18, H)) fun x19 H =>
  some (x19, H)

theorem F47_j1_v (C : Oracle) (n : Nat) (v0 v1 v4 v5 v18 : Value) (H : Heap) : F47_j1 C n [v0, v1, v4, v5, v18] H = F47_j1v C n v0 v1 v4 v5 v18 H := by
  kernel_rfl

noncomputable def F47 (C : Oracle) (n : Nat) (a0 a1 : Value) (H : Heap) : Option (Value × Heap) :=
  bnd (some ((Value.int .i64 (0)), H)) fun x0 H =>
  bnd (some ((Value.int .i64 (0)), H)) fun x1 H =>
  onOut (iter n (F47_b0 C n) [a0, a1, x0, x1, undef] H) (kBlk 0 (kSeq (F47_j1 C n) (kRet Try.prog [.tmp 4] [0, 1, 4, 5, 18])))

theorem F47_eq (G : Oracle) (n : Nat) (a0 a1 : Value) (H : Heap) : run G (n + 1) 47 [a0, a1] H = F47 (run G n) n a0 a1 H := by
  unfold run; rw [acall_k (fn := Try.f47) (keep := [0, 1, 4, 5, 18]) (notBad 47 rfl) (by kernel_rfl) (by kernel_rfl)]
  kernel_rfl

noncomputable def F48 (C : Oracle) (n : Nat) (a0 a1 a2 : Value) (H : Heap) : Option (Value × Heap) :=
  bnd (some ((Value.slice none 0 0), H)) fun x0 H =>
  bnd (some (a0, H)) fun x1 H =>
  bnd (some (a1, H)) fun x2 H =>
  bnd (some (a2, H)) fun x3 H =>
  bnd (some (a0, H)) fun x4 H =>
  bnd (pS (slen x4) H) fun x5 H =>
  bnd (pS (scut3 1 H x1 (some x2) (some x3) x5) H) fun x6 H =>
  bnd (some (a1, H)) fun x7 H =>
  bnd (some (a2, H)) fun x8 H =>
  bnd (pS (abin Try.prog .eql 3 x7 x8) H) fun x9 H =>
  brB x9 (bnd (some (a0, H)) fun x10 H =>
  bnd (some (x10, H)) fun x11 H =>
  some (x11, H)) (
  bnd (some (a0, H)) fun x12 H =>
  bnd (pS (slen x12) H) fun x13 H =>
  bnd (some (x13, H)) fun x14 H =>
  bnd (some (a0, H)) fun x15 H =>
  bnd (some (a1, H)) fun x16 H =>
  bnd (pS (scut 1 H x15 none (some x16)) H) fun x17 H =>
  bnd (some (a0, H)) fun x18 H =>
  bnd (some (a2, H)) fun x19 H =>
  bnd (pS (scut 1 H x18 (some x19) none) H) fun x20 H =>
  bnd (appS 2 1 8 x17 x20 H) fun x21 H =>
  bnd (some (x21, H)) fun x22 H =>
  bnd (some (x22, H)) fun x23 H =>
  bnd (some (x22, H)) fun x24 H =>
  bnd (pS (slen x24) H) fun x25 H =>
  bnd (some (x14, H)) fun x26 H =>
  bnd (pS (scut 1 H x23 (some x25) (some x26)) H) fun x27 H =>
  bnd (clrS [(Value.int .i64 (0))] x27 H) fun x28 H =>
  bnd (some (x22, H)) fun x29 H =>
  bnd (some (x29, H)) fun x30 H =>
  some (x30, H))

theorem F48_eq (G : Oracle) (n : Nat) (a0 a1 a2 : Value) (H : Heap) : run G (n + 1) 48 [a0, a1, a2] H = F48 (run G n) n a0 a1 a2 H := by
  unfold run; rw [acall_k (fn := Try.f48) (keep := [0, 1, 2, 6, 16, 7]) (notBad 48 rfl) (by kernel_rfl) (by kernel_rfl)]
  kernel_rfl

noncomputable def F49 (C : Oracle) (n : Nat) (a0 : Value) (H : Heap) : Option (Value × Heap) :=
  bnd (boxS 24 a0 H) fun x0 H =>
  bnd (some (Value.nilFunc, H)) fun x1 H =>
  bnd (some (Value.func (.func 63) #[] #[x0], H)) fun x2 H =>
  bnd (some (x2, H)) fun x3 H =>
  some (x3, H)

theorem F49_eq (G : Oracle) (n : Nat) (a0 : Value) (H : Heap) : run G (n + 1) 49 [a0] H = F49 (run G n) n a0 H := by
  unfold run; rw [acall_k (fn := Try.f49) (keep := [0, 2, 1]) (notBad 49 rfl) (by kernel_rfl) (by kernel_rfl)]
  kernel_rfl

noncomputable def F62 (C : Oracle) (n : Nat) (a0 a1 : Value) (H : Heap) : Option (Value × Heap) :=
  bnd (some (a0, H)) fun x0 H =>
  bnd (some (a0, H)) fun x1 H =>
  bnd (pS (slen x1) H) fun x2 H =>
  bnd (some (a1, H)) fun x3 H =>
  bnd (pS (abin Try.prog .sub 3 x2 x3) H) fun x4 H =>
  bnd (C 68 [x0, x4] H) fun x5 H =>
  some (Value.tuple #[], H)

theorem F62_eq (G : Oracle) (n : Nat) (a0 a1 : Value) (H : Heap) : run G (n + 1) 62 [a0, a1] H = F62 (run G n) n a0 a1 H := by
  unfold run; rw [acall_k (fn := Try.f62) (keep := [0, 1]) (notBad 62 rfl) (by kernel_rfl) (by kernel_rfl)]
  kernel_rfl

noncomputable def F64 (C : Oracle) (n : Nat) (a0 : Value) (H : Heap) : Option (Value × Heap) :=
  bnd (some ((Value.bool false), H)) fun x0 H =>
  bnd (some (a0, H)) fun x1 H =>
  bnd (some (a0, H)) fun x2 H =>
  bnd (pS (abin Try.prog .neq 9 x1 x2) H) fun x3 H =>
  bnd (some (x3, H)) fun x4 H =>
  some (x4, H)

theorem F64_eq (G : Oracle) (n : Nat) (a0 : Value) (H : Heap) : run G (n + 1) 64 [a0] H = F64 (run G n) n a0 H := by
  unfold run; rw [acall_k (fn := Try.f64) (keep := [0, 2]) (notBad 64 rfl) (by kernel_rfl) (by kernel_rfl)]
  kernel_rfl

noncomputable def F66 (C : Oracle) (n : Nat) (a0 a1 : Value) (H : Heap) : Option (Value × Heap) :=
  bnd (some (a0, H)) fun x0 H =>
  bnd (some (a1, H)) fun x1 H =>
  bnd (pS (scut 1 H x0 none (some x1)) H) fun x2 H =>
  bnd (C 70 [x2] H) fun x3 H =>
  bnd (some (a0, H)) fun x4 H =>
  bnd (some (a1, H)) fun x5 H =>
  bnd (pS (scut 1 H x4 (some x5) none) H) fun x6 H =>
  bnd (C 70 [x6] H) fun x7 H =>
  bnd (some (a0, H)) fun x8 H =>
  bnd (C 70 [x8] H) fun x9 H =>
  some (Value.tuple #[], H)

theorem F66_eq (G : Oracle) (n : Nat) (a0 a1 : Value) (H : Heap) : run G (n + 1) 66 [a0, a1] H = F66 (run G n) n a0 a1 H := by
  unfold run; rw [acall_k (fn := Try.f66) (keep := [0, 1]) (notBad 66 rfl) (by kernel_rfl) (by kernel_rfl)]
  kernel_rfl

abbrev F70_st (v0 : Value := undef) (v2 : Value := undef) (v3 : Value := undef) (v9 : Value := undef) : List Value := [v0, v2, v3, v9]

noncomputable def F70_b0 (C : Oracle) (n : Nat) (vs : List Value) (H : Heap) : AOut :=
  bnd (some ((sl [0, 2, 3, 9] vs 2), H)) fun x5 H =>
  bnd (some ((sl [0, 2, 3, 9] vs 3), H)) fun x6 H =>
  bnd (pS (abin Try.prog .lss 3 x5 x6) H) fun x7 H =>
  brB x7 (bnd (some ((sl [0, 2, 3, 9] vs 0), H)) fun x8 H =>
  bnd (some ((sl [0, 2, 3, 9] vs 2), H)) fun x9 H =>
  bnd (some ((sl [0, 2, 3, 9] vs 0), H)) fun x10 H =>
  bnd (some ((sl [0, 2, 3, 9] vs 3), H)) fun x11 H =>
  bnd (some ((sl [0, 2, 3, 9] vs 0), H)) fun x12 H =>
  bnd (some ((sl [0, 2, 3, 9] vs 3), H)) fun x13 H =>
  bnd (iadS 1 x12 x13 H) fun x14 H =>
  bnd (pS (ld1 x14 H) H) fun x15 H =>
  bnd (some ((sl [0, 2, 3, 9] vs 0), H)) fun x16 H =>
  bnd (some ((sl [0, 2, 3, 9] vs 2), H)) fun x17 H =>
  bnd (iadS 1 x16 x17 H) fun x18 H =>
  bnd (pS (ld1 x18 H) H) fun x19 H =>
  bnd (iadS 1 x8 x9 H) fun x20 H =>
  bnd (stS 1 x20 x15 H) fun x21 H =>
  bnd (iadS 1 x10 x11 H) fun x22 H =>
  bnd (stS 1 x22 x19 H) fun x23 H =>
  bnd (some ((sl [0, 2, 3, 9] vs 2), H)) fun x24 H =>
  bnd (pS (abin Try.prog .add 3 x24 (Value.int .i64 (1))) H) fun x25 H =>
  bnd (some ((sl [0, 2, 3, 9] vs 3), H)) fun x26 H =>
  bnd (pS (abin Try.prog .sub 3 x26 (Value.int .i64 (1))) H) fun x27 H =>
  bnd (some (x25, H)) fun x28 H =>
  bnd (some (x27, H)) fun x29 H =>
  fin .normal [(sl [0, 2, 3, 9] vs 0), x28, x29, x7] H) (
  fin (.exit 0) [(sl [0, 2, 3, 9] vs 0), (sl [0, 2, 3, 9] vs 2), (sl [0, 2, 3, 9] vs 3), x7] H)

noncomputable def F70_b0v (C : Oracle) (n : Nat) (v0 v2 v3 v9 : Value) (H : Heap) : AOut :=
  bnd (some (v2, H)) fun x5 H =>
  bnd (some (v3, H)) fun x6 H =>
  bnd (pS (abin Try.prog .lss 3 x5 x6) H) fun x7 H =>
  brB x7 (bnd (some (v0, H)) fun x8 H =>
  bnd (some (v2, H)) fun x9 H =>
  bnd (some (v0, H)) fun x10 H =>
  bnd (some (v3, H)) fun x11 H =>
  bnd (some (v0, H)) fun x12 H =>
  bnd (some (v3, H)) fun x13 H =>
  bnd (iadS 1 x12 x13 H) fun x14 H =>
  bnd (pS (ld1 x14 H) H) fun x15 H =>
  bnd (some (v0, H)) fun x16 H =>
  bnd (some (v2, H)) fun x17 H =>
  bnd (iadS 1 x16 x17 H) fun x18 H =>
  bnd (pS (ld1 x18 H) H) fun x19 H =>
  bnd (iadS 1 x8 x9 H) fun x20 H =>
  bnd (stS 1 x20 x15 H) fun x21 H =>
  bnd (iadS 1 x10 x11 H) fun x22 H =>
  bnd (stS 1 x22 x19 H) fun x23 H =>
  bnd (some (v2, H)) fun x24 H =>
  bnd (pS (abin Try.prog .add 3 x24 (Value.int .i64 (1))) H) fun x25 H =>
  bnd (some (v3, H)) fun x26 H =>
  bnd (pS (abin Try.prog .sub 3 x26 (Value.int .i64 (1))) H) fun x27 H =>
  bnd (some (x25, H)) fun x28 H =>
  bnd (some (x27, H)) fun x29 H =>
  fin .normal [v0, x28, x29, x7] H) (
  fin (.exit 0) [v0, v2, v3, x7] H)

theorem F70_b0_v (C : Oracle) (n : Nat) (v0 v2 v3 v9 : Value) (H : Heap) : F70_b0 C n [v0, v2, v3, v9] H = F70_b0v C n v0 v2 v3 v9 H := by
  kernel_rfl

noncomputable def F70 (C : Oracle) (n : Nat) (a0 : Value) (H : Heap) : Option (Value × Heap) :=
  bnd (some (a0, H)) fun x0 H =>
  bnd (pS (slen x0) H) fun x1 H =>
  bnd (pS (abin Try.prog .sub 3 x1 (Value.int .i64 (1))) H) fun x2 H =>
  bnd (some ((Value.int .i64 (0)), H)) fun x3 H =>
  bnd (some (x2, H)) fun x4 H =>
  onOut (iter n (F70_b0 C n) [a0, x3, x4, undef] H) (kBlk 0 (kRet Try.prog [] [0, 2, 3, 9]))

theorem F70_eq (G : Oracle) (n : Nat) (a0 : Value) (H : Heap) : run G (n + 1) 70 [a0] H = F70 (run G n) n a0 H := by
  unfold run; rw [acall_k (fn := Try.f70) (keep := [0, 2, 3, 9]) (notBad 70 rfl) (by kernel_rfl) (by kernel_rfl)]
  kernel_rfl

end Go.Proofs.Ytdgolnenpnkjbaa.Fun
