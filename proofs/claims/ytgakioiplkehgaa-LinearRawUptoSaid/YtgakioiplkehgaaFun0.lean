/- The program's functions as plain terms, each with its equation; printed by wip/am/fun.py. -/
import Derived.Test.YtgakioiplkehgaaFunK
namespace Go.Proofs.Ytgakioiplkehgaa.Fun
open Go.RowKit Go.Proofs.YtgakioiplkehgaaA.Am
set_option linter.unusedVariables false
set_option maxRecDepth 10000
abbrev F11_st (v0 : Value := undef) (v2 : Value := undef) (v4 : Value := undef) (v13 : Value := undef) (v3 : Value := undef) (v5 : Value := undef) : List Value := [v0, v2, v4, v13, v3, v5]

noncomputable def F11_b0 (C : Oracle) (n : Nat) (vs : List Value) (H : Heap) : AOut :=
  bnd (some ((sl [0, 2, 4, 13, 3, 5] vs 4), H)) fun x3 H =>
  bnd (some ((sl [0, 2, 4, 13, 3, 5] vs 0), H)) fun x4 H =>
  bnd (pS (slen x4) H) fun x5 H =>
  bnd (pS (abin Try.prog .lss 3 x3 x5) H) fun x6 H =>
  bnd (some (x6, H)) fun x7 H =>
  bnd (gd (wantV x7 true) (some ((sl [0, 2, 4, 13, 3, 5] vs 4), H)) H) fun x8 H =>
  bnd (gd (wantV x7 true) (pS (abin Try.prog .lss 3 x8 (Value.int .i64 (60))) H) H) fun x9 H =>
  bnd (pickS x7 x9 (Value.bool false) H) fun x10 H =>
  brB x10 (bnd (some ((sl [0, 2, 4, 13, 3, 5] vs 0), H)) fun x11 H =>
  bnd (some ((sl [0, 2, 4, 13, 3, 5] vs 4), H)) fun x12 H =>
  bnd (iadS 1 x11 x12 H) fun x13 H =>
  bnd (pS (ld1 x13 H) H) fun x14 H =>
  bnd (C 9 [x14, (Value.int .i64 (97))] H) fun x15 H =>
  bnd (pS (abin Try.prog .sub 3 x15 (Value.int .i64 (40))) H) fun x16 H =>
  bnd (some (x16, H)) fun x17 H =>
  bnd (some ((sl [0, 2, 4, 13, 3, 5] vs 3), H)) fun x18 H =>
  bnd (some (x17, H)) fun x19 H =>
  bnd (some ((sl [0, 2, 4, 13, 3, 5] vs 4), H)) fun x20 H =>
  bnd (C 22 [x18, x19, x20] H) fun x21 H =>
  bnd (some (x21, H)) fun x22 H =>
  bnd (some ((sl [0, 2, 4, 13, 3, 5] vs 4), H)) fun x23 H =>
  bnd (pS (abin Try.prog .add 3 x23 (Value.int .i64 (1))) H) fun x24 H =>
  bnd (some (x24, H)) fun x25 H =>
  fin .normal [(sl [0, 2, 4, 13, 3, 5] vs 0), (sl [0, 2, 4, 13, 3, 5] vs 2), x25, x10, x22, x17] H) (
  fin (.exit 0) [(sl [0, 2, 4, 13, 3, 5] vs 0), (sl [0, 2, 4, 13, 3, 5] vs 2), (sl [0, 2, 4, 13, 3, 5] vs 4), x10, (sl [0, 2, 4, 13, 3, 5] vs 3), (sl [0, 2, 4, 13, 3, 5] vs 5)] H)

noncomputable def F11_b0v (C : Oracle) (n : Nat) (v0 v2 v4 v13 v3 v5 : Value) (H : Heap) : AOut :=
  bnd (some (v4, H)) fun x3 H =>
  bnd (some (v0, H)) fun x4 H =>
  bnd (pS (slen x4) H) fun x5 H =>
  bnd (pS (abin Try.prog .lss 3 x3 x5) H) fun x6 H =>
  bnd (some (x6, H)) fun x7 H =>
  bnd (gd (wantV x7 true) (some (v4, H)) H) fun x8 H =>
  bnd (gd (wantV x7 true) (pS (abin Try.prog .lss 3 x8 (Value.int .i64 (60))) H) H) fun x9 H =>
  bnd (pickS x7 x9 (Value.bool false) H) fun x10 H =>
  brB x10 (bnd (some (v0, H)) fun x11 H =>
  bnd (some (v4, H)) fun x12 H =>
  bnd (iadS 1 x11 x12 H) fun x13 H =>
  bnd (pS (ld1 x13 H) H) fun x14 H =>
  bnd (C 9 [x14, (Value.int .i64 (97))] H) fun x15 H =>
  bnd (pS (abin Try.prog .sub 3 x15 (Value.int .i64 (40))) H) fun x16 H =>
  bnd (some (x16, H)) fun x17 H =>
  bnd (some (v3, H)) fun x18 H =>
  bnd (some (x17, H)) fun x19 H =>
  bnd (some (v4, H)) fun x20 H =>
  bnd (C 22 [x18, x19, x20] H) fun x21 H =>
  bnd (some (x21, H)) fun x22 H =>
  bnd (some (v4, H)) fun x23 H =>
  bnd (pS (abin Try.prog .add 3 x23 (Value.int .i64 (1))) H) fun x24 H =>
  bnd (some (x24, H)) fun x25 H =>
  fin .normal [v0, v2, x25, x10, x22, x17] H) (
  fin (.exit 0) [v0, v2, v4, x10, v3, v5] H)

theorem F11_b0_v (C : Oracle) (n : Nat) (v0 v2 v4 v13 v3 v5 : Value) (H : Heap) : F11_b0 C n [v0, v2, v4, v13, v3, v5] H = F11_b0v C n v0 v2 v4 v13 v3 v5 H := by
  kernel_rfl

noncomputable def F11_j1 (C : Oracle) (n : Nat) (vs : List Value) (H : Heap) : Option (Value × Heap) :=
  bnd (some ((sl [0, 2, 4, 13, 3, 5] vs 3), H)) fun x26 H =>
  bnd (some (x26, H)) fun x27 H =>
  some (x27, H)

noncomputable def F11_j1v (C : Oracle) (n : Nat) (v0 v2 v4 v13 v3 v5 : Value) (H : Heap) : Option (Value × Heap) :=
  bnd (some (v3, H)) fun x26 H =>
  bnd (some (x26, H)) fun x27 H =>
  some (x27, H)

theorem F11_j1_v (C : Oracle) (n : Nat) (v0 v2 v4 v13 v3 v5 : Value) (H : Heap) : F11_j1 C n [v0, v2, v4, v13, v3, v5] H = F11_j1v C n v0 v2 v4 v13 v3 v5 H := by
  kernel_rfl

noncomputable def F11 (C : Oracle) (n : Nat) (a0 : Value) (H : Heap) : Option (Value × Heap) :=
  bnd (some ((Value.slice none 0 0), H)) fun x0 H =>
  bnd (some ((Value.slice none 0 0), H)) fun x1 H =>
  bnd (some ((Value.int .i64 (0)), H)) fun x2 H =>
  onOut (iter n (F11_b0 C n) [a0, x0, x2, undef, x1, undef] H) (kBlk 0 (kSeq (F11_j1 C n) (kRet Try.prog [.tmp 2] [0, 2, 4, 13, 3, 5])))

theorem F11_eq (G : Oracle) (n : Nat) (a0 : Value) (H : Heap) : run G (n + 1) 11 [a0] H = F11 (run G n) n a0 H := by
  unfold run; rw [acall_k (fn := Try.f11) (keep := [0, 2, 4, 13, 3, 5]) (notBad 11 rfl) (by kernel_rfl) (by kernel_rfl)]
  kernel_rfl

noncomputable def F16 (C : Oracle) (n : Nat) (a0 a1 : Value) (H : Heap) : Option (Value × Heap) :=
  bnd (boxS 23 a1 H) fun x0 H =>
  bnd (some ((Value.slice none 0 0), H)) fun x1 H =>
  bnd (some (a0, H)) fun x2 H =>
  bnd (C 23 [x2] H) fun x3 H =>
  bnd (some (x3, H)) fun x4 H =>
  bnd (extS 0 x4 H) fun x5 H =>
  bnd (extS 1 x4 H) fun x6 H =>
  bnd (some (x5, H)) fun x7 H =>
  bnd (some (x6, H)) fun x8 H =>
  bnd (some (x8, H)) fun x9 H =>
  bnd (pS (aun .not x9) H) fun x10 H =>
  brB x10 (bnd (some ((Value.slice none 0 0), H)) fun x11 H =>
  some (x11, H)) (
  bnd (some (x7, H)) fun x12 H =>
  bnd (pS (ldn 3 x0 H) H) fun x13 H =>
  bnd (C 32 [x12, x13] H) fun x14 H =>
  bnd (C 31 [x14, (Value.int .i64 (-9223372036854775808)), (Value.int .i64 (9223372036854775807))] H) fun x15 H =>
  bnd (some (x15, H)) fun x16 H =>
  some (x16, H))

theorem F16_eq (G : Oracle) (n : Nat) (a0 a1 : Value) (H : Heap) : run G (n + 1) 16 [a0, a1] H = F16 (run G n) n a0 a1 H := by
  unfold run; rw [acall_k (fn := Try.f16) (keep := [0, 1, 4, 6, 13, 5, 3]) (notBad 16 rfl) (by kernel_rfl) (by kernel_rfl)]
  kernel_rfl

abbrev F17_st (v0 : Value := undef) (v1 : Value := undef) (v4 : Value := undef) (v9 : Value := undef) (v3 : Value := undef) (v6 : Value := undef) (v17 : Value := undef) (v34 : Value := undef) : List Value := [v0, v1, v4, v9, v3, v6, v17, v34]

noncomputable def F17_j0 (C : Oracle) (n : Nat) (vs : List Value) (H : Heap) : Option (Value × Heap) :=
  bnd (abuildSlice Try.prog 27 0 [] H) fun x15 H =>
  bnd (some ((sl [0, 1, 4, 9, 3, 6, 17, 34] vs 0), H)) fun x16 H =>
  bnd (appS 26 2 16 x15 x16 H) fun x17 H =>
  bnd (some (x17, H)) fun x18 H =>
  some (x18, H)

noncomputable def F17_j0v (C : Oracle) (n : Nat) (v0 v1 v4 v9 v3 v6 v17 v34 : Value) (H : Heap) : Option (Value × Heap) :=
  bnd (abuildSlice Try.prog 27 0 [] H) fun x15 H =>
  bnd (some (v0, H)) fun x16 H =>
  bnd (appS 26 2 16 x15 x16 H) fun x17 H =>
  bnd (some (x17, H)) fun x18 H =>
  some (x18, H)

theorem F17_j0_v (C : Oracle) (n : Nat) (v0 v1 v4 v9 v3 v6 v17 v34 : Value) (H : Heap) : F17_j0 C n [v0, v1, v4, v9, v3, v6, v17, v34] H = F17_j0v C n v0 v1 v4 v9 v3 v6 v17 v34 H := by
  kernel_rfl

noncomputable def F17_j1 (C : Oracle) (n : Nat) (vs : List Value) (H : Heap) : Option (Value × Heap) :=
  brB (sl [0, 1, 4, 9, 3, 6, 17, 34] vs 17) (bnd (some ((sl [0, 1, 4, 9, 3, 6, 17, 34] vs 0), H)) fun x19 H =>
  bnd (fadS 1 (sl [0, 1, 4, 9, 3, 6, 17, 34] vs 3) H) fun x20 H =>
  bnd (pS (ld1 x20 H) H) fun x21 H =>
  bnd (fadS 2 (sl [0, 1, 4, 9, 3, 6, 17, 34] vs 3) H) fun x22 H =>
  bnd (pS (ld1 x22 H) H) fun x23 H =>
  bnd (C 22 [x19, x21, x23] H) fun x24 H =>
  bnd (some (x24, H)) fun x25 H =>
  some (x25, H)) (
  bnd (fadS 0 (sl [0, 1, 4, 9, 3, 6, 17, 34] vs 3) H) fun x26 H =>
  bnd (pS (ld1 x26 H) H) fun x27 H =>
  bnd (pS (abin Try.prog .eql 3 x27 (Value.int .i64 (3))) H) fun x28 H =>
  bnd (some (x28, H)) fun x29 H =>
  brB x29 (bnd (some ((sl [0, 1, 4, 9, 3, 6, 17, 34] vs 0), H)) fun x30 H =>
  bnd (fadS 1 (sl [0, 1, 4, 9, 3, 6, 17, 34] vs 3) H) fun x31 H =>
  bnd (pS (ld1 x31 H) H) fun x32 H =>
  bnd (C 33 [x30, x32] H) fun x33 H =>
  bnd (some (x33, H)) fun x34 H =>
  some (x34, H)) (
  F17_j0 C n [(sl [0, 1, 4, 9, 3, 6, 17, 34] vs 0), (sl [0, 1, 4, 9, 3, 6, 17, 34] vs 1), (sl [0, 1, 4, 9, 3, 6, 17, 34] vs 4), (sl [0, 1, 4, 9, 3, 6, 17, 34] vs 9), (sl [0, 1, 4, 9, 3, 6, 17, 34] vs 3), (sl [0, 1, 4, 9, 3, 6, 17, 34] vs 6), (sl [0, 1, 4, 9, 3, 6, 17, 34] vs 17), x29] H))

noncomputable def F17_j1v (C : Oracle) (n : Nat) (v0 v1 v4 v9 v3 v6 v17 v34 : Value) (H : Heap) : Option (Value × Heap) :=
  brB v17 (bnd (some (v0, H)) fun x19 H =>
  bnd (fadS 1 v3 H) fun x20 H =>
  bnd (pS (ld1 x20 H) H) fun x21 H =>
  bnd (fadS 2 v3 H) fun x22 H =>
  bnd (pS (ld1 x22 H) H) fun x23 H =>
  bnd (C 22 [x19, x21, x23] H) fun x24 H =>
  bnd (some (x24, H)) fun x25 H =>
  some (x25, H)) (
  bnd (fadS 0 v3 H) fun x26 H =>
  bnd (pS (ld1 x26 H) H) fun x27 H =>
  bnd (pS (abin Try.prog .eql 3 x27 (Value.int .i64 (3))) H) fun x28 H =>
  bnd (some (x28, H)) fun x29 H =>
  brB x29 (bnd (some (v0, H)) fun x30 H =>
  bnd (fadS 1 v3 H) fun x31 H =>
  bnd (pS (ld1 x31 H) H) fun x32 H =>
  bnd (C 33 [x30, x32] H) fun x33 H =>
  bnd (some (x33, H)) fun x34 H =>
  some (x34, H)) (
  F17_j0 C n [v0, v1, v4, v9, v3, v6, v17, x29] H))

theorem F17_j1_v (C : Oracle) (n : Nat) (v0 v1 v4 v9 v3 v6 v17 v34 : Value) (H : Heap) : F17_j1 C n [v0, v1, v4, v9, v3, v6, v17, v34] H = F17_j1v C n v0 v1 v4 v9 v3 v6 v17 v34 H := by
  kernel_rfl

noncomputable def F17 (C : Oracle) (n : Nat) (a0 a1 : Value) (H : Heap) : Option (Value × Heap) :=
  bnd (boxS 23 a1 H) fun x0 H =>
  bnd (some ((Value.slice none 0 0), H)) fun x1 H =>
  bnd (some (a0, H)) fun x2 H =>
  bnd (C 25 [x2] H) fun x3 H =>
  bnd (pS (aun .not x3) H) fun x4 H =>
  brB x4 (bnd (some ((Value.slice none 0 0), H)) fun x5 H =>
  some (x5, H)) (
  bnd (some (a0, H)) fun x6 H =>
  bnd (fadS 1 x0 H) fun x7 H =>
  bnd (pS (ld1 x7 H) H) fun x8 H =>
  bnd (C 26 [x6, x8] H) fun x9 H =>
  bnd (some (x9, H)) fun x10 H =>
  bnd (extS 0 x10 H) fun x11 H =>
  bnd (extS 1 x10 H) fun x12 H =>
  bnd (some (x11, H)) fun x13 H =>
  bnd (some (x12, H)) fun x14 H =>
  bnd (fadS 0 x0 H) fun x35 H =>
  bnd (pS (ld1 x35 H) H) fun x36 H =>
  bnd (pS (abin Try.prog .eql 3 x36 (Value.int .i64 (1))) H) fun x37 H =>
  bnd (some (x37, H)) fun x38 H =>
  bnd (gd (wantV x38 true) (some (x14, H)) H) fun x39 H =>
  bnd (gd (wantV x38 true) (pS (aun .not x39) H) H) fun x40 H =>
  bnd (pickS x38 x40 (Value.bool false) H) fun x41 H =>
  bnd (some (x41, H)) fun x42 H =>
  brB x42 (F17_j1 C n [a0, a1, x1, x4, x0, x14, x42, undef] H) (
  bnd (fadS 0 x0 H) fun x43 H =>
  bnd (pS (ld1 x43 H) H) fun x44 H =>
  bnd (pS (abin Try.prog .eql 3 x44 (Value.int .i64 (2))) H) fun x45 H =>
  bnd (some (x45, H)) fun x46 H =>
  F17_j1 C n [a0, a1, x1, x4, x0, x14, x46, undef] H))

theorem F17_eq (G : Oracle) (n : Nat) (a0 a1 : Value) (H : Heap) : run G (n + 1) 17 [a0, a1] H = F17 (run G n) n a0 a1 H := by
  unfold run; rw [acall_k (fn := Try.f17) (keep := [0, 1, 4, 9, 3, 6, 17, 34]) (notBad 17 rfl) (by kernel_rfl) (by kernel_rfl)]
  kernel_rfl

abbrev F25_st (v0 : Value := undef) (v2 : Value := undef) (v3 : Value := undef) (v7 : Value := undef) (v21 : Value := undef) : List Value := [v0, v2, v3, v7, v21]

noncomputable def F25_b0 (C : Oracle) (n : Nat) (vs : List Value) (H : Heap) : AOut :=
  bnd (some ((sl [0, 2, 3, 7, 21] vs 3), H)) fun x2 H =>
  bnd (some ((sl [0, 2, 3, 7, 21] vs 0), H)) fun x3 H =>
  bnd (pS (slen x3) H) fun x4 H =>
  bnd (pS (abin Try.prog .lss 3 x2 x4) H) fun x5 H =>
  brB x5 (bnd (some ((sl [0, 2, 3, 7, 21] vs 0), H)) fun x6 H =>
  bnd (some ((sl [0, 2, 3, 7, 21] vs 3), H)) fun x7 H =>
  bnd (iadS 2 x6 x7 H) fun x8 H =>
  bnd (fadS 0 x8 H) fun x9 H =>
  bnd (pS (ld1 x9 H) H) fun x10 H =>
  bnd (some ((sl [0, 2, 3, 7, 21] vs 0), H)) fun x11 H =>
  bnd (some ((sl [0, 2, 3, 7, 21] vs 3), H)) fun x12 H =>
  bnd (pS (abin Try.prog .sub 3 x12 (Value.int .i64 (1))) H) fun x13 H =>
  bnd (iadS 2 x11 x13 H) fun x14 H =>
  bnd (fadS 0 x14 H) fun x15 H =>
  bnd (pS (ld1 x15 H) H) fun x16 H =>
  bnd (pS (abin Try.prog .leq 2 x10 x16) H) fun x17 H =>
  brB x17 (bnd (some ((Value.bool false), H)) fun x18 H =>
  fin .ret [(sl [0, 2, 3, 7, 21] vs 0), x18, (sl [0, 2, 3, 7, 21] vs 3), x5, x17] H) (
  bnd (some ((sl [0, 2, 3, 7, 21] vs 3), H)) fun x19 H =>
  bnd (pS (abin Try.prog .add 3 x19 (Value.int .i64 (1))) H) fun x20 H =>
  bnd (some (x20, H)) fun x21 H =>
  fin .normal [(sl [0, 2, 3, 7, 21] vs 0), (sl [0, 2, 3, 7, 21] vs 2), x21, x5, x17] H)) (
  fin (.exit 0) [(sl [0, 2, 3, 7, 21] vs 0), (sl [0, 2, 3, 7, 21] vs 2), (sl [0, 2, 3, 7, 21] vs 3), x5, (sl [0, 2, 3, 7, 21] vs 21)] H)

noncomputable def F25_b0v (C : Oracle) (n : Nat) (v0 v2 v3 v7 v21 : Value) (H : Heap) : AOut :=
  bnd (some (v3, H)) fun x2 H =>
  bnd (some (v0, H)) fun x3 H =>
  bnd (pS (slen x3) H) fun x4 H =>
  bnd (pS (abin Try.prog .lss 3 x2 x4) H) fun x5 H =>
  brB x5 (bnd (some (v0, H)) fun x6 H =>
  bnd (some (v3, H)) fun x7 H =>
  bnd (iadS 2 x6 x7 H) fun x8 H =>
  bnd (fadS 0 x8 H) fun x9 H =>
  bnd (pS (ld1 x9 H) H) fun x10 H =>
  bnd (some (v0, H)) fun x11 H =>
  bnd (some (v3, H)) fun x12 H =>
  bnd (pS (abin Try.prog .sub 3 x12 (Value.int .i64 (1))) H) fun x13 H =>
  bnd (iadS 2 x11 x13 H) fun x14 H =>
  bnd (fadS 0 x14 H) fun x15 H =>
  bnd (pS (ld1 x15 H) H) fun x16 H =>
  bnd (pS (abin Try.prog .leq 2 x10 x16) H) fun x17 H =>
  brB x17 (bnd (some ((Value.bool false), H)) fun x18 H =>
  fin .ret [v0, x18, v3, x5, x17] H) (
  bnd (some (v3, H)) fun x19 H =>
  bnd (pS (abin Try.prog .add 3 x19 (Value.int .i64 (1))) H) fun x20 H =>
  bnd (some (x20, H)) fun x21 H =>
  fin .normal [v0, v2, x21, x5, x17] H)) (
  fin (.exit 0) [v0, v2, v3, x5, v21] H)

theorem F25_b0_v (C : Oracle) (n : Nat) (v0 v2 v3 v7 v21 : Value) (H : Heap) : F25_b0 C n [v0, v2, v3, v7, v21] H = F25_b0v C n v0 v2 v3 v7 v21 H := by
  kernel_rfl

noncomputable def F25_j1 (C : Oracle) (n : Nat) (vs : List Value) (H : Heap) : Option (Value × Heap) :=
  bnd (some ((Value.bool true), H)) fun x22 H =>
  some (x22, H)

noncomputable def F25_j1v (C : Oracle) (n : Nat) (v0 v2 v3 v7 v21 : Value) (H : Heap) : Option (Value × Heap) :=
  bnd (some ((Value.bool true), H)) fun x22 H =>
  some (x22, H)

theorem F25_j1_v (C : Oracle) (n : Nat) (v0 v2 v3 v7 v21 : Value) (H : Heap) : F25_j1 C n [v0, v2, v3, v7, v21] H = F25_j1v C n v0 v2 v3 v7 v21 H := by
  kernel_rfl

noncomputable def F25 (C : Oracle) (n : Nat) (a0 : Value) (H : Heap) : Option (Value × Heap) :=
  bnd (some ((Value.bool false), H)) fun x0 H =>
  bnd (some ((Value.int .i64 (1)), H)) fun x1 H =>
  onOut (iter n (F25_b0 C n) [a0, x0, x1, undef, undef] H) (kBlk 0 (kSeq (F25_j1 C n) (kRet Try.prog [.tmp 2] [0, 2, 3, 7, 21])))

theorem F25_eq (G : Oracle) (n : Nat) (a0 : Value) (H : Heap) : run G (n + 1) 25 [a0] H = F25 (run G n) n a0 H := by
  unfold run; rw [acall_k (fn := Try.f25) (keep := [0, 2, 3, 7, 21]) (notBad 25 rfl) (by kernel_rfl) (by kernel_rfl)]
  kernel_rfl

abbrev F30_st (v0 : Value := undef) (v1 : Value := undef) (v2 : Value := undef) (v6 : Value := undef) (v8 : Value := undef) (v12 : Value := undef) (v30 : Value := undef) (v7 : Value := undef) : List Value := [v0, v1, v2, v6, v8, v12, v30, v7]

noncomputable def F30_j1 (C : Oracle) (n : Nat) (vs : List Value) (H : Heap) : AOut :=
  bnd (some ((sl [0, 1, 2, 6, 8, 12, 30, 7] vs 8), H)) fun x7 H =>
  bnd (pS (abin Try.prog .add 3 x7 (Value.int .i64 (1))) H) fun x8 H =>
  bnd (some (x8, H)) fun x9 H =>
  fin .normal [(sl [0, 1, 2, 6, 8, 12, 30, 7] vs 0), (sl [0, 1, 2, 6, 8, 12, 30, 7] vs 1), (sl [0, 1, 2, 6, 8, 12, 30, 7] vs 2), (sl [0, 1, 2, 6, 8, 12, 30, 7] vs 6), x9, (sl [0, 1, 2, 6, 8, 12, 30, 7] vs 12), (sl [0, 1, 2, 6, 8, 12, 30, 7] vs 30), (sl [0, 1, 2, 6, 8, 12, 30, 7] vs 7)] H

noncomputable def F30_j1v (C : Oracle) (n : Nat) (v0 v1 v2 v6 v8 v12 v30 v7 : Value) (H : Heap) : AOut :=
  bnd (some (v8, H)) fun x7 H =>
  bnd (pS (abin Try.prog .add 3 x7 (Value.int .i64 (1))) H) fun x8 H =>
  bnd (some (x8, H)) fun x9 H =>
  fin .normal [v0, v1, v2, v6, x9, v12, v30, v7] H

theorem F30_j1_v (C : Oracle) (n : Nat) (v0 v1 v2 v6 v8 v12 v30 v7 : Value) (H : Heap) : F30_j1 C n [v0, v1, v2, v6, v8, v12, v30, v7] H = F30_j1v C n v0 v1 v2 v6 v8 v12 v30 v7 H := by
  kernel_rfl

noncomputable def F30_b0 (C : Oracle) (n : Nat) (vs : List Value) (H : Heap) : AOut :=
  bnd (some ((sl [0, 1, 2, 6, 8, 12, 30, 7] vs 8), H)) fun x3 H =>
  bnd (some ((sl [0, 1, 2, 6, 8, 12, 30, 7] vs 0), H)) fun x4 H =>
  bnd (pS (slen x4) H) fun x5 H =>
  bnd (pS (abin Try.prog .lss 3 x3 x5) H) fun x6 H =>
  brB x6 (bnd (some ((sl [0, 1, 2, 6, 8, 12, 30, 7] vs 0), H)) fun x10 H =>
  bnd (some ((sl [0, 1, 2, 6, 8, 12, 30, 7] vs 8), H)) fun x11 H =>
  bnd (iadS 2 x10 x11 H) fun x12 H =>
  bnd (fadS 0 x12 H) fun x13 H =>
  bnd (pS (ld1 x13 H) H) fun x14 H =>
  bnd (some ((sl [0, 1, 2, 6, 8, 12, 30, 7] vs 1), H)) fun x15 H =>
  bnd (pS (abin Try.prog .geq 2 x14 x15) H) fun x16 H =>
  bnd (some (x16, H)) fun x17 H =>
  bnd (gd (wantV x17 true) (some ((sl [0, 1, 2, 6, 8, 12, 30, 7] vs 0), H)) H) fun x18 H =>
  bnd (gd (wantV x17 true) (some ((sl [0, 1, 2, 6, 8, 12, 30, 7] vs 8), H)) H) fun x19 H =>
  bnd (gd (wantV x17 true) (iadS 2 x18 x19 H) H) fun x20 H =>
  bnd (gd (wantV x17 true) (fadS 0 x20 H) H) fun x21 H =>
  bnd (gd (wantV x17 true) (pS (ld1 x21 H) H) H) fun x22 H =>
  bnd (gd (wantV x17 true) (some ((sl [0, 1, 2, 6, 8, 12, 30, 7] vs 2), H)) H) fun x23 H =>
  bnd (gd (wantV x17 true) (pS (abin Try.prog .leq 2 x22 x23) H) H) fun x24 H =>
  bnd (pickS x17 x24 (Value.bool false) H) fun x25 H =>
  brB x25 (bnd (some ((sl [0, 1, 2, 6, 8, 12, 30, 7] vs 7), H)) fun x26 H =>
  bnd (some ((sl [0, 1, 2, 6, 8, 12, 30, 7] vs 0), H)) fun x27 H =>
  bnd (some ((sl [0, 1, 2, 6, 8, 12, 30, 7] vs 8), H)) fun x28 H =>
  bnd (iadS 2 x27 x28 H) fun x29 H =>
  bnd (pS (ldn 2 x29 H) H) fun x30 H =>
  bnd (abuildSlice Try.prog 27 1 [(0, x30)] H) fun x31 H =>
  bnd (appS 26 2 16 x26 x31 H) fun x32 H =>
  bnd (some (x32, H)) fun x33 H =>
  F30_j1 C n [(sl [0, 1, 2, 6, 8, 12, 30, 7] vs 0), (sl [0, 1, 2, 6, 8, 12, 30, 7] vs 1), (sl [0, 1, 2, 6, 8, 12, 30, 7] vs 2), (sl [0, 1, 2, 6, 8, 12, 30, 7] vs 6), (sl [0, 1, 2, 6, 8, 12, 30, 7] vs 8), x6, x25, x33] H) (
  F30_j1 C n [(sl [0, 1, 2, 6, 8, 12, 30, 7] vs 0), (sl [0, 1, 2, 6, 8, 12, 30, 7] vs 1), (sl [0, 1, 2, 6, 8, 12, 30, 7] vs 2), (sl [0, 1, 2, 6, 8, 12, 30, 7] vs 6), (sl [0, 1, 2, 6, 8, 12, 30, 7] vs 8), x6, x25, (sl [0, 1, 2, 6, 8, 12, 30, 7] vs 7)] H)) (
  fin (.exit 0) [(sl [0, 1, 2, 6, 8, 12, 30, 7] vs 0), (sl [0, 1, 2, 6, 8, 12, 30, 7] vs 1), (sl [0, 1, 2, 6, 8, 12, 30, 7] vs 2), (sl [0, 1, 2, 6, 8, 12, 30, 7] vs 6), (sl [0, 1, 2, 6, 8, 12, 30, 7] vs 8), x6, (sl [0, 1, 2, 6, 8, 12, 30, 7] vs 30), (sl [0, 1, 2, 6, 8, 12, 30, 7] vs 7)] H)

noncomputable def F30_b0v (C : Oracle) (n : Nat) (v0 v1 v2 v6 v8 v12 v30 v7 : Value) (H : Heap) : AOut :=
  bnd (some (v8, H)) fun x3 H =>
  bnd (some (v0, H)) fun x4 H =>
  bnd (pS (slen x4) H) fun x5 H =>
  bnd (pS (abin Try.prog .lss 3 x3 x5) H) fun x6 H =>
  brB x6 (bnd (some (v0, H)) fun x10 H =>
  bnd (some (v8, H)) fun x11 H =>
  bnd (iadS 2 x10 x11 H) fun x12 H =>
  bnd (fadS 0 x12 H) fun x13 H =>
  bnd (pS (ld1 x13 H) H) fun x14 H =>
  bnd (some (v1, H)) fun x15 H =>
  bnd (pS (abin Try.prog .geq 2 x14 x15) H) fun x16 H =>
  bnd (some (x16, H)) fun x17 H =>
  bnd (gd (wantV x17 true) (some (v0, H)) H) fun x18 H =>
  bnd (gd (wantV x17 true) (some (v8, H)) H) fun x19 H =>
  bnd (gd (wantV x17 true) (iadS 2 x18 x19 H) H) fun x20 H =>
  bnd (gd (wantV x17 true) (fadS 0 x20 H) H) fun x21 H =>
  bnd (gd (wantV x17 true) (pS (ld1 x21 H) H) H) fun x22 H =>
  bnd (gd (wantV x17 true) (some (v2, H)) H) fun x23 H =>
  bnd (gd (wantV x17 true) (pS (abin Try.prog .leq 2 x22 x23) H) H) fun x24 H =>
  bnd (pickS x17 x24 (Value.bool false) H) fun x25 H =>
  brB x25 (bnd (some (v7, H)) fun x26 H =>
  bnd (some (v0, H)) fun x27 H =>
  bnd (some (v8, H)) fun x28 H =>
  bnd (iadS 2 x27 x28 H) fun x29 H =>
  bnd (pS (ldn 2 x29 H) H) fun x30 H =>
  bnd (abuildSlice Try.prog 27 1 [(0, x30)] H) fun x31 H =>
  bnd (appS 26 2 16 x26 x31 H) fun x32 H =>
  bnd (some (x32, H)) fun x33 H =>
  F30_j1 C n [v0, v1, v2, v6, v8, x6, x25, x33] H) (
  F30_j1 C n [v0, v1, v2, v6, v8, x6, x25, v7] H)) (
  fin (.exit 0) [v0, v1, v2, v6, v8, x6, v30, v7] H)

theorem F30_b0_v (C : Oracle) (n : Nat) (v0 v1 v2 v6 v8 v12 v30 v7 : Value) (H : Heap) : F30_b0 C n [v0, v1, v2, v6, v8, v12, v30, v7] H = F30_b0v C n v0 v1 v2 v6 v8 v12 v30 v7 H := by
  kernel_rfl

noncomputable def F30_j2 (C : Oracle) (n : Nat) (vs : List Value) (H : Heap) : Option (Value × Heap) :=
  bnd (some ((sl [0, 1, 2, 6, 8, 12, 30, 7] vs 7), H)) fun x34 H =>
  bnd (some (x34, H)) fun x35 H =>
  some (x35, H)

noncomputable def F30_j2v (C : Oracle) (n : Nat) (v0 v1 v2 v6 v8 v12 v30 v7 : Value) (H : Heap) : Option (Value × Heap) :=
  bnd (some (v7, H)) fun x34 H =>
  bnd (some (x34, H)) fun x35 H =>
  some (x35, H)

theorem F30_j2_v (C : Oracle) (n : Nat) (v0 v1 v2 v6 v8 v12 v30 v7 : Value) (H : Heap) : F30_j2 C n [v0, v1, v2, v6, v8, v12, v30, v7] H = F30_j2v C n v0 v1 v2 v6 v8 v12 v30 v7 H := by
  kernel_rfl

noncomputable def F30 (C : Oracle) (n : Nat) (a0 a1 a2 : Value) (H : Heap) : Option (Value × Heap) :=
  bnd (some ((Value.slice none 0 0), H)) fun x0 H =>
  bnd (some ((Value.slice none 0 0), H)) fun x1 H =>
  bnd (some ((Value.int .i64 (0)), H)) fun x2 H =>
  onOut (iter n (F30_b0 C n) [a0, a1, a2, x0, x2, undef, undef, x1] H) (kBlk 0 (kSeq (F30_j2 C n) (kRet Try.prog [.tmp 6] [0, 1, 2, 6, 8, 12, 30, 7])))

theorem F30_eq (G : Oracle) (n : Nat) (a0 a1 a2 : Value) (H : Heap) : run G (n + 1) 30 [a0, a1, a2] H = F30 (run G n) n a0 a1 a2 H := by
  unfold run; rw [acall_k (fn := Try.f30) (keep := [0, 1, 2, 6, 8, 12, 30, 7]) (notBad 30 rfl) (by kernel_rfl) (by kernel_rfl)]
  kernel_rfl

abbrev F33_st (v0 : Value := undef) (v1 : Value := undef) (v4 : Value := undef) (v5 : Value := undef) (v27 : Value := undef) (v6 : Value := undef) : List Value := [v0, v1, v4, v5, v27, v6]

noncomputable def F33_j0 (C : Oracle) (n : Nat) (vs : List Value) (H : Heap) : Option (Value × Heap) :=
  bnd (some ((sl [0, 1, 4, 5, 27, 6] vs 6), H)) fun x11 H =>
  bnd (some ((sl [0, 1, 4, 5, 27, 6] vs 0), H)) fun x12 H =>
  bnd (some ((sl [0, 1, 4, 5, 27, 6] vs 5), H)) fun x13 H =>
  bnd (pS (scut 2 H x12 (some x13) none) H) fun x14 H =>
  bnd (appS 26 2 16 x11 x14 H) fun x15 H =>
  bnd (some (x15, H)) fun x16 H =>
  some (x16, H)

noncomputable def F33_j0v (C : Oracle) (n : Nat) (v0 v1 v4 v5 v27 v6 : Value) (H : Heap) : Option (Value × Heap) :=
  bnd (some (v6, H)) fun x11 H =>
  bnd (some (v0, H)) fun x12 H =>
  bnd (some (v5, H)) fun x13 H =>
  bnd (pS (scut 2 H x12 (some x13) none) H) fun x14 H =>
  bnd (appS 26 2 16 x11 x14 H) fun x15 H =>
  bnd (some (x15, H)) fun x16 H =>
  some (x16, H)

theorem F33_j0_v (C : Oracle) (n : Nat) (v0 v1 v4 v5 v27 v6 : Value) (H : Heap) : F33_j0 C n [v0, v1, v4, v5, v27, v6] H = F33_j0v C n v0 v1 v4 v5 v27 v6 H := by
  kernel_rfl

noncomputable def F33 (C : Oracle) (n : Nat) (a0 a1 : Value) (H : Heap) : Option (Value × Heap) :=
  bnd (some ((Value.slice none 0 0), H)) fun x0 H =>
  bnd (some (a0, H)) fun x1 H =>
  bnd (some (a1, H)) fun x2 H =>
  bnd (C 41 [x1, x2] H) fun x3 H =>
  bnd (some (x3, H)) fun x4 H =>
  bnd (abuildSlice Try.prog 27 0 [] H) fun x5 H =>
  bnd (some (a0, H)) fun x6 H =>
  bnd (some (x4, H)) fun x7 H =>
  bnd (pS (scut 2 H x6 none (some x7)) H) fun x8 H =>
  bnd (appS 26 2 16 x5 x8 H) fun x9 H =>
  bnd (some (x9, H)) fun x10 H =>
  bnd (some (x4, H)) fun x17 H =>
  bnd (some (a0, H)) fun x18 H =>
  bnd (pS (slen x18) H) fun x19 H =>
  bnd (pS (abin Try.prog .lss 3 x17 x19) H) fun x20 H =>
  bnd (some (x20, H)) fun x21 H =>
  bnd (gd (wantV x21 true) (some (a0, H)) H) fun x22 H =>
  bnd (gd (wantV x21 true) (some (x4, H)) H) fun x23 H =>
  bnd (gd (wantV x21 true) (iadS 2 x22 x23 H) H) fun x24 H =>
  bnd (gd (wantV x21 true) (fadS 0 x24 H) H) fun x25 H =>
  bnd (gd (wantV x21 true) (pS (ld1 x25 H) H) H) fun x26 H =>
  bnd (gd (wantV x21 true) (some (a1, H)) H) fun x27 H =>
  bnd (gd (wantV x21 true) (pS (abin Try.prog .eql 2 x26 x27) H) H) fun x28 H =>
  bnd (pickS x21 x28 (Value.bool false) H) fun x29 H =>
  brB x29 (bnd (some (x4, H)) fun x30 H =>
  bnd (pS (abin Try.prog .add 3 x30 (Value.int .i64 (1))) H) fun x31 H =>
  bnd (some (x31, H)) fun x32 H =>
  F33_j0 C n [a0, a1, x0, x32, x29, x10] H) (
  F33_j0 C n [a0, a1, x0, x4, x29, x10] H)

theorem F33_eq (G : Oracle) (n : Nat) (a0 a1 : Value) (H : Heap) : run G (n + 1) 33 [a0, a1] H = F33 (run G n) n a0 a1 H := by
  unfold run; rw [acall_k (fn := Try.f33) (keep := [0, 1, 4, 5, 27, 6]) (notBad 33 rfl) (by kernel_rfl) (by kernel_rfl)]
  kernel_rfl

abbrev F40_st (v0 : Value := undef) (v1 : Value := undef) (v4 : Value := undef) (v3 : Value := undef) (v8 : Value := undef) (v2 : Value := undef) (v23 : Value := undef) (v32 : Value := undef) (v36 : Value := undef) (v5 : Value := undef) (v41 : Value := undef) (v6 : Value := undef) (v70 : Value := undef) (v73 : Value := undef) : List Value := [v0, v1, v4, v3, v8, v2, v23, v32, v36, v5, v41, v6, v70, v73]

noncomputable def F40_j1 (C : Oracle) (n : Nat) (vs : List Value) (H : Heap) : AOut :=
  bnd (some ((sl [0, 1, 4, 3, 8, 2, 23, 32, 36, 5, 41, 6, 70, 73] vs 5), H)) fun x43 H =>
  bnd (pS (abin Try.prog .add 3 x43 (Value.int .i64 (1))) H) fun x44 H =>
  bnd (some (x44, H)) fun x45 H =>
  fin .normal [(sl [0, 1, 4, 3, 8, 2, 23, 32, 36, 5, 41, 6, 70, 73] vs 0), (sl [0, 1, 4, 3, 8, 2, 23, 32, 36, 5, 41, 6, 70, 73] vs 1), (sl [0, 1, 4, 3, 8, 2, 23, 32, 36, 5, 41, 6, 70, 73] vs 4), (sl [0, 1, 4, 3, 8, 2, 23, 32, 36, 5, 41, 6, 70, 73] vs 3), (sl [0, 1, 4, 3, 8, 2, 23, 32, 36, 5, 41, 6, 70, 73] vs 8), (sl [0, 1, 4, 3, 8, 2, 23, 32, 36, 5, 41, 6, 70, 73] vs 2), (sl [0, 1, 4, 3, 8, 2, 23, 32, 36, 5, 41, 6, 70, 73] vs 23), (sl [0, 1, 4, 3, 8, 2, 23, 32, 36, 5, 41, 6, 70, 73] vs 32), (sl [0, 1, 4, 3, 8, 2, 23, 32, 36, 5, 41, 6, 70, 73] vs 36), x45, (sl [0, 1, 4, 3, 8, 2, 23, 32, 36, 5, 41, 6, 70, 73] vs 41), (sl [0, 1, 4, 3, 8, 2, 23, 32, 36, 5, 41, 6, 70, 73] vs 6), (sl [0, 1, 4, 3, 8, 2, 23, 32, 36, 5, 41, 6, 70, 73] vs 70), (sl [0, 1, 4, 3, 8, 2, 23, 32, 36, 5, 41, 6, 70, 73] vs 73)] H

noncomputable def F40_j1v (C : Oracle) (n : Nat) (v0 v1 v4 v3 v8 v2 v23 v32 v36 v5 v41 v6 v70 v73 : Value) (H : Heap) : AOut :=
  bnd (some (v5, H)) fun x43 H =>
  bnd (pS (abin Try.prog .add 3 x43 (Value.int .i64 (1))) H) fun x44 H =>
  bnd (some (x44, H)) fun x45 H =>
  fin .normal [v0, v1, v4, v3, v8, v2, v23, v32, v36, x45, v41, v6, v70, v73] H

theorem F40_j1_v (C : Oracle) (n : Nat) (v0 v1 v4 v3 v8 v2 v23 v32 v36 v5 v41 v6 v70 v73 : Value) (H : Heap) : F40_j1 C n [v0, v1, v4, v3, v8, v2, v23, v32, v36, v5, v41, v6, v70, v73] H = F40_j1v C n v0 v1 v4 v3 v8 v2 v23 v32 v36 v5 v41 v6 v70 v73 H := by
  kernel_rfl

noncomputable def F40_b0 (C : Oracle) (n : Nat) (vs : List Value) (H : Heap) : AOut :=
  bnd (some ((sl [0, 1, 4, 3, 8, 2, 23, 32, 36, 5, 41, 6, 70, 73] vs 5), H)) fun x38 H =>
  bnd (fadS 7 (sl [0, 1, 4, 3, 8, 2, 23, 32, 36, 5, 41, 6, 70, 73] vs 3) H) fun x39 H =>
  bnd (pS (ld1 x39 H) H) fun x40 H =>
  bnd (pS (slen x40) H) fun x41 H =>
  bnd (pS (abin Try.prog .lss 3 x38 x41) H) fun x42 H =>
  brB x42 (holesK 1 H fun hb H =>
  bnd (fadS 7 (sl [0, 1, 4, 3, 8, 2, 23, 32, 36, 5, 41, 6, 70, 73] vs 3) H) fun x46 Hx46 =>
  bnd (pS (ld1 x46 Hx46) Hx46) fun x47 Hx47 =>
  bnd (some ((sl [0, 1, 4, 3, 8, 2, 23, 32, 36, 5, 41, 6, 70, 73] vs 5), Hx47)) fun x48 Hx48 =>
  bnd (iadS 1 x47 x48 Hx48) fun x49 Hx49 =>
  bnd (pS (ld1 x49 Hx49) Hx49) fun x50 Hx50 =>
  bnd (fadS 2 (sl [0, 1, 4, 3, 8, 2, 23, 32, 36, 5, 41, 6, 70, 73] vs 3) Hx50) fun x51 Hx51 =>
  bnd (pS (ldn 3 x51 Hx51) Hx51) fun x52 Hx52 =>
  bnd (C 14 [x50, x52] Hx52) fun x53 Hx53 =>
  bnd (layV (hb + 0) (some (fun i => Value.pointer (some ⟨i, 0, none⟩), (⟨[(Value.int .i64 (0)), (Value.bool false), (Value.int .i64 (0)), (Value.int .i64 (0)), (Value.int .i64 (0)), (Value.slice none 0 0)], 29, 1, false⟩ : Blk))) Hx53) fun x54 Hx54 =>
  bnd (stS 6 x54 x53 Hx54) fun x55 Hx55 =>
  if (cfS (some true) (some true) (pS (ld1 x46 Hx46) Hx46) (pS (ld1 x46 Hx53) Hx53) (pS (ld1 x46 Hx54) Hx54) && (cfS (some true) (some true) (pS (ld1 x49 Hx49) Hx49) (pS (ld1 x49 Hx53) Hx53) (pS (ld1 x49 Hx54) Hx54) && (cfS (some true) (some true) (pS (ldn 3 x51 Hx51) Hx51) (pS (ldn 3 x51 Hx53) Hx53) (pS (ldn 3 x51 Hx54) Hx54) && true))) = true then (fun H =>
  bnd (fadS 2 (sl [0, 1, 4, 3, 8, 2, 23, 32, 36, 5, 41, 6, 70, 73] vs 3) H) fun x56 H =>
  bnd (fadS 0 x56 H) fun x57 H =>
  bnd (pS (ld1 x57 H) H) fun x58 H =>
  bnd (pS (abin Try.prog .eql 3 x58 (Value.int .i64 (1))) H) fun x59 H =>
  bnd (some (x59, H)) fun x60 H =>
  bnd (gd (wantV x60 true) (fadS 1 x54 H) H) fun x61 H =>
  bnd (gd (wantV x60 true) (pS (ld1 x61 H) H) H) fun x62 H =>
  bnd (gd (wantV x60 true) (pS (aun .not x62) H) H) fun x63 H =>
  bnd (pickS x60 x63 (Value.bool false) H) fun x64 H =>
  bnd (some (x64, H)) fun x65 H =>
  bnd (gd (wantV x65 false) (fadS 2 (sl [0, 1, 4, 3, 8, 2, 23, 32, 36, 5, 41, 6, 70, 73] vs 3) H) H) fun x66 H =>
  bnd (gd (wantV x65 false) (fadS 0 x66 H) H) fun x67 H =>
  bnd (gd (wantV x65 false) (pS (ld1 x67 H) H) H) fun x68 H =>
  bnd (gd (wantV x65 false) (pS (abin Try.prog .eql 3 x68 (Value.int .i64 (3))) H) H) fun x69 H =>
  bnd (gd (wantV x65 false) (some (x69, H)) H) fun x70 H =>
  bnd (gd (wantV x70 true) (fadS 1 x54 H) H) fun x71 H =>
  bnd (gd (wantV x70 true) (pS (ld1 x71 H) H) H) fun x72 H =>
  bnd (gd (wantV x65 false) (pickS x70 x72 (Value.bool false) H) H) fun x73 H =>
  bnd (pickS x65 (Value.bool true) x73 H) fun x74 H =>
  brB x74 (F40_j1 C n [(sl [0, 1, 4, 3, 8, 2, 23, 32, 36, 5, 41, 6, 70, 73] vs 0), (sl [0, 1, 4, 3, 8, 2, 23, 32, 36, 5, 41, 6, 70, 73] vs 1), (sl [0, 1, 4, 3, 8, 2, 23, 32, 36, 5, 41, 6, 70, 73] vs 4), (sl [0, 1, 4, 3, 8, 2, 23, 32, 36, 5, 41, 6, 70, 73] vs 3), (sl [0, 1, 4, 3, 8, 2, 23, 32, 36, 5, 41, 6, 70, 73] vs 8), (sl [0, 1, 4, 3, 8, 2, 23, 32, 36, 5, 41, 6, 70, 73] vs 2), (sl [0, 1, 4, 3, 8, 2, 23, 32, 36, 5, 41, 6, 70, 73] vs 23), (sl [0, 1, 4, 3, 8, 2, 23, 32, 36, 5, 41, 6, 70, 73] vs 32), (sl [0, 1, 4, 3, 8, 2, 23, 32, 36, 5, 41, 6, 70, 73] vs 36), (sl [0, 1, 4, 3, 8, 2, 23, 32, 36, 5, 41, 6, 70, 73] vs 5), x42, x54, x74, (sl [0, 1, 4, 3, 8, 2, 23, 32, 36, 5, 41, 6, 70, 73] vs 73)] H) (
  bnd (pS (ldn 6 (sl [0, 1, 4, 3, 8, 2, 23, 32, 36, 5, 41, 6, 70, 73] vs 2) H) H) fun x75 H =>
  bnd (pS (ldn 6 x54 H) H) fun x76 H =>
  bnd (C 12 [x75, x76] H) fun x77 H =>
  brB x77 (bnd (some ((Value.bool true), H)) fun x78 H =>
  fin .ret [(sl [0, 1, 4, 3, 8, 2, 23, 32, 36, 5, 41, 6, 70, 73] vs 0), (sl [0, 1, 4, 3, 8, 2, 23, 32, 36, 5, 41, 6, 70, 73] vs 1), x78, (sl [0, 1, 4, 3, 8, 2, 23, 32, 36, 5, 41, 6, 70, 73] vs 3), (sl [0, 1, 4, 3, 8, 2, 23, 32, 36, 5, 41, 6, 70, 73] vs 8), (sl [0, 1, 4, 3, 8, 2, 23, 32, 36, 5, 41, 6, 70, 73] vs 2), (sl [0, 1, 4, 3, 8, 2, 23, 32, 36, 5, 41, 6, 70, 73] vs 23), (sl [0, 1, 4, 3, 8, 2, 23, 32, 36, 5, 41, 6, 70, 73] vs 32), (sl [0, 1, 4, 3, 8, 2, 23, 32, 36, 5, 41, 6, 70, 73] vs 36), (sl [0, 1, 4, 3, 8, 2, 23, 32, 36, 5, 41, 6, 70, 73] vs 5), x42, x54, x74, x77] H) (
  F40_j1 C n [(sl [0, 1, 4, 3, 8, 2, 23, 32, 36, 5, 41, 6, 70, 73] vs 0), (sl [0, 1, 4, 3, 8, 2, 23, 32, 36, 5, 41, 6, 70, 73] vs 1), (sl [0, 1, 4, 3, 8, 2, 23, 32, 36, 5, 41, 6, 70, 73] vs 4), (sl [0, 1, 4, 3, 8, 2, 23, 32, 36, 5, 41, 6, 70, 73] vs 3), (sl [0, 1, 4, 3, 8, 2, 23, 32, 36, 5, 41, 6, 70, 73] vs 8), (sl [0, 1, 4, 3, 8, 2, 23, 32, 36, 5, 41, 6, 70, 73] vs 2), (sl [0, 1, 4, 3, 8, 2, 23, 32, 36, 5, 41, 6, 70, 73] vs 23), (sl [0, 1, 4, 3, 8, 2, 23, 32, 36, 5, 41, 6, 70, 73] vs 32), (sl [0, 1, 4, 3, 8, 2, 23, 32, 36, 5, 41, 6, 70, 73] vs 36), (sl [0, 1, 4, 3, 8, 2, 23, 32, 36, 5, 41, 6, 70, 73] vs 5), x42, x54, x74, x77] H))) Hx55 else none) (
  fin (.exit 0) [(sl [0, 1, 4, 3, 8, 2, 23, 32, 36, 5, 41, 6, 70, 73] vs 0), (sl [0, 1, 4, 3, 8, 2, 23, 32, 36, 5, 41, 6, 70, 73] vs 1), (sl [0, 1, 4, 3, 8, 2, 23, 32, 36, 5, 41, 6, 70, 73] vs 4), (sl [0, 1, 4, 3, 8, 2, 23, 32, 36, 5, 41, 6, 70, 73] vs 3), (sl [0, 1, 4, 3, 8, 2, 23, 32, 36, 5, 41, 6, 70, 73] vs 8), (sl [0, 1, 4, 3, 8, 2, 23, 32, 36, 5, 41, 6, 70, 73] vs 2), (sl [0, 1, 4, 3, 8, 2, 23, 32, 36, 5, 41, 6, 70, 73] vs 23), (sl [0, 1, 4, 3, 8, 2, 23, 32, 36, 5, 41, 6, 70, 73] vs 32), (sl [0, 1, 4, 3, 8, 2, 23, 32, 36, 5, 41, 6, 70, 73] vs 36), (sl [0, 1, 4, 3, 8, 2, 23, 32, 36, 5, 41, 6, 70, 73] vs 5), x42, (sl [0, 1, 4, 3, 8, 2, 23, 32, 36, 5, 41, 6, 70, 73] vs 6), (sl [0, 1, 4, 3, 8, 2, 23, 32, 36, 5, 41, 6, 70, 73] vs 70), (sl [0, 1, 4, 3, 8, 2, 23, 32, 36, 5, 41, 6, 70, 73] vs 73)] H)

noncomputable def F40_b0v (C : Oracle) (n : Nat) (v0 v1 v4 v3 v8 v2 v23 v32 v36 v5 v41 v6 v70 v73 : Value) (H : Heap) : AOut :=
  bnd (some (v5, H)) fun x38 H =>
  bnd (fadS 7 v3 H) fun x39 H =>
  bnd (pS (ld1 x39 H) H) fun x40 H =>
  bnd (pS (slen x40) H) fun x41 H =>
  bnd (pS (abin Try.prog .lss 3 x38 x41) H) fun x42 H =>
  brB x42 (holesK 1 H fun hb H =>
  bnd (fadS 7 v3 H) fun x46 Hx46 =>
  bnd (pS (ld1 x46 Hx46) Hx46) fun x47 Hx47 =>
  bnd (some (v5, Hx47)) fun x48 Hx48 =>
  bnd (iadS 1 x47 x48 Hx48) fun x49 Hx49 =>
  bnd (pS (ld1 x49 Hx49) Hx49) fun x50 Hx50 =>
  bnd (fadS 2 v3 Hx50) fun x51 Hx51 =>
  bnd (pS (ldn 3 x51 Hx51) Hx51) fun x52 Hx52 =>
  bnd (C 14 [x50, x52] Hx52) fun x53 Hx53 =>
  bnd (layV (hb + 0) (some (fun i => Value.pointer (some ⟨i, 0, none⟩), (⟨[(Value.int .i64 (0)), (Value.bool false), (Value.int .i64 (0)), (Value.int .i64 (0)), (Value.int .i64 (0)), (Value.slice none 0 0)], 29, 1, false⟩ : Blk))) Hx53) fun x54 Hx54 =>
  bnd (stS 6 x54 x53 Hx54) fun x55 Hx55 =>
  if (cfS (some true) (some true) (pS (ld1 x46 Hx46) Hx46) (pS (ld1 x46 Hx53) Hx53) (pS (ld1 x46 Hx54) Hx54) && (cfS (some true) (some true) (pS (ld1 x49 Hx49) Hx49) (pS (ld1 x49 Hx53) Hx53) (pS (ld1 x49 Hx54) Hx54) && (cfS (some true) (some true) (pS (ldn 3 x51 Hx51) Hx51) (pS (ldn 3 x51 Hx53) Hx53) (pS (ldn 3 x51 Hx54) Hx54) && true))) = true then (fun H =>
  bnd (fadS 2 v3 H) fun x56 H =>
  bnd (fadS 0 x56 H) fun x57 H =>
  bnd (pS (ld1 x57 H) H) fun x58 H =>
  bnd (pS (abin Try.prog .eql 3 x58 (Value.int .i64 (1))) H) fun x59 H =>
  bnd (some (x59, H)) fun x60 H =>
  bnd (gd (wantV x60 true) (fadS 1 x54 H) H) fun x61 H =>
  bnd (gd (wantV x60 true) (pS (ld1 x61 H) H) H) fun x62 H =>
  bnd (gd (wantV x60 true) (pS (aun .not x62) H) H) fun x63 H =>
  bnd (pickS x60 x63 (Value.bool false) H) fun x64 H =>
  bnd (some (x64, H)) fun x65 H =>
  bnd (gd (wantV x65 false) (fadS 2 v3 H) H) fun x66 H =>
  bnd (gd (wantV x65 false) (fadS 0 x66 H) H) fun x67 H =>
  bnd (gd (wantV x65 false) (pS (ld1 x67 H) H) H) fun x68 H =>
  bnd (gd (wantV x65 false) (pS (abin Try.prog .eql 3 x68 (Value.int .i64 (3))) H) H) fun x69 H =>
  bnd (gd (wantV x65 false) (some (x69, H)) H) fun x70 H =>
  bnd (gd (wantV x70 true) (fadS 1 x54 H) H) fun x71 H =>
  bnd (gd (wantV x70 true) (pS (ld1 x71 H) H) H) fun x72 H =>
  bnd (gd (wantV x65 false) (pickS x70 x72 (Value.bool false) H) H) fun x73 H =>
  bnd (pickS x65 (Value.bool true) x73 H) fun x74 H =>
  brB x74 (F40_j1 C n [v0, v1, v4, v3, v8, v2, v23, v32, v36, v5, x42, x54, x74, v73] H) (
  bnd (pS (ldn 6 v2 H) H) fun x75 H =>
  bnd (pS (ldn 6 x54 H) H) fun x76 H =>
  bnd (C 12 [x75, x76] H) fun x77 H =>
  brB x77 (bnd (some ((Value.bool true), H)) fun x78 H =>
  fin .ret [v0, v1, x78, v3, v8, v2, v23, v32, v36, v5, x42, x54, x74, x77] H) (
  F40_j1 C n [v0, v1, v4, v3, v8, v2, v23, v32, v36, v5, x42, x54, x74, x77] H))) Hx55 else none) (
  fin (.exit 0) [v0, v1, v4, v3, v8, v2, v23, v32, v36, v5, x42, v6, v70, v73] H)

theorem F40_b0_v (C : Oracle) (n : Nat) (v0 v1 v4 v3 v8 v2 v23 v32 v36 v5 v41 v6 v70 v73 : Value) (H : Heap) : F40_b0 C n [v0, v1, v4, v3, v8, v2, v23, v32, v36, v5, v41, v6, v70, v73] H = F40_b0v C n v0 v1 v4 v3 v8 v2 v23 v32 v36 v5 v41 v6 v70 v73 H := by
  kernel_rfl

noncomputable def F40_j2 (C : Oracle) (n : Nat) (vs : List Value) (H : Heap) : Option (Value × Heap) :=
  bnd (some ((Value.bool false), H)) fun x79 H =>
  some (x79, H)

noncomputable def F40_j2v (C : Oracle) (n : Nat) (v0 v1 v4 v3 v8 v2 v23 v32 v36 v5 v41 v6 v70 v73 : Value) (H : Heap) : Option (Value × Heap) :=
  bnd (some ((Value.bool false), H)) fun x79 H =>
  some (x79, H)

theorem F40_j2_v (C : Oracle) (n : Nat) (v0 v1 v4 v3 v8 v2 v23 v32 v36 v5 v41 v6 v70 v73 : Value) (H : Heap) : F40_j2 C n [v0, v1, v4, v3, v8, v2, v23, v32, v36, v5, v41, v6, v70, v73] H = F40_j2v C n v0 v1 v4 v3 v8 v2 v23 v32 v36 v5 v41 v6 v70 v73 H := by
  kernel_rfl

noncomputable def F40 (C : Oracle) (n : Nat) (a0 a1 : Value) (H : Heap) : Option (Value × Heap) :=
  bnd (boxS 29 a0 H) fun x0 H =>
  bnd (boxS 78 a1 H) fun x1 H =>
  bnd (some ((Value.bool false), H)) fun x2 H =>
  bnd (fadS 5 x1 H) fun x3 H =>
  bnd (pS (ld1 x3 H) H) fun x4 H =>
  brB x4 (bnd (pS (ldn 6 x0 H) H) fun x5 Hx5 =>
  bnd (fadS 6 x1 Hx5) fun x6 Hx6 =>
  bnd (pS (ld1 x6 Hx6) Hx6) fun x7 Hx7 =>
  bnd (fadS 2 x1 Hx7) fun x8 Hx8 =>
  bnd (pS (ldn 3 x8 Hx8) Hx8) fun x9 Hx9 =>
  bnd (C 14 [x7, x9] Hx9) fun x10 Hx10 =>
  bnd (C 12 [x5, x10] Hx10) fun x11 Hx11 =>
  bnd (some (x11, Hx11)) fun x12 Hx12 =>
  if (cfS (some true) (some true) (pS (ldn 6 x0 H) H) (pS (ldn 6 x0 Hx9) Hx9) (pS (ldn 6 x0 Hx10) Hx10) && true) = true then (fun H =>
  some (x12, H)) Hx12 else none) (
  bnd (fadS 2 x1 H) fun x13 H =>
  bnd (pS (ldn 3 x13 H) H) fun x14 H =>
  bnd (C 54 [x14] H) fun x15 H =>
  bnd (some (x15, H)) fun x16 H =>
  bnd (gd (wantV x16 true) (pS (ldn 6 x0 H) H) H) fun x17 H =>
  bnd (gd (wantV x16 true) (pS (abuild Try.prog 29 [(0, (Value.int .i64 (8)))]) H) H) fun x18 H =>
  bnd (gd (wantV x16 true) (C 12 [x17, x18] H) H) fun x19 H =>
  bnd (pickS x16 x19 (Value.bool false) H) fun x20 H =>
  brB x20 (bnd (some ((Value.bool true), H)) fun x21 H =>
  some (x21, H)) (
  bnd (fadS 2 x1 H) fun x22 H =>
  bnd (fadS 0 x22 H) fun x23 H =>
  bnd (pS (ld1 x23 H) H) fun x24 H =>
  bnd (pS (abin Try.prog .geq 3 x24 (Value.int .i64 (5))) H) fun x25 H =>
  bnd (some (x25, H)) fun x26 H =>
  bnd (gd (wantV x26 true) (pS (ldn 6 x0 H) H) H) fun x27 H =>
  bnd (gd (wantV x26 true) (pS (abuild Try.prog 29 [(0, (Value.int .i64 (9)))]) H) H) fun x28 H =>
  bnd (gd (wantV x26 true) (C 12 [x27, x28] H) H) fun x29 H =>
  bnd (pickS x26 x29 (Value.bool false) H) fun x30 H =>
  brB x30 (bnd (some ((Value.bool true), H)) fun x31 H =>
  some (x31, H)) (
  bnd (fadS 2 x1 H) fun x32 H =>
  bnd (fadS 0 x32 H) fun x33 H =>
  bnd (pS (ld1 x33 H) H) fun x34 H =>
  bnd (pS (abin Try.prog .eql 3 x34 (Value.int .i64 (2))) H) fun x35 H =>
  brB x35 (bnd (some ((Value.bool false), H)) fun x36 H =>
  some (x36, H)) (
  bnd (some ((Value.int .i64 (0)), H)) fun x37 H =>
  onOut (iter n (F40_b0 C n) [a0, a1, x2, x1, x4, x0, x20, x30, x35, x37, undef, undef, undef, undef] H) (kBlk 0 (kSeq (F40_j2 C n) (kRet Try.prog [.tmp 4] [0, 1, 4, 3, 8, 2, 23, 32, 36, 5, 41, 6, 70, 73])))))))

theorem F40_eq (G : Oracle) (n : Nat) (a0 a1 : Value) (H : Heap) : run G (n + 1) 40 [a0, a1] H = F40 (run G n) n a0 a1 H := by
  unfold run; rw [acall_k (fn := Try.f40) (keep := [0, 1, 4, 3, 8, 2, 23, 32, 36, 5, 41, 6, 70, 73]) (notBad 40 rfl) (by kernel_rfl) (by kernel_rfl)]
  kernel_rfl

abbrev F45_st (v0 : Value := undef) (v1 : Value := undef) (v4 : Value := undef) (v5 : Value := undef) (v6 : Value := undef) (v9 : Value := undef) (v18 : Value := undef) (v7 : Value := undef) : List Value := [v0, v1, v4, v5, v6, v9, v18, v7]

noncomputable def F45_j0 (C : Oracle) (n : Nat) (vs : List Value) (H : Heap) : Option (Value × Heap) :=
  bnd (some ((sl [0, 1, 4, 5, 6, 9, 18, 7] vs 0), H)) fun x13 H =>
  bnd (some ((sl [0, 1, 4, 5, 6, 9, 18, 7] vs 7), H)) fun x14 H =>
  bnd (C 58 [x13, x14] H) fun x15 H =>
  bnd (extS 0 x15 H) fun x16 H =>
  bnd (extS 1 x15 H) fun x17 H =>
  bnd (extS 2 x15 H) fun x18 H =>
  bnd (some (x16, H)) fun x19 H =>
  bnd (some (x17, H)) fun x20 H =>
  bnd (some (x18, H)) fun x21 H =>
  some (Value.tuple #[x19, x20, x21], H)

noncomputable def F45_j0v (C : Oracle) (n : Nat) (v0 v1 v4 v5 v6 v9 v18 v7 : Value) (H : Heap) : Option (Value × Heap) :=
  bnd (some (v0, H)) fun x13 H =>
  bnd (some (v7, H)) fun x14 H =>
  bnd (C 58 [x13, x14] H) fun x15 H =>
  bnd (extS 0 x15 H) fun x16 H =>
  bnd (extS 1 x15 H) fun x17 H =>
  bnd (extS 2 x15 H) fun x18 H =>
  bnd (some (x16, H)) fun x19 H =>
  bnd (some (x17, H)) fun x20 H =>
  bnd (some (x18, H)) fun x21 H =>
  some (Value.tuple #[x19, x20, x21], H)

theorem F45_j0_v (C : Oracle) (n : Nat) (v0 v1 v4 v5 v6 v9 v18 v7 : Value) (H : Heap) : F45_j0 C n [v0, v1, v4, v5, v6, v9, v18, v7] H = F45_j0v C n v0 v1 v4 v5 v6 v9 v18 v7 H := by
  kernel_rfl

noncomputable def F45 (C : Oracle) (n : Nat) (a0 a1 : Value) (H : Heap) : Option (Value × Heap) :=
  bnd (some ((Value.int .i64 (0)), H)) fun x0 H =>
  bnd (some ((Value.int .i64 (0)), H)) fun x1 H =>
  bnd (some ((Value.bool false), H)) fun x2 H =>
  bnd (some (a0, H)) fun x3 H =>
  bnd (some (a1, H)) fun x4 H =>
  bnd (C 57 [x3, x4] H) fun x5 H =>
  bnd (some (x5, H)) fun x6 H =>
  bnd (extS 0 x6 H) fun x7 H =>
  bnd (extS 1 x6 H) fun x8 H =>
  bnd (extS 2 x6 H) fun x9 H =>
  bnd (some (x7, H)) fun x10 H =>
  bnd (some (x8, H)) fun x11 H =>
  bnd (some (x9, H)) fun x12 H =>
  bnd (some (x12, H)) fun x22 H =>
  bnd (pS (aun .not x22) H) fun x23 H =>
  brB x23 (bnd (some (x10, H)) fun x24 H =>
  bnd (pS (abin Try.prog .sub 3 x24 (Value.int .i64 (1))) H) fun x25 H =>
  bnd (some (x25, H)) fun x26 H =>
  F45_j0 C n [a0, a1, x0, x1, x2, x12, x23, x26] H) (
  F45_j0 C n [a0, a1, x0, x1, x2, x12, x23, x10] H)

theorem F45_eq (G : Oracle) (n : Nat) (a0 a1 : Value) (H : Heap) : run G (n + 1) 45 [a0, a1] H = F45 (run G n) n a0 a1 H := by
  unfold run; rw [acall_k (fn := Try.f45) (keep := [0, 1, 4, 5, 6, 9, 18, 7]) (notBad 45 rfl) (by kernel_rfl) (by kernel_rfl)]
  kernel_rfl

noncomputable def F48 (C : Oracle) (n : Nat) (a0 a1 : Value) (H : Heap) : Option (Value × Heap) :=
  bnd (boxS 23 a1 H) fun x0 H =>
  bnd (some ((Value.bool false), H)) fun x1 H =>
  bnd (some (a0, H)) fun x2 H =>
  bnd (fadS 1 x0 H) fun x3 H =>
  bnd (pS (ld1 x3 H) H) fun x4 H =>
  bnd (C 43 [x2, x4] H) fun x5 H =>
  bnd (some (x5, H)) fun x6 H =>
  bnd (extS 0 x6 H) fun x7 H =>
  bnd (extS 1 x6 H) fun x8 H =>
  bnd (some (x7, H)) fun x9 H =>
  bnd (some (x8, H)) fun x10 H =>
  bnd (fadS 0 x0 H) fun x11 H =>
  bnd (pS (ld1 x11 H) H) fun x12 H =>
  bnd (pS (abin Try.prog .eql 3 x12 (Value.int .i64 (1))) H) fun x13 H =>
  bnd (some (x13, H)) fun x14 H =>
  brB x14 (bnd (some (x10, H)) fun x15 H =>
  bnd (pS (aun .not x15) H) fun x16 H =>
  bnd (some (x16, H)) fun x17 H =>
  some (x17, H)) (
  bnd (pS (abin Try.prog .eql 3 x12 (Value.int .i64 (3))) H) fun x18 H =>
  bnd (some (x18, H)) fun x19 H =>
  brB x19 (bnd (some (x10, H)) fun x20 H =>
  bnd (some (x20, H)) fun x21 H =>
  some (x21, H)) (
  bnd (fadS 0 x0 H) fun x22 H =>
  bnd (pS (ld1 x22 H) H) fun x23 H =>
  bnd (pS (abin Try.prog .eql 3 x23 (Value.int .i64 (2))) H) fun x24 H =>
  bnd (some (x24, H)) fun x25 H =>
  some (x25, H)))

theorem F48_eq (G : Oracle) (n : Nat) (a0 a1 : Value) (H : Heap) : run G (n + 1) 48 [a0, a1] H = F48 (run G n) n a0 a1 H := by
  unfold run; rw [acall_k (fn := Try.f48) (keep := [0, 1, 4, 3, 15, 16, 6, 20]) (notBad 48 rfl) (by kernel_rfl) (by kernel_rfl)]
  kernel_rfl

noncomputable def F54 (C : Oracle) (n : Nat) (a0 : Value) (H : Heap) : Option (Value × Heap) :=
  bnd (boxS 23 a0 H) fun x0 H =>
  bnd (some ((Value.bool false), H)) fun x1 H =>
  bnd (fadS 0 x0 H) fun x2 H =>
  bnd (pS (ld1 x2 H) H) fun x3 H =>
  bnd (pS (abin Try.prog .geq 3 x3 (Value.int .i64 (1))) H) fun x4 H =>
  bnd (some (x4, H)) fun x5 H =>
  bnd (gd (wantV x5 true) (fadS 0 x0 H) H) fun x6 H =>
  bnd (gd (wantV x5 true) (pS (ld1 x6 H) H) H) fun x7 H =>
  bnd (gd (wantV x5 true) (pS (abin Try.prog .leq 3 x7 (Value.int .i64 (3))) H) H) fun x8 H =>
  bnd (pickS x5 x8 (Value.bool false) H) fun x9 H =>
  bnd (some (x9, H)) fun x10 H =>
  some (x10, H)

theorem F54_eq (G : Oracle) (n : Nat) (a0 : Value) (H : Heap) : run G (n + 1) 54 [a0] H = F54 (run G n) n a0 H := by
  unfold run; rw [acall_k (fn := Try.f54) (keep := [0, 2, 1]) (notBad 54 rfl) (by kernel_rfl) (by kernel_rfl)]
  kernel_rfl

noncomputable def F58 (C : Oracle) (n : Nat) (a0 a1 : Value) (H : Heap) : Option (Value × Heap) :=
  bnd (some ((Value.int .i64 (0)), H)) fun x0 H =>
  bnd (some ((Value.int .i64 (0)), H)) fun x1 H =>
  bnd (some ((Value.bool false), H)) fun x2 H =>
  bnd (some (a1, H)) fun x3 H =>
  bnd (pS (abin Try.prog .lss 3 x3 (Value.int .i64 (0))) H) fun x4 H =>
  bnd (some (x4, H)) fun x5 H =>
  bnd (gd (wantV x5 false) (some (a1, H)) H) fun x6 H =>
  bnd (gd (wantV x5 false) (some (a0, H)) H) fun x7 H =>
  bnd (gd (wantV x5 false) (nckS x7 H) H) fun x8 H =>
  bnd (gd (wantV x5 false) (fadS 0 x8 H) H) fun x9 H =>
  bnd (gd (wantV x5 false) (pS (ld1 x9 H) H) H) fun x10 H =>
  bnd (gd (wantV x5 false) (pS (slen x10) H) H) fun x11 H =>
  bnd (gd (wantV x5 false) (pS (abin Try.prog .geq 3 x6 x11) H) H) fun x12 H =>
  bnd (pickS x5 (Value.bool true) x12 H) fun x13 H =>
  brB x13 (bnd (some ((Value.int .i64 (0)), H)) fun x14 H =>
  bnd (some ((Value.int .i64 (0)), H)) fun x15 H =>
  bnd (some (x14, H)) fun x16 H =>
  bnd (some (x15, H)) fun x17 H =>
  bnd (some (x16, H)) fun x18 H =>
  bnd (some (x17, H)) fun x19 H =>
  bnd (some ((Value.bool false), H)) fun x20 H =>
  some (Value.tuple #[x18, x19, x20], H)) (
  bnd (some (a0, H)) fun x21 H =>
  bnd (nckS x21 H) fun x22 H =>
  bnd (fadS 0 x22 H) fun x23 H =>
  bnd (pS (ld1 x23 H) H) fun x24 H =>
  bnd (some (a1, H)) fun x25 H =>
  bnd (iadS 1 x24 x25 H) fun x26 H =>
  bnd (pS (ld1 x26 H) H) fun x27 H =>
  bnd (some (a0, H)) fun x28 H =>
  bnd (nckS x28 H) fun x29 H =>
  bnd (fadS 1 x29 H) fun x30 H =>
  bnd (pS (ld1 x30 H) H) fun x31 H =>
  bnd (some (a1, H)) fun x32 H =>
  bnd (iadS 1 x31 x32 H) fun x33 H =>
  bnd (pS (ld1 x33 H) H) fun x34 H =>
  bnd (some (x27, H)) fun x35 H =>
  bnd (some (x34, H)) fun x36 H =>
  bnd (some ((Value.bool true), H)) fun x37 H =>
  some (Value.tuple #[x35, x36, x37], H))

theorem F58_eq (G : Oracle) (n : Nat) (a0 a1 : Value) (H : Heap) : run G (n + 1) 58 [a0, a1] H = F58 (run G n) n a0 a1 H := by
  unfold run; rw [acall_k (fn := Try.f58) (keep := [0, 1, 4, 5, 6, 19, 7, 8]) (notBad 58 rfl) (by kernel_rfl) (by kernel_rfl)]
  kernel_rfl

noncomputable def F59 (C : Oracle) (n : Nat) (a0 a1 a2 : Value) (H : Heap) : Option (Value × Heap) :=
  bnd (boxS 48 a0 H) fun x0 H =>
  bnd (boxS 3 a1 H) fun x1 H =>
  bnd (boxS 104 a2 H) fun x2 H =>
  bnd (some (Value.nilFunc, H)) fun x3 H =>
  bnd (some (Value.func (.func 70) #[] #[x1, x0, x2], H)) fun x4 H =>
  bnd (some (x4, H)) fun x5 H =>
  some (x5, H)

theorem F59_eq (G : Oracle) (n : Nat) (a0 a1 a2 : Value) (H : Heap) : run G (n + 1) 59 [a0, a1, a2] H = F59 (run G n) n a0 a1 a2 H := by
  unfold run; rw [acall_k (fn := Try.f59) (keep := [0, 1, 2, 6, 4, 3, 5]) (notBad 59 rfl) (by kernel_rfl) (by kernel_rfl)]
  kernel_rfl

noncomputable def F62 (C : Oracle) (n : Nat) (a0 a1 a2 : Value) (H : Heap) : Option (Value × Heap) :=
  bnd (some ((Value.slice none 0 0), H)) fun x0 H =>
  bnd (some (a0, H)) fun x1 H =>
  bnd (some (a1, H)) fun x2 H =>
  bnd (some (a2, H)) fun x3 H =>
  bnd (some (a0, H)) fun x4 H =>
  bnd (pS (slen x4) H) fun x5 H =>
  bnd (pS (scut3 1 H x1 (some x2) (some x3) x5) H) fun x6 H =>
  bnd (some (a1, H)) fun x7 H =>
  bnd (some (a2, H)) fun x8 H =>
  bnd (pS (abin Try.prog .eql 3 x7 x8) H) fun x9 H =>
  brB x9 (bnd (some (a0, H)) fun x10 H =>
  bnd (some (x10, H)) fun x11 H =>
  some (x11, H)) (
  bnd (some (a0, H)) fun x12 H =>
  bnd (pS (slen x12) H) fun x13 H =>
  bnd (some (x13, H)) fun x14 H =>
  bnd (some (a0, H)) fun x15 H =>
  bnd (some (a1, H)) fun x16 H =>
  bnd (pS (scut 1 H x15 none (some x16)) H) fun x17 H =>
  bnd (some (a0, H)) fun x18 H =>
  bnd (some (a2, H)) fun x19 H =>
  bnd (pS (scut 1 H x18 (some x19) none) H) fun x20 H =>
  bnd (appS 2 1 8 x17 x20 H) fun x21 H =>
  bnd (some (x21, H)) fun x22 H =>
  bnd (some (x22, H)) fun x23 H =>
  bnd (some (x22, H)) fun x24 H =>
  bnd (pS (slen x24) H) fun x25 H =>
  bnd (some (x14, H)) fun x26 H =>
  bnd (pS (scut 1 H x23 (some x25) (some x26)) H) fun x27 H =>
  bnd (clrS [(Value.int .i64 (0))] x27 H) fun x28 H =>
  bnd (some (x22, H)) fun x29 H =>
  bnd (some (x29, H)) fun x30 H =>
  some (x30, H))

theorem F62_eq (G : Oracle) (n : Nat) (a0 a1 a2 : Value) (H : Heap) : run G (n + 1) 62 [a0, a1, a2] H = F62 (run G n) n a0 a1 a2 H := by
  unfold run; rw [acall_k (fn := Try.f62) (keep := [0, 1, 2, 6, 16, 7]) (notBad 62 rfl) (by kernel_rfl) (by kernel_rfl)]
  kernel_rfl

noncomputable def F64 (C : Oracle) (n : Nat) (a0 a1 : Value) (H : Heap) : Option (Value × Heap) :=
  bnd (some ((Value.bool false), H)) fun x0 H =>
  bnd (some (a0, H)) fun x1 H =>
  bnd (some (a1, H)) fun x2 H =>
  bnd (C 72 [x1, x2] H) fun x3 H =>
  bnd (pS (abin Try.prog .geq 3 x3 (Value.int .i64 (0))) H) fun x4 H =>
  bnd (some (x4, H)) fun x5 H =>
  some (x5, H)

theorem F64_eq (G : Oracle) (n : Nat) (a0 a1 : Value) (H : Heap) : run G (n + 1) 64 [a0, a1] H = F64 (run G n) n a0 a1 H := by
  unfold run; rw [acall_k (fn := Try.f64) (keep := [0, 1, 4]) (notBad 64 rfl) (by kernel_rfl) (by kernel_rfl)]
  kernel_rfl

noncomputable def F66 (C : Oracle) (n : Nat) (a0 a1 : Value) (H : Heap) : Option (Value × Heap) :=
  bnd (some ((Value.bool false), H)) fun x0 H =>
  bnd (some (a0, H)) fun x1 H =>
  bnd (C 73 [x1] H) fun x2 H =>
  bnd (some (x2, H)) fun x3 H =>
  bnd (gd (wantV x3 true) (some (a1, H)) H) fun x4 H =>
  bnd (gd (wantV x3 true) (C 73 [x4] H) H) fun x5 H =>
  bnd (gd (wantV x3 true) (pS (aun .not x5) H) H) fun x6 H =>
  bnd (pickS x3 x6 (Value.bool false) H) fun x7 H =>
  bnd (some (x7, H)) fun x8 H =>
  bnd (gd (wantV x8 false) (some (a0, H)) H) fun x9 H =>
  bnd (gd (wantV x8 false) (some (a1, H)) H) fun x10 H =>
  bnd (gd (wantV x8 false) (pS (abin Try.prog .lss 2 x9 x10) H) H) fun x11 H =>
  bnd (pickS x8 (Value.bool true) x11 H) fun x12 H =>
  bnd (some (x12, H)) fun x13 H =>
  some (x13, H)

theorem F66_eq (G : Oracle) (n : Nat) (a0 a1 : Value) (H : Heap) : run G (n + 1) 66 [a0, a1] H = F66 (run G n) n a0 a1 H := by
  unfold run; rw [acall_k (fn := Try.f66) (keep := [0, 1, 4]) (notBad 66 rfl) (by kernel_rfl) (by kernel_rfl)]
  kernel_rfl

noncomputable def F73 (C : Oracle) (n : Nat) (a0 : Value) (H : Heap) : Option (Value × Heap) :=
  bnd (some ((Value.bool false), H)) fun x0 H =>
  bnd (some (a0, H)) fun x1 H =>
  bnd (some (a0, H)) fun x2 H =>
  bnd (pS (abin Try.prog .neq 2 x1 x2) H) fun x3 H =>
  bnd (some (x3, H)) fun x4 H =>
  some (x4, H)

theorem F73_eq (G : Oracle) (n : Nat) (a0 : Value) (H : Heap) : run G (n + 1) 73 [a0] H = F73 (run G n) n a0 H := by
  unfold run; rw [acall_k (fn := Try.f73) (keep := [0, 2]) (notBad 73 rfl) (by kernel_rfl) (by kernel_rfl)]
  kernel_rfl

abbrev F75_st (v0 : Value := undef) (v2 : Value := undef) (v3 : Value := undef) (v9 : Value := undef) : List Value := [v0, v2, v3, v9]

noncomputable def F75_b0 (C : Oracle) (n : Nat) (vs : List Value) (H : Heap) : AOut :=
  bnd (some ((sl [0, 2, 3, 9] vs 2), H)) fun x5 H =>
  bnd (some ((sl [0, 2, 3, 9] vs 3), H)) fun x6 H =>
  bnd (pS (abin Try.prog .lss 3 x5 x6) H) fun x7 H =>
  brB x7 (bnd (some ((sl [0, 2, 3, 9] vs 0), H)) fun x8 H =>
  bnd (some ((sl [0, 2, 3, 9] vs 2), H)) fun x9 H =>
  bnd (some ((sl [0, 2, 3, 9] vs 0), H)) fun x10 H =>
  bnd (some ((sl [0, 2, 3, 9] vs 3), H)) fun x11 H =>
  bnd (some ((sl [0, 2, 3, 9] vs 0), H)) fun x12 H =>
  bnd (some ((sl [0, 2, 3, 9] vs 3), H)) fun x13 H =>
  bnd (iadS 1 x12 x13 H) fun x14 H =>
  bnd (pS (ld1 x14 H) H) fun x15 H =>
  bnd (some ((sl [0, 2, 3, 9] vs 0), H)) fun x16 H =>
  bnd (some ((sl [0, 2, 3, 9] vs 2), H)) fun x17 H =>
  bnd (iadS 1 x16 x17 H) fun x18 H =>
  bnd (pS (ld1 x18 H) H) fun x19 H =>
  bnd (iadS 1 x8 x9 H) fun x20 H =>
  bnd (stS 1 x20 x15 H) fun x21 H =>
  bnd (iadS 1 x10 x11 H) fun x22 H =>
  bnd (stS 1 x22 x19 H) fun x23 H =>
  bnd (some ((sl [0, 2, 3, 9] vs 2), H)) fun x24 H =>
  bnd (pS (abin Try.prog .add 3 x24 (Value.int .i64 (1))) H) fun x25 H =>
  bnd (some ((sl [0, 2, 3, 9] vs 3), H)) fun x26 H =>
  bnd (pS (abin Try.prog .sub 3 x26 (Value.int .i64 (1))) H) fun x27 H =>
  bnd (some (x25, H)) fun x28 H =>
  bnd (some (x27, H)) fun x29 H =>
  fin .normal [(sl [0, 2, 3, 9] vs 0), x28, x29, x7] H) (
  fin (.exit 0) [(sl [0, 2, 3, 9] vs 0), (sl [0, 2, 3, 9] vs 2), (sl [0, 2, 3, 9] vs 3), x7] H)

noncomputable def F75_b0v (C : Oracle) (n : Nat) (v0 v2 v3 v9 : Value) (H : Heap) : AOut :=
  bnd (some (v2, H)) fun x5 H =>
  bnd (some (v3, H)) fun x6 H =>
  bnd (pS (abin Try.prog .lss 3 x5 x6) H) fun x7 H =>
  brB x7 (bnd (some (v0, H)) fun x8 H =>
  bnd (some (v2, H)) fun x9 H =>
  bnd (some (v0, H)) fun x10 H =>
  bnd (some (v3, H)) fun x11 H =>
  bnd (some (v0, H)) fun x12 H =>
  bnd (some (v3, H)) fun x13 H =>
  bnd (iadS 1 x12 x13 H) fun x14 H =>
  bnd (pS (ld1 x14 H) H) fun x15 H =>
  bnd (some (v0, H)) fun x16 H =>
  bnd (some (v2, H)) fun x17 H =>
  bnd (iadS 1 x16 x17 H) fun x18 H =>
  bnd (pS (ld1 x18 H) H) fun x19 H =>
  bnd (iadS 1 x8 x9 H) fun x20 H =>
  bnd (stS 1 x20 x15 H) fun x21 H =>
  bnd (iadS 1 x10 x11 H) fun x22 H =>
  bnd (stS 1 x22 x19 H) fun x23 H =>
  bnd (some (v2, H)) fun x24 H =>
  bnd (pS (abin Try.prog .add 3 x24 (Value.int .i64 (1))) H) fun x25 H =>
  bnd (some (v3, H)) fun x26 H =>
  bnd (pS (abin Try.prog .sub 3 x26 (Value.int .i64 (1))) H) fun x27 H =>
  bnd (some (x25, H)) fun x28 H =>
  bnd (some (x27, H)) fun x29 H =>
  fin .normal [v0, x28, x29, x7] H) (
  fin (.exit 0) [v0, v2, v3, x7] H)

theorem F75_b0_v (C : Oracle) (n : Nat) (v0 v2 v3 v9 : Value) (H : Heap) : F75_b0 C n [v0, v2, v3, v9] H = F75_b0v C n v0 v2 v3 v9 H := by
  kernel_rfl

noncomputable def F75 (C : Oracle) (n : Nat) (a0 : Value) (H : Heap) : Option (Value × Heap) :=
  bnd (some (a0, H)) fun x0 H =>
  bnd (pS (slen x0) H) fun x1 H =>
  bnd (pS (abin Try.prog .sub 3 x1 (Value.int .i64 (1))) H) fun x2 H =>
  bnd (some ((Value.int .i64 (0)), H)) fun x3 H =>
  bnd (some (x2, H)) fun x4 H =>
  onOut (iter n (F75_b0 C n) [a0, x3, x4, undef] H) (kBlk 0 (kRet Try.prog [] [0, 2, 3, 9]))

theorem F75_eq (G : Oracle) (n : Nat) (a0 : Value) (H : Heap) : run G (n + 1) 75 [a0] H = F75 (run G n) n a0 H := by
  unfold run; rw [acall_k (fn := Try.f75) (keep := [0, 2, 3, 9]) (notBad 75 rfl) (by kernel_rfl) (by kernel_rfl)]
  kernel_rfl


end Go.Proofs.Ytgakioiplkehgaa.Fun
