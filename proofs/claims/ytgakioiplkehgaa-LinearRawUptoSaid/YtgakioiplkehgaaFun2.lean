/- The program's functions as plain terms, each with its equation; printed by wip/am/fun.py. -/
import Derived.Test.YtgakioiplkehgaaFunK
namespace Go.Proofs.Ytgakioiplkehgaa.Fun
open Go.RowKit Go.Proofs.YtgakioiplkehgaaA.Am
set_option linter.unusedVariables false
set_option maxRecDepth 10000
abbrev F10_st (v0 : Value := undef) (v2 : Value := undef) (v4 : Value := undef) (v10 : Value := undef) (v3 : Value := undef) (v19 : Value := undef) : List Value := [v0, v2, v4, v10, v3, v19]

noncomputable def F10_b0 (C : Oracle) (n : Nat) (vs : List Value) (H : Heap) : AOut :=
  bnd (some ((sl [0, 2, 4, 10, 3, 19] vs 4), H)) fun x5 H =>
  bnd (some ((sl [0, 2, 4, 10, 3, 19] vs 0), H)) fun x6 H =>
  bnd (pS (slen x6) H) fun x7 H =>
  bnd (pS (abin Try.prog .lss 3 x5 x7) H) fun x8 H =>
  brB x8 (bnd (some ((sl [0, 2, 4, 10, 3, 19] vs 3), H)) fun x9 H =>
  bnd (some ((sl [0, 2, 4, 10, 3, 19] vs 0), H)) fun x10 H =>
  bnd (some ((sl [0, 2, 4, 10, 3, 19] vs 4), H)) fun x11 H =>
  bnd (iadS 13 x10 x11 H) fun x12 H =>
  bnd (pS (ldn 13 x12 H) H) fun x13 H =>
  bnd (C 21 [x9, x13] H) fun x14 H =>
  bnd (pS (aun .not x14) H) fun x15 H =>
  brB x15 (bnd (some ((sl [0, 2, 4, 10, 3, 19] vs 4), H)) fun x16 H =>
  bnd (some (x16, H)) fun x17 H =>
  fin .ret [(sl [0, 2, 4, 10, 3, 19] vs 0), x17, (sl [0, 2, 4, 10, 3, 19] vs 4), x8, (sl [0, 2, 4, 10, 3, 19] vs 3), x15] H) (
  bnd (some ((sl [0, 2, 4, 10, 3, 19] vs 4), H)) fun x18 H =>
  bnd (pS (abin Try.prog .add 3 x18 (Value.int .i64 (1))) H) fun x19 H =>
  bnd (some (x19, H)) fun x20 H =>
  fin .normal [(sl [0, 2, 4, 10, 3, 19] vs 0), (sl [0, 2, 4, 10, 3, 19] vs 2), x20, x8, (sl [0, 2, 4, 10, 3, 19] vs 3), x15] H)) (
  fin (.exit 0) [(sl [0, 2, 4, 10, 3, 19] vs 0), (sl [0, 2, 4, 10, 3, 19] vs 2), (sl [0, 2, 4, 10, 3, 19] vs 4), x8, (sl [0, 2, 4, 10, 3, 19] vs 3), (sl [0, 2, 4, 10, 3, 19] vs 19)] H)

noncomputable def F10_b0v (C : Oracle) (n : Nat) (v0 v2 v4 v10 v3 v19 : Value) (H : Heap) : AOut :=
  bnd (some (v4, H)) fun x5 H =>
  bnd (some (v0, H)) fun x6 H =>
  bnd (pS (slen x6) H) fun x7 H =>
  bnd (pS (abin Try.prog .lss 3 x5 x7) H) fun x8 H =>
  brB x8 (bnd (some (v3, H)) fun x9 H =>
  bnd (some (v0, H)) fun x10 H =>
  bnd (some (v4, H)) fun x11 H =>
  bnd (iadS 13 x10 x11 H) fun x12 H =>
  bnd (pS (ldn 13 x12 H) H) fun x13 H =>
  bnd (C 21 [x9, x13] H) fun x14 H =>
  bnd (pS (aun .not x14) H) fun x15 H =>
  brB x15 (bnd (some (v4, H)) fun x16 H =>
  bnd (some (x16, H)) fun x17 H =>
  fin .ret [v0, x17, v4, x8, v3, x15] H) (
  bnd (some (v4, H)) fun x18 H =>
  bnd (pS (abin Try.prog .add 3 x18 (Value.int .i64 (1))) H) fun x19 H =>
  bnd (some (x19, H)) fun x20 H =>
  fin .normal [v0, v2, x20, x8, v3, x15] H)) (
  fin (.exit 0) [v0, v2, v4, x8, v3, v19] H)

theorem F10_b0_v (C : Oracle) (n : Nat) (v0 v2 v4 v10 v3 v19 : Value) (H : Heap) : F10_b0 C n [v0, v2, v4, v10, v3, v19] H = F10_b0v C n v0 v2 v4 v10 v3 v19 H := by
  kernel_rfl

noncomputable def F10_j1 (C : Oracle) (n : Nat) (vs : List Value) (H : Heap) : Option (Value × Heap) :=
  bnd (some ((Value.int .i64 (-1)), H)) fun x21 H =>
  some (x21, H)

noncomputable def F10_j1v (C : Oracle) (n : Nat) (v0 v2 v4 v10 v3 v19 : Value) (H : Heap) : Option (Value × Heap) :=
  bnd (some ((Value.int .i64 (-1)), H)) fun x21 H =>
  some (x21, H)

theorem F10_j1_v (C : Oracle) (n : Nat) (v0 v2 v4 v10 v3 v19 : Value) (H : Heap) : F10_j1 C n [v0, v2, v4, v10, v3, v19] H = F10_j1v C n v0 v2 v4 v10 v3 v19 H := by
  kernel_rfl

noncomputable def F10 (C : Oracle) (n : Nat) (a0 : Value) (H : Heap) : Option (Value × Heap) :=
  bnd (some ((Value.int .i64 (0)), H)) fun x0 H =>
  bnd (pS (abuild Try.prog 61 []) H) fun x1 H =>
  bnd (boxS 61 x1 H) fun x2 H =>
  bnd (some (x2, H)) fun x3 H =>
  bnd (some ((Value.int .i64 (0)), H)) fun x4 H =>
  onOut (iter n (F10_b0 C n) [a0, x0, x4, undef, x3, undef] H) (kBlk 0 (kSeq (F10_j1 C n) (kRet Try.prog [.tmp 2] [0, 2, 4, 10, 3, 19])))

theorem F10_eq (G : Oracle) (n : Nat) (a0 : Value) (H : Heap) : run G (n + 1) 10 [a0] H = F10 (run G n) n a0 H := by
  unfold run; rw [acall_k (fn := Try.f10) (keep := [0, 2, 4, 10, 3, 19]) (notBad 10 rfl) (by kernel_rfl) (by kernel_rfl)]
  kernel_rfl

noncomputable def F12 (C : Oracle) (n : Nat) (a0 a1 : Value) (H : Heap) : Option (Value × Heap) :=
  bnd (boxS 29 a0 H) fun x0 H =>
  bnd (boxS 29 a1 H) fun x1 H =>
  bnd (some ((Value.bool false), H)) fun x2 H =>
  bnd (fadS 0 x0 H) fun x3 H =>
  bnd (pS (ld1 x3 H) H) fun x4 H =>
  bnd (fadS 0 x1 H) fun x5 H =>
  bnd (pS (ld1 x5 H) H) fun x6 H =>
  bnd (pS (abin Try.prog .eql 24 x4 x6) H) fun x7 H =>
  bnd (some (x7, H)) fun x8 H =>
  bnd (gd (wantV x8 true) (fadS 1 x0 H) H) fun x9 H =>
  bnd (gd (wantV x8 true) (pS (ld1 x9 H) H) H) fun x10 H =>
  bnd (gd (wantV x8 true) (fadS 1 x1 H) H) fun x11 H =>
  bnd (gd (wantV x8 true) (pS (ld1 x11 H) H) H) fun x12 H =>
  bnd (gd (wantV x8 true) (pS (abin Try.prog .eql 4 x10 x12) H) H) fun x13 H =>
  bnd (pickS x8 x13 (Value.bool false) H) fun x14 H =>
  bnd (some (x14, H)) fun x15 H =>
  bnd (gd (wantV x15 true) (fadS 2 x0 H) H) fun x16 H =>
  bnd (gd (wantV x15 true) (pS (ldn 2 x16 H) H) H) fun x17 H =>
  bnd (gd (wantV x15 true) (fadS 2 x1 H) H) fun x18 H =>
  bnd (gd (wantV x15 true) (pS (ldn 2 x18 H) H) H) fun x19 H =>
  bnd (gd (wantV x15 true) (pS (abin Try.prog .eql 26 x17 x19) H) H) fun x20 H =>
  bnd (pickS x15 x20 (Value.bool false) H) fun x21 H =>
  bnd (some (x21, H)) fun x22 H =>
  bnd (gd (wantV x22 true) (fadS 4 x0 H) H) fun x23 H =>
  bnd (gd (wantV x22 true) (pS (ld1 x23 H) H) H) fun x24 H =>
  bnd (gd (wantV x22 true) (fadS 4 x1 H) H) fun x25 H =>
  bnd (gd (wantV x22 true) (pS (ld1 x25 H) H) H) fun x26 H =>
  bnd (gd (wantV x22 true) (pS (abin Try.prog .eql 3 x24 x26) H) H) fun x27 H =>
  bnd (pickS x22 x27 (Value.bool false) H) fun x28 H =>
  bnd (some (x28, H)) fun x29 H =>
  bnd (gd (wantV x29 true) (fadS 5 x0 H) H) fun x30 H =>
  bnd (gd (wantV x29 true) (pS (ld1 x30 H) H) H) fun x31 H =>
  bnd (gd (wantV x29 true) (fadS 5 x1 H) H) fun x32 H =>
  bnd (gd (wantV x29 true) (pS (ld1 x32 H) H) H) fun x33 H =>
  bnd (gd (wantV x29 true) (C 15 [x31, x33] H) H) fun x34 H =>
  bnd (pickS x29 x34 (Value.bool false) H) fun x35 H =>
  bnd (some (x35, H)) fun x36 H =>
  some (x36, H)

theorem F12_eq (G : Oracle) (n : Nat) (a0 a1 : Value) (H : Heap) : run G (n + 1) 12 [a0, a1] H = F12 (run G n) n a0 a1 H := by
  unfold run; rw [acall_k (fn := Try.f12) (keep := [0, 1, 4, 2, 3]) (notBad 12 rfl) (by kernel_rfl) (by kernel_rfl)]
  kernel_rfl

abbrev F15_st (v0 : Value := undef) (v1 : Value := undef) (v4 : Value := undef) (v10 : Value := undef) (v5 : Value := undef) (v14 : Value := undef) (v25 : Value := undef) : List Value := [v0, v1, v4, v10, v5, v14, v25]

noncomputable def F15_b0 (C : Oracle) (n : Nat) (vs : List Value) (H : Heap) : AOut :=
  bnd (some ((sl [0, 1, 4, 10, 5, 14, 25] vs 5), H)) fun x8 H =>
  bnd (some ((sl [0, 1, 4, 10, 5, 14, 25] vs 0), H)) fun x9 H =>
  bnd (pS (slen x9) H) fun x10 H =>
  bnd (pS (abin Try.prog .lss 3 x8 x10) H) fun x11 H =>
  brB x11 (bnd (some ((sl [0, 1, 4, 10, 5, 14, 25] vs 0), H)) fun x12 H =>
  bnd (some ((sl [0, 1, 4, 10, 5, 14, 25] vs 5), H)) fun x13 H =>
  bnd (iadS 2 x12 x13 H) fun x14 H =>
  bnd (pS (ldn 2 x14 H) H) fun x15 H =>
  bnd (some ((sl [0, 1, 4, 10, 5, 14, 25] vs 1), H)) fun x16 H =>
  bnd (some ((sl [0, 1, 4, 10, 5, 14, 25] vs 5), H)) fun x17 H =>
  bnd (iadS 2 x16 x17 H) fun x18 H =>
  bnd (pS (ldn 2 x18 H) H) fun x19 H =>
  bnd (pS (abin Try.prog .neq 26 x15 x19) H) fun x20 H =>
  brB x20 (bnd (some ((Value.bool false), H)) fun x21 H =>
  fin .ret [(sl [0, 1, 4, 10, 5, 14, 25] vs 0), (sl [0, 1, 4, 10, 5, 14, 25] vs 1), x21, (sl [0, 1, 4, 10, 5, 14, 25] vs 10), (sl [0, 1, 4, 10, 5, 14, 25] vs 5), x11, x20] H) (
  bnd (some ((sl [0, 1, 4, 10, 5, 14, 25] vs 5), H)) fun x22 H =>
  bnd (pS (abin Try.prog .add 3 x22 (Value.int .i64 (1))) H) fun x23 H =>
  bnd (some (x23, H)) fun x24 H =>
  fin .normal [(sl [0, 1, 4, 10, 5, 14, 25] vs 0), (sl [0, 1, 4, 10, 5, 14, 25] vs 1), (sl [0, 1, 4, 10, 5, 14, 25] vs 4), (sl [0, 1, 4, 10, 5, 14, 25] vs 10), x24, x11, x20] H)) (
  fin (.exit 0) [(sl [0, 1, 4, 10, 5, 14, 25] vs 0), (sl [0, 1, 4, 10, 5, 14, 25] vs 1), (sl [0, 1, 4, 10, 5, 14, 25] vs 4), (sl [0, 1, 4, 10, 5, 14, 25] vs 10), (sl [0, 1, 4, 10, 5, 14, 25] vs 5), x11, (sl [0, 1, 4, 10, 5, 14, 25] vs 25)] H)

noncomputable def F15_b0v (C : Oracle) (n : Nat) (v0 v1 v4 v10 v5 v14 v25 : Value) (H : Heap) : AOut :=
  bnd (some (v5, H)) fun x8 H =>
  bnd (some (v0, H)) fun x9 H =>
  bnd (pS (slen x9) H) fun x10 H =>
  bnd (pS (abin Try.prog .lss 3 x8 x10) H) fun x11 H =>
  brB x11 (bnd (some (v0, H)) fun x12 H =>
  bnd (some (v5, H)) fun x13 H =>
  bnd (iadS 2 x12 x13 H) fun x14 H =>
  bnd (pS (ldn 2 x14 H) H) fun x15 H =>
  bnd (some (v1, H)) fun x16 H =>
  bnd (some (v5, H)) fun x17 H =>
  bnd (iadS 2 x16 x17 H) fun x18 H =>
  bnd (pS (ldn 2 x18 H) H) fun x19 H =>
  bnd (pS (abin Try.prog .neq 26 x15 x19) H) fun x20 H =>
  brB x20 (bnd (some ((Value.bool false), H)) fun x21 H =>
  fin .ret [v0, v1, x21, v10, v5, x11, x20] H) (
  bnd (some (v5, H)) fun x22 H =>
  bnd (pS (abin Try.prog .add 3 x22 (Value.int .i64 (1))) H) fun x23 H =>
  bnd (some (x23, H)) fun x24 H =>
  fin .normal [v0, v1, v4, v10, x24, x11, x20] H)) (
  fin (.exit 0) [v0, v1, v4, v10, v5, x11, v25] H)

theorem F15_b0_v (C : Oracle) (n : Nat) (v0 v1 v4 v10 v5 v14 v25 : Value) (H : Heap) : F15_b0 C n [v0, v1, v4, v10, v5, v14, v25] H = F15_b0v C n v0 v1 v4 v10 v5 v14 v25 H := by
  kernel_rfl

noncomputable def F15_j1 (C : Oracle) (n : Nat) (vs : List Value) (H : Heap) : Option (Value × Heap) :=
  bnd (some ((Value.bool true), H)) fun x25 H =>
  some (x25, H)

noncomputable def F15_j1v (C : Oracle) (n : Nat) (v0 v1 v4 v10 v5 v14 v25 : Value) (H : Heap) : Option (Value × Heap) :=
  bnd (some ((Value.bool true), H)) fun x25 H =>
  some (x25, H)

theorem F15_j1_v (C : Oracle) (n : Nat) (v0 v1 v4 v10 v5 v14 v25 : Value) (H : Heap) : F15_j1 C n [v0, v1, v4, v10, v5, v14, v25] H = F15_j1v C n v0 v1 v4 v10 v5 v14 v25 H := by
  kernel_rfl

noncomputable def F15 (C : Oracle) (n : Nat) (a0 a1 : Value) (H : Heap) : Option (Value × Heap) :=
  bnd (some ((Value.bool false), H)) fun x0 H =>
  bnd (some (a0, H)) fun x1 H =>
  bnd (pS (slen x1) H) fun x2 H =>
  bnd (some (a1, H)) fun x3 H =>
  bnd (pS (slen x3) H) fun x4 H =>
  bnd (pS (abin Try.prog .neq 3 x2 x4) H) fun x5 H =>
  brB x5 (bnd (some ((Value.bool false), H)) fun x6 H =>
  some (x6, H)) (
  bnd (some ((Value.int .i64 (0)), H)) fun x7 H =>
  onOut (iter n (F15_b0 C n) [a0, a1, x0, x5, x7, undef, undef] H) (kBlk 0 (kSeq (F15_j1 C n) (kRet Try.prog [.tmp 4] [0, 1, 4, 10, 5, 14, 25]))))

theorem F15_eq (G : Oracle) (n : Nat) (a0 a1 : Value) (H : Heap) : run G (n + 1) 15 [a0, a1] H = F15 (run G n) n a0 a1 H := by
  unfold run; rw [acall_k (fn := Try.f15) (keep := [0, 1, 4, 10, 5, 14, 25]) (notBad 15 rfl) (by kernel_rfl) (by kernel_rfl)]
  kernel_rfl

noncomputable def F20 (C : Oracle) (n : Nat) (a0 a1 : Value) (H : Heap) : Option (Value × Heap) :=
  bnd (boxS 31 a1 H) fun x0 H =>
  bnd (some ((Value.bool false), H)) fun x1 H =>
  bnd (fadS 0 x0 H) fun x2 H =>
  bnd (pS (ld1 x2 H) H) fun x3 H =>
  bnd (pS (abin Try.prog .eql 3 x3 (Value.int .i64 (4))) H) fun x4 H =>
  bnd (some (x4, H)) fun x5 H =>
  brB x5 (bnd (some (a0, H)) fun x6 H =>
  bnd (pS (ldn 13 x0 H) H) fun x7 H =>
  bnd (C 34 [x6, x7] H) fun x8 H =>
  bnd (some (x8, H)) fun x9 H =>
  some (x9, H)) (
  bnd (pS (abin Try.prog .eql 3 x3 (Value.int .i64 (1))) H) fun x10 H =>
  bnd (some (x10, H)) fun x11 H =>
  brB x11 (bnd (some (a0, H)) fun x12 H =>
  bnd (pS (ldn 13 x0 H) H) fun x13 H =>
  bnd (C 35 [x12, x13] H) fun x14 H =>
  bnd (some (x14, H)) fun x15 H =>
  some (x15, H)) (
  bnd (pS (abin Try.prog .eql 3 x3 (Value.int .i64 (2))) H) fun x16 H =>
  bnd (some (x16, H)) fun x17 H =>
  brB x17 (bnd (some (a0, H)) fun x18 H =>
  bnd (pS (ldn 13 x0 H) H) fun x19 H =>
  bnd (C 36 [x18, x19] H) fun x20 H =>
  bnd (some (x20, H)) fun x21 H =>
  some (x21, H)) (
  bnd (pS (abin Try.prog .eql 3 x3 (Value.int .i64 (3))) H) fun x22 H =>
  bnd (some (x22, H)) fun x23 H =>
  brB x23 (bnd (some (a0, H)) fun x24 H =>
  bnd (pS (ldn 13 x0 H) H) fun x25 H =>
  bnd (C 37 [x24, x25] H) fun x26 H =>
  bnd (some (x26, H)) fun x27 H =>
  some (x27, H)) (
  bnd (some ((Value.bool false), H)) fun x28 H =>
  some (x28, H)))))

theorem F20_eq (G : Oracle) (n : Nat) (a0 a1 : Value) (H : Heap) : run G (n + 1) 20 [a0, a1] H = F20 (run G n) n a0 a1 H := by
  unfold run; rw [acall_k (fn := Try.f20) (keep := [0, 1, 4, 3, 6, 7, 12, 17, 22]) (notBad 20 rfl) (by kernel_rfl) (by kernel_rfl)]
  kernel_rfl

abbrev F24_st (v0 : Value := undef) (v1 : Value := undef) (v4 : Value := undef) (v3 : Value := undef) (v8 : Value := undef) (v9 : Value := undef) (v5 : Value := undef) (v6 : Value := undef) (v26 : Value := undef) (v36 : Value := undef) (v46 : Value := undef) (v54 : Value := undef) (v62 : Value := undef) (v71 : Value := undef) : List Value := [v0, v1, v4, v3, v8, v9, v5, v6, v26, v36, v46, v54, v62, v71]

noncomputable def F24_j0 (C : Oracle) (n : Nat) (vs : List Value) (H : Heap) : Option (Value × Heap) :=
  bnd (pS (abuild Try.prog 29 [(0, (Value.int .i64 (5)))]) H) fun x2 H =>
  bnd (stS 6 (sl [0, 1, 4, 3, 8, 9, 5, 6, 26, 36, 46, 54, 62, 71] vs 4) x2 H) fun x3 H =>
  bnd (pS (ldn 6 (sl [0, 1, 4, 3, 8, 9, 5, 6, 26, 36, 46, 54, 62, 71] vs 4) H) H) fun r0 _ =>
  some (r0, H)

noncomputable def F24_j0v (C : Oracle) (n : Nat) (v0 v1 v4 v3 v8 v9 v5 v6 v26 v36 v46 v54 v62 v71 : Value) (H : Heap) : Option (Value × Heap) :=
  bnd (pS (abuild Try.prog 29 [(0, (Value.int .i64 (5)))]) H) fun x2 H =>
  bnd (stS 6 v4 x2 H) fun x3 H =>
  bnd (pS (ldn 6 v4 H) H) fun r0 _ =>
  some (r0, H)

theorem F24_j0_v (C : Oracle) (n : Nat) (v0 v1 v4 v3 v8 v9 v5 v6 v26 v36 v46 v54 v62 v71 : Value) (H : Heap) : F24_j0 C n [v0, v1, v4, v3, v8, v9, v5, v6, v26, v36, v46, v54, v62, v71] H = F24_j0v C n v0 v1 v4 v3 v8 v9 v5 v6 v26 v36 v46 v54 v62 v71 H := by
  kernel_rfl

noncomputable def F24_j1 (C : Oracle) (n : Nat) (vs : List Value) (H : Heap) : Option (Value × Heap) :=
  brB (sl [0, 1, 4, 3, 8, 9, 5, 6, 26, 36, 46, 54, 62, 71] vs 9) (bnd (some ((sl [0, 1, 4, 3, 8, 9, 5, 6, 26, 36, 46, 54, 62, 71] vs 0), H)) fun x6 H =>
  bnd (fadS 1 (sl [0, 1, 4, 3, 8, 9, 5, 6, 26, 36, 46, 54, 62, 71] vs 3) H) fun x7 H =>
  bnd (pS (ld1 x7 H) H) fun x8 H =>
  bnd (C 43 [x6, x8] H) fun x9 H =>
  bnd (some (x9, H)) fun x10 H =>
  bnd (extS 0 x10 H) fun x11 H =>
  bnd (extS 1 x10 H) fun x12 H =>
  bnd (some (x11, H)) fun x13 H =>
  bnd (some (x12, H)) fun x14 H =>
  bnd (fadS 1 (sl [0, 1, 4, 3, 8, 9, 5, 6, 26, 36, 46, 54, 62, 71] vs 3) H) fun x15 H =>
  bnd (pS (ld1 x15 H) H) fun x16 H =>
  bnd (some (x13, H)) fun x17 H =>
  bnd (some (x14, H)) fun x18 H =>
  bnd (C 44 [x16, x17, x18] H) fun x19 H =>
  bnd (stS 6 (sl [0, 1, 4, 3, 8, 9, 5, 6, 26, 36, 46, 54, 62, 71] vs 4) x19 H) fun x20 H =>
  bnd (pS (ldn 6 (sl [0, 1, 4, 3, 8, 9, 5, 6, 26, 36, 46, 54, 62, 71] vs 4) H) H) fun r0 _ =>
  some (r0, H)) (
  bnd (pS (abin Try.prog .eql 3 (sl [0, 1, 4, 3, 8, 9, 5, 6, 26, 36, 46, 54, 62, 71] vs 8) (Value.int .i64 (5))) H) fun x21 H =>
  bnd (some (x21, H)) fun x22 H =>
  brB x22 (bnd (some ((sl [0, 1, 4, 3, 8, 9, 5, 6, 26, 36, 46, 54, 62, 71] vs 0), H)) fun x23 H =>
  bnd (fadS 1 (sl [0, 1, 4, 3, 8, 9, 5, 6, 26, 36, 46, 54, 62, 71] vs 3) H) fun x24 H =>
  bnd (pS (ld1 x24 H) H) fun x25 H =>
  bnd (C 45 [x23, x25] H) fun x26 H =>
  bnd (extS 0 x26 H) fun x27 H =>
  bnd (extS 1 x26 H) fun x28 H =>
  bnd (extS 2 x26 H) fun x29 H =>
  bnd (C 44 [x27, x28, x29] H) fun x30 H =>
  bnd (stS 6 (sl [0, 1, 4, 3, 8, 9, 5, 6, 26, 36, 46, 54, 62, 71] vs 4) x30 H) fun x31 H =>
  bnd (pS (ldn 6 (sl [0, 1, 4, 3, 8, 9, 5, 6, 26, 36, 46, 54, 62, 71] vs 4) H) H) fun r0 _ =>
  some (r0, H)) (
  bnd (pS (abin Try.prog .eql 3 (sl [0, 1, 4, 3, 8, 9, 5, 6, 26, 36, 46, 54, 62, 71] vs 8) (Value.int .i64 (6))) H) fun x32 H =>
  bnd (some (x32, H)) fun x33 H =>
  brB x33 (bnd (some ((sl [0, 1, 4, 3, 8, 9, 5, 6, 26, 36, 46, 54, 62, 71] vs 0), H)) fun x34 H =>
  bnd (fadS 1 (sl [0, 1, 4, 3, 8, 9, 5, 6, 26, 36, 46, 54, 62, 71] vs 3) H) fun x35 H =>
  bnd (pS (ld1 x35 H) H) fun x36 H =>
  bnd (C 46 [x34, x36] H) fun x37 H =>
  bnd (extS 0 x37 H) fun x38 H =>
  bnd (extS 1 x37 H) fun x39 H =>
  bnd (extS 2 x37 H) fun x40 H =>
  bnd (C 44 [x38, x39, x40] H) fun x41 H =>
  bnd (stS 6 (sl [0, 1, 4, 3, 8, 9, 5, 6, 26, 36, 46, 54, 62, 71] vs 4) x41 H) fun x42 H =>
  bnd (pS (ldn 6 (sl [0, 1, 4, 3, 8, 9, 5, 6, 26, 36, 46, 54, 62, 71] vs 4) H) H) fun r0 _ =>
  some (r0, H)) (
  bnd (pS (abin Try.prog .eql 3 (sl [0, 1, 4, 3, 8, 9, 5, 6, 26, 36, 46, 54, 62, 71] vs 8) (Value.int .i64 (7))) H) fun x43 H =>
  bnd (some (x43, H)) fun x44 H =>
  brB x44 (bnd (some ((sl [0, 1, 4, 3, 8, 9, 5, 6, 26, 36, 46, 54, 62, 71] vs 0), H)) fun x45 H =>
  bnd (C 46 [x45, (Value.int .i64 (-9223372036854775808))] H) fun x46 H =>
  bnd (extS 0 x46 H) fun x47 H =>
  bnd (extS 1 x46 H) fun x48 H =>
  bnd (extS 2 x46 H) fun x49 H =>
  bnd (C 44 [x47, x48, x49] H) fun x50 H =>
  bnd (stS 6 (sl [0, 1, 4, 3, 8, 9, 5, 6, 26, 36, 46, 54, 62, 71] vs 4) x50 H) fun x51 H =>
  bnd (pS (ldn 6 (sl [0, 1, 4, 3, 8, 9, 5, 6, 26, 36, 46, 54, 62, 71] vs 4) H) H) fun r0 _ =>
  some (r0, H)) (
  bnd (pS (abin Try.prog .eql 3 (sl [0, 1, 4, 3, 8, 9, 5, 6, 26, 36, 46, 54, 62, 71] vs 8) (Value.int .i64 (8))) H) fun x52 H =>
  bnd (some (x52, H)) fun x53 H =>
  brB x53 (bnd (some ((sl [0, 1, 4, 3, 8, 9, 5, 6, 26, 36, 46, 54, 62, 71] vs 0), H)) fun x54 H =>
  bnd (C 45 [x54, (Value.int .i64 (9223372036854775807))] H) fun x55 H =>
  bnd (extS 0 x55 H) fun x56 H =>
  bnd (extS 1 x55 H) fun x57 H =>
  bnd (extS 2 x55 H) fun x58 H =>
  bnd (C 44 [x56, x57, x58] H) fun x59 H =>
  bnd (stS 6 (sl [0, 1, 4, 3, 8, 9, 5, 6, 26, 36, 46, 54, 62, 71] vs 4) x59 H) fun x60 H =>
  bnd (pS (ldn 6 (sl [0, 1, 4, 3, 8, 9, 5, 6, 26, 36, 46, 54, 62, 71] vs 4) H) H) fun r0 _ =>
  some (r0, H)) (
  bnd (pS (abin Try.prog .eql 3 (sl [0, 1, 4, 3, 8, 9, 5, 6, 26, 36, 46, 54, 62, 71] vs 8) (Value.int .i64 (9))) H) fun x61 H =>
  bnd (some (x61, H)) fun x62 H =>
  brB x62 (bnd (some ((sl [0, 1, 4, 3, 8, 9, 5, 6, 26, 36, 46, 54, 62, 71] vs 0), H)) fun x63 H =>
  bnd (fadS 1 (sl [0, 1, 4, 3, 8, 9, 5, 6, 26, 36, 46, 54, 62, 71] vs 3) H) fun x64 H =>
  bnd (pS (ld1 x64 H) H) fun x65 H =>
  bnd (fadS 2 (sl [0, 1, 4, 3, 8, 9, 5, 6, 26, 36, 46, 54, 62, 71] vs 3) H) fun x66 H =>
  bnd (pS (ld1 x66 H) H) fun x67 H =>
  bnd (C 31 [x63, x65, x67] H) fun x68 H =>
  bnd (pS (abuild Try.prog 29 [(4, x68)]) H) fun x69 H =>
  bnd (stS 6 (sl [0, 1, 4, 3, 8, 9, 5, 6, 26, 36, 46, 54, 62, 71] vs 4) x69 H) fun x70 H =>
  bnd (pS (ldn 6 (sl [0, 1, 4, 3, 8, 9, 5, 6, 26, 36, 46, 54, 62, 71] vs 4) H) H) fun r0 _ =>
  some (r0, H)) (
  bnd (pS (abin Try.prog .eql 3 (sl [0, 1, 4, 3, 8, 9, 5, 6, 26, 36, 46, 54, 62, 71] vs 8) (Value.int .i64 (10))) H) fun x71 H =>
  bnd (some (x71, H)) fun x72 H =>
  brB x72 (bnd (some ((sl [0, 1, 4, 3, 8, 9, 5, 6, 26, 36, 46, 54, 62, 71] vs 0), H)) fun x73 H =>
  bnd (fadS 1 (sl [0, 1, 4, 3, 8, 9, 5, 6, 26, 36, 46, 54, 62, 71] vs 3) H) fun x74 H =>
  bnd (pS (ld1 x74 H) H) fun x75 H =>
  bnd (fadS 2 (sl [0, 1, 4, 3, 8, 9, 5, 6, 26, 36, 46, 54, 62, 71] vs 3) H) fun x76 H =>
  bnd (pS (ld1 x76 H) H) fun x77 H =>
  bnd (C 31 [x73, x75, x77] H) fun x78 H =>
  bnd (pS (slen x78) H) fun x79 H =>
  bnd (pS (abuild Try.prog 29 [(3, x79)]) H) fun x80 H =>
  bnd (stS 6 (sl [0, 1, 4, 3, 8, 9, 5, 6, 26, 36, 46, 54, 62, 71] vs 4) x80 H) fun x81 H =>
  bnd (pS (ldn 6 (sl [0, 1, 4, 3, 8, 9, 5, 6, 26, 36, 46, 54, 62, 71] vs 4) H) H) fun r0 _ =>
  some (r0, H)) (
  F24_j0 C n [(sl [0, 1, 4, 3, 8, 9, 5, 6, 26, 36, 46, 54, 62, 71] vs 0), (sl [0, 1, 4, 3, 8, 9, 5, 6, 26, 36, 46, 54, 62, 71] vs 1), (sl [0, 1, 4, 3, 8, 9, 5, 6, 26, 36, 46, 54, 62, 71] vs 4), (sl [0, 1, 4, 3, 8, 9, 5, 6, 26, 36, 46, 54, 62, 71] vs 3), (sl [0, 1, 4, 3, 8, 9, 5, 6, 26, 36, 46, 54, 62, 71] vs 8), (sl [0, 1, 4, 3, 8, 9, 5, 6, 26, 36, 46, 54, 62, 71] vs 9), (sl [0, 1, 4, 3, 8, 9, 5, 6, 26, 36, 46, 54, 62, 71] vs 5), (sl [0, 1, 4, 3, 8, 9, 5, 6, 26, 36, 46, 54, 62, 71] vs 6), x22, x33, x44, x53, x62, x72] H)))))))

noncomputable def F24_j1v (C : Oracle) (n : Nat) (v0 v1 v4 v3 v8 v9 v5 v6 v26 v36 v46 v54 v62 v71 : Value) (H : Heap) : Option (Value × Heap) :=
  brB v9 (bnd (some (v0, H)) fun x6 H =>
  bnd (fadS 1 v3 H) fun x7 H =>
  bnd (pS (ld1 x7 H) H) fun x8 H =>
  bnd (C 43 [x6, x8] H) fun x9 H =>
  bnd (some (x9, H)) fun x10 H =>
  bnd (extS 0 x10 H) fun x11 H =>
  bnd (extS 1 x10 H) fun x12 H =>
  bnd (some (x11, H)) fun x13 H =>
  bnd (some (x12, H)) fun x14 H =>
  bnd (fadS 1 v3 H) fun x15 H =>
  bnd (pS (ld1 x15 H) H) fun x16 H =>
  bnd (some (x13, H)) fun x17 H =>
  bnd (some (x14, H)) fun x18 H =>
  bnd (C 44 [x16, x17, x18] H) fun x19 H =>
  bnd (stS 6 v4 x19 H) fun x20 H =>
  bnd (pS (ldn 6 v4 H) H) fun r0 _ =>
  some (r0, H)) (
  bnd (pS (abin Try.prog .eql 3 v8 (Value.int .i64 (5))) H) fun x21 H =>
  bnd (some (x21, H)) fun x22 H =>
  brB x22 (bnd (some (v0, H)) fun x23 H =>
  bnd (fadS 1 v3 H) fun x24 H =>
  bnd (pS (ld1 x24 H) H) fun x25 H =>
  bnd (C 45 [x23, x25] H) fun x26 H =>
  bnd (extS 0 x26 H) fun x27 H =>
  bnd (extS 1 x26 H) fun x28 H =>
  bnd (extS 2 x26 H) fun x29 H =>
  bnd (C 44 [x27, x28, x29] H) fun x30 H =>
  bnd (stS 6 v4 x30 H) fun x31 H =>
  bnd (pS (ldn 6 v4 H) H) fun r0 _ =>
  some (r0, H)) (
  bnd (pS (abin Try.prog .eql 3 v8 (Value.int .i64 (6))) H) fun x32 H =>
  bnd (some (x32, H)) fun x33 H =>
  brB x33 (bnd (some (v0, H)) fun x34 H =>
  bnd (fadS 1 v3 H) fun x35 H =>
  bnd (pS (ld1 x35 H) H) fun x36 H =>
  bnd (C 46 [x34, x36] H) fun x37 H =>
  bnd (extS 0 x37 H) fun x38 H =>
  bnd (extS 1 x37 H) fun x39 H =>
  bnd (extS 2 x37 H) fun x40 H =>
  bnd (C 44 [x38, x39, x40] H) fun x41 H =>
  bnd (stS 6 v4 x41 H) fun x42 H =>
  bnd (pS (ldn 6 v4 H) H) fun r0 _ =>
  some (r0, H)) (
  bnd (pS (abin Try.prog .eql 3 v8 (Value.int .i64 (7))) H) fun x43 H =>
  bnd (some (x43, H)) fun x44 H =>
  brB x44 (bnd (some (v0, H)) fun x45 H =>
  bnd (C 46 [x45, (Value.int .i64 (-9223372036854775808))] H) fun x46 H =>
  bnd (extS 0 x46 H) fun x47 H =>
  bnd (extS 1 x46 H) fun x48 H =>
  bnd (extS 2 x46 H) fun x49 H =>
  bnd (C 44 [x47, x48, x49] H) fun x50 H =>
  bnd (stS 6 v4 x50 H) fun x51 H =>
  bnd (pS (ldn 6 v4 H) H) fun r0 _ =>
  some (r0, H)) (
  bnd (pS (abin Try.prog .eql 3 v8 (Value.int .i64 (8))) H) fun x52 H =>
  bnd (some (x52, H)) fun x53 H =>
  brB x53 (bnd (some (v0, H)) fun x54 H =>
  bnd (C 45 [x54, (Value.int .i64 (9223372036854775807))] H) fun x55 H =>
  bnd (extS 0 x55 H) fun x56 H =>
  bnd (extS 1 x55 H) fun x57 H =>
  bnd (extS 2 x55 H) fun x58 H =>
  bnd (C 44 [x56, x57, x58] H) fun x59 H =>
  bnd (stS 6 v4 x59 H) fun x60 H =>
  bnd (pS (ldn 6 v4 H) H) fun r0 _ =>
  some (r0, H)) (
  bnd (pS (abin Try.prog .eql 3 v8 (Value.int .i64 (9))) H) fun x61 H =>
  bnd (some (x61, H)) fun x62 H =>
  brB x62 (bnd (some (v0, H)) fun x63 H =>
  bnd (fadS 1 v3 H) fun x64 H =>
  bnd (pS (ld1 x64 H) H) fun x65 H =>
  bnd (fadS 2 v3 H) fun x66 H =>
  bnd (pS (ld1 x66 H) H) fun x67 H =>
  bnd (C 31 [x63, x65, x67] H) fun x68 H =>
  bnd (pS (abuild Try.prog 29 [(4, x68)]) H) fun x69 H =>
  bnd (stS 6 v4 x69 H) fun x70 H =>
  bnd (pS (ldn 6 v4 H) H) fun r0 _ =>
  some (r0, H)) (
  bnd (pS (abin Try.prog .eql 3 v8 (Value.int .i64 (10))) H) fun x71 H =>
  bnd (some (x71, H)) fun x72 H =>
  brB x72 (bnd (some (v0, H)) fun x73 H =>
  bnd (fadS 1 v3 H) fun x74 H =>
  bnd (pS (ld1 x74 H) H) fun x75 H =>
  bnd (fadS 2 v3 H) fun x76 H =>
  bnd (pS (ld1 x76 H) H) fun x77 H =>
  bnd (C 31 [x73, x75, x77] H) fun x78 H =>
  bnd (pS (slen x78) H) fun x79 H =>
  bnd (pS (abuild Try.prog 29 [(3, x79)]) H) fun x80 H =>
  bnd (stS 6 v4 x80 H) fun x81 H =>
  bnd (pS (ldn 6 v4 H) H) fun r0 _ =>
  some (r0, H)) (
  F24_j0 C n [v0, v1, v4, v3, v8, v9, v5, v6, x22, x33, x44, x53, x62, x72] H)))))))

theorem F24_j1_v (C : Oracle) (n : Nat) (v0 v1 v4 v3 v8 v9 v5 v6 v26 v36 v46 v54 v62 v71 : Value) (H : Heap) : F24_j1 C n [v0, v1, v4, v3, v8, v9, v5, v6, v26, v36, v46, v54, v62, v71] H = F24_j1v C n v0 v1 v4 v3 v8 v9 v5 v6 v26 v36 v46 v54 v62 v71 H := by
  kernel_rfl

noncomputable def F24 (C : Oracle) (n : Nat) (a0 a1 : Value) (H : Heap) : Option (Value × Heap) :=
  bnd (boxS 23 a1 H) fun x0 H =>
  bnd (some (newBlk H 29 1 [(Value.int .i64 (0)), (Value.bool false), (Value.int .i64 (0)), (Value.int .i64 (0)), (Value.int .i64 (0)), (Value.slice none 0 0)])) fun x1 H =>
  bnd (fadS 0 x0 H) fun x4 H =>
  bnd (pS (ld1 x4 H) H) fun x5 H =>
  bnd (pS (abin Try.prog .eql 3 x5 (Value.int .i64 (1))) H) fun x82 H =>
  bnd (some (x82, H)) fun x83 H =>
  brB x83 (F24_j1 C n [a0, a1, x1, x0, x5, x83, undef, undef, undef, undef, undef, undef, undef, undef] H) (
  bnd (pS (abin Try.prog .eql 3 x5 (Value.int .i64 (2))) H) fun x84 H =>
  bnd (some (x84, H)) fun x85 H =>
  brB x85 (F24_j1 C n [a0, a1, x1, x0, x5, x85, undef, undef, undef, undef, undef, undef, undef, undef] H) (
  bnd (pS (abin Try.prog .eql 3 x5 (Value.int .i64 (3))) H) fun x86 H =>
  bnd (some (x86, H)) fun x87 H =>
  brB x87 (F24_j1 C n [a0, a1, x1, x0, x5, x87, undef, undef, undef, undef, undef, undef, undef, undef] H) (
  bnd (pS (abin Try.prog .eql 3 x5 (Value.int .i64 (4))) H) fun x88 H =>
  bnd (some (x88, H)) fun x89 H =>
  F24_j1 C n [a0, a1, x1, x0, x5, x89, undef, undef, undef, undef, undef, undef, undef, undef] H)))

theorem F24_eq (G : Oracle) (n : Nat) (a0 a1 : Value) (H : Heap) : run G (n + 1) 24 [a0, a1] H = F24 (run G n) n a0 a1 H := by
  unfold run; rw [acall_k (fn := Try.f24) (keep := [0, 1, 4, 3, 8, 9, 5, 6, 26, 36, 46, 54, 62, 71]) (notBad 24 rfl) (by kernel_rfl) (by kernel_rfl)]
  kernel_rfl

noncomputable def F27 (C : Oracle) (n : Nat) (a0 a1 : Value) (H : Heap) : Option (Value × Heap) :=
  bnd (boxS 26 a0 H) fun x0 H =>
  bnd (some (newBlk H 29 1 [(Value.int .i64 (0)), (Value.bool false), (Value.int .i64 (0)), (Value.int .i64 (0)), (Value.int .i64 (0)), (Value.slice none 0 0)])) fun x1 H =>
  bnd (some (a1, H)) fun x2 H =>
  bnd (pS (aun .not x2) H) fun x3 H =>
  brB x3 (bnd (pS (abuild Try.prog 29 []) H) fun x4 H =>
  bnd (stS 6 x1 x4 H) fun x5 H =>
  bnd (pS (ldn 6 x1 H) H) fun r0 _ =>
  some (r0, H)) (
  bnd (pS (ldn 2 x0 H) H) fun x6 H =>
  bnd (pS (abuild Try.prog 29 [(1, (Value.bool true)), (2, x6)]) H) fun x7 H =>
  bnd (stS 6 x1 x7 H) fun x8 H =>
  bnd (pS (ldn 6 x1 H) H) fun r0 _ =>
  some (r0, H))

theorem F27_eq (G : Oracle) (n : Nat) (a0 a1 : Value) (H : Heap) : run G (n + 1) 27 [a0, a1] H = F27 (run G n) n a0 a1 H := by
  unfold run; rw [acall_k (fn := Try.f27) (keep := [0, 1, 4, 6, 2]) (notBad 27 rfl) (by kernel_rfl) (by kernel_rfl)]
  kernel_rfl

abbrev F31_st (v0 : Value := undef) (v1 : Value := undef) (v2 : Value := undef) (v6 : Value := undef) (v13 : Value := undef) (v14 : Value := undef) (v15 : Value := undef) (v7 : Value := undef) (v8 : Value := undef) (v9 : Value := undef) : List Value := [v0, v1, v2, v6, v13, v14, v15, v7, v8, v9]

noncomputable def F31_j0 (C : Oracle) (n : Nat) (vs : List Value) (H : Heap) : Option (Value × Heap) :=
  bnd (pS (ld1 (sl [0, 1, 2, 6, 13, 14, 15, 7, 8, 9] vs 7) H) H) fun x2 H =>
  bnd (some (x2, H)) fun x3 H =>
  some (x3, H)

noncomputable def F31_j0v (C : Oracle) (n : Nat) (v0 v1 v2 v6 v13 v14 v15 v7 v8 v9 : Value) (H : Heap) : Option (Value × Heap) :=
  bnd (pS (ld1 v7 H) H) fun x2 H =>
  bnd (some (x2, H)) fun x3 H =>
  some (x3, H)

theorem F31_j0_v (C : Oracle) (n : Nat) (v0 v1 v2 v6 v13 v14 v15 v7 v8 v9 : Value) (H : Heap) : F31_j0 C n [v0, v1, v2, v6, v13, v14, v15, v7, v8, v9] H = F31_j0v C n v0 v1 v2 v6 v13 v14 v15 v7 v8 v9 H := by
  kernel_rfl

noncomputable def F31_L0 (vs : List Value) : ALoop := ⟨[0, 1, 2, 6, 13, 14, 15, 7, 8, 9], vs, (lpAt Try.prog 31 0).1, (lpAt Try.prog 31 0).2.1, (lpAt Try.prog 31 0).2.2⟩

noncomputable def F31_R0 (C : Oracle) (n i : Nat) (v0 v1 v2 v6 v13 v14 v15 v7 v8 v9 : Value) (a0 a1 : Value) (H : Heap) : Option (Value × Heap) :=
  bnd (some (a0, H)) fun x8 H =>
  bnd (some (a1, H)) fun x9 H =>
  begR i H fun H =>
  bnd (pS (ld1 v7 H) H) fun x10 H =>
  bnd (some (x8, H)) fun x11 H =>
  bnd (some (x9, H)) fun x12 H =>
  bnd (pS (abuild Try.prog 26 [(0, x11), (1, x12)]) H) fun x13 H =>
  bnd (abuildSlice Try.prog 27 1 [(0, x13)] H) fun x14 H =>
  bnd (appS 26 2 16 x10 x14 H) fun x15 H =>
  bnd (stS 1 v7 x15 H) fun x16 H =>
  endR i .normal H

theorem F31_R0_eq (G : Oracle) (n i : Nat) (v0 v1 v2 v6 v13 v14 v15 v7 v8 v9 : Value) (a0 a1 : Value) (H : Heap) (h : H.oth i = some (.loop (F31_L0 [v0, v1, v2, v6, v13, v14, v15, v7, v8, v9]) .ready)) : run G (n + 1) (Try.prog.funcs.size + i) [a0, a1] H = F31_R0 (run G n) n i v0 v1 v2 v6 v13 v14 v15 v7 v8 v9 a0 a1 H := by
  unfold run; rw [acall_r (by kernel_rfl) h (by kernel_rfl)]
  kernel_rfl

noncomputable def F31 (C : Oracle) (n : Nat) (a0 a1 a2 : Value) (H : Heap) : Option (Value × Heap) :=
  bnd (some ((Value.slice none 0 0), H)) fun x0 H =>
  bnd (some (newBlk H 27 1 [(Value.slice none 0 0)])) fun x1 H =>
  bnd (some (a0, H)) fun x4 H =>
  bnd (some (a1, H)) fun x5 H =>
  bnd (some (a2, H)) fun x6 H =>
  bnd (C 47 [x4, x5, x6] H) fun x7 H =>
  onRng (rngC Try.prog.funcs.size C x7 (F31_L0 [a0, a1, a2, x0, x7, undef, undef, x1, undef, undef]) H) fun e H => (kBlk 0 (kSeq (F31_j0 C n) (kRet Try.prog [.tmp 6] [0, 1, 2, 6, 13, 14, 15, 7, 8, 9]))) e [a0, a1, a2, x0, x7, undef, undef, x1, undef, undef] H

theorem F31_eq (G : Oracle) (n : Nat) (a0 a1 a2 : Value) (H : Heap) : run G (n + 1) 31 [a0, a1, a2] H = F31 (run G n) n a0 a1 a2 H := by
  unfold run; rw [acall_k (fn := Try.f31) (keep := [0, 1, 2, 6, 13, 14, 15, 7, 8, 9]) (notBad 31 rfl) (by kernel_rfl) (by kernel_rfl)]
  kernel_rfl

noncomputable def F34 (C : Oracle) (n : Nat) (a0 a1 : Value) (H : Heap) : Option (Value × Heap) :=
  bnd (boxS 31 a1 H) fun x0 H =>
  bnd (some ((Value.bool false), H)) fun x1 H =>
  bnd (fadS 6 x0 H) fun x2 H =>
  bnd (fadS 5 x2 H) fun x3 H =>
  bnd (pS (ld1 x3 H) H) fun x4 H =>
  bnd (C 23 [x4] H) fun x5 H =>
  bnd (some (x5, H)) fun x6 H =>
  bnd (extS 0 x6 H) fun x7 H =>
  bnd (extS 1 x6 H) fun x8 H =>
  bnd (some (x7, H)) fun x9 H =>
  bnd (some (x8, H)) fun x10 H =>
  bnd (some (x10, H)) fun x11 H =>
  bnd (pS (aun .not x11) H) fun x12 H =>
  bnd (some (x12, H)) fun x13 H =>
  bnd (gd (wantV x13 false) (some (a0, H)) H) fun x14 H =>
  bnd (gd (wantV x13 false) (nckS x14 H) H) fun x15 H =>
  bnd (gd (wantV x13 false) (fadS 1 x15 H) H) fun x16 H =>
  bnd (gd (wantV x13 false) (pS (ld1 x16 H) H) H) fun x17 H =>
  bnd (gd (wantV x13 false) (pS (mlen x17 H) H) H) fun x18 H =>
  bnd (gd (wantV x13 false) (pS (abin Try.prog .gtr 3 x18 (Value.int .i64 (0))) H) H) fun x19 H =>
  bnd (pickS x13 (Value.bool true) x19 H) fun x20 H =>
  bnd (some (x20, H)) fun x21 H =>
  bnd (gd (wantV x21 false) (some (a0, H)) H) fun x22 H =>
  bnd (gd (wantV x21 false) (C 51 [x22] H) H) fun x23 H =>
  bnd (gd (wantV x21 false) (C 52 [x23] H) H) fun x24 H =>
  bnd (gd (wantV x21 false) (pS (abin Try.prog .gtr 3 x24 (Value.int .i64 (0))) H) H) fun x25 H =>
  bnd (pickS x21 (Value.bool true) x25 H) fun x26 H =>
  brB x26 (bnd (some ((Value.bool false), H)) fun x27 H =>
  some (x27, H)) (
  bnd (some (a0, H)) fun x28 H =>
  bnd (some (a0, H)) fun x29 H =>
  bnd (nckS x29 H) fun x30 H =>
  bnd (fadS 0 x30 H) fun x31 H =>
  bnd (pS (ld1 x31 H) H) fun x32 H =>
  bnd (some (x9, H)) fun x33 H =>
  bnd (abuildSlice Try.prog 52 1 [(0, x33)] H) fun x34 H =>
  bnd (appS 48 1 8 x32 x34 H) fun x35 H =>
  bnd (nckS x28 H) fun x36 H =>
  bnd (fadS 0 x36 H) fun x37 H =>
  bnd (stS 1 x37 x35 H) fun x38 H =>
  bnd (some ((Value.bool true), H)) fun x39 H =>
  some (x39, H))

theorem F34_eq (G : Oracle) (n : Nat) (a0 a1 : Value) (H : Heap) : run G (n + 1) 34 [a0, a1] H = F34 (run G n) n a0 a1 H := by
  unfold run; rw [acall_k (fn := Try.f34) (keep := [0, 1, 4, 3, 6, 29, 5]) (notBad 34 rfl) (by kernel_rfl) (by kernel_rfl)]
  kernel_rfl

noncomputable def F42 (C : Oracle) (n : Nat) (a0 a1 a2 : Value) (H : Heap) : Option (Value × Heap) :=
  bnd (some ((Value.int .i64 (0)), H)) fun x0 H =>
  bnd (some ((Value.bool false), H)) fun x1 H =>
  bnd (some (a0, H)) fun x2 H =>
  bnd (nckS x2 H) fun x3 H =>
  bnd (fadS 0 x3 H) fun x4 H =>
  bnd (pS (ld1 x4 H) H) fun x5 H =>
  bnd (some (a1, H)) fun x6 H =>
  bnd (C 55 [x5, x6] H) fun x7 H =>
  bnd (some (x7, H)) fun x8 H =>
  bnd (extS 0 x8 H) fun x9 H =>
  bnd (extS 1 x8 H) fun x10 H =>
  bnd (some (x9, H)) fun x11 H =>
  bnd (some (x10, H)) fun x12 H =>
  bnd (some (x12, H)) fun x13 H =>
  brB x13 (bnd (some (a0, H)) fun x14 H =>
  bnd (nckS x14 H) fun x15 H =>
  bnd (fadS 1 x15 H) fun x16 H =>
  bnd (pS (ld1 x16 H) H) fun x17 H =>
  bnd (some (x11, H)) fun x18 H =>
  bnd (iadS 1 x17 x18 H) fun x19 H =>
  bnd (pS (ld1 x19 H) H) fun x20 H =>
  bnd (some (x20, H)) fun x21 H =>
  bnd (some (a0, H)) fun x22 H =>
  bnd (nckS x22 H) fun x23 H =>
  bnd (fadS 1 x23 H) fun x24 H =>
  bnd (pS (ld1 x24 H) H) fun x25 H =>
  bnd (some (x11, H)) fun x26 H =>
  bnd (some (a2, H)) fun x27 H =>
  bnd (iadS 1 x25 x26 H) fun x28 H =>
  bnd (stS 1 x28 x27 H) fun x29 H =>
  bnd (some (x21, H)) fun x30 H =>
  bnd (some (x30, H)) fun x31 H =>
  bnd (some ((Value.bool true), H)) fun x32 H =>
  some (Value.tuple #[x31, x32], H)) (
  holesK 1 H fun hb H =>
  bnd (some (a0, H)) fun x33 Hx33 =>
  bnd (some (a0, Hx33)) fun x34 Hx34 =>
  bnd (some (a0, Hx34)) fun x35 Hx35 =>
  bnd (nckS x35 Hx35) fun x36 Hx36 =>
  bnd (fadS 0 x36 Hx36) fun x37 Hx37 =>
  bnd (pS (ld1 x37 Hx37) Hx37) fun x38 Hx38 =>
  bnd (some (x11, Hx38)) fun x39 Hx39 =>
  bnd (some (a1, Hx39)) fun x40 Hx40 =>
  bnd (abuildSlice Try.prog 49 1 [(0, x40)] Hx40) fun x41 Hx41 =>
  bnd (C 56 [x38, x39, x41] Hx41) fun x42 Hx42 =>
  bnd (some (a0, Hx42)) fun x43 Hx43 =>
  bnd (nckS x43 Hx43) fun x44 Hx44 =>
  bnd (fadS 1 x44 Hx44) fun x45 Hx45 =>
  bnd (pS (ld1 x45 Hx45) Hx45) fun x46 Hx46 =>
  bnd (some (x11, Hx46)) fun x47 Hx47 =>
  bnd (some (a2, Hx47)) fun x48 Hx48 =>
  bnd (layV (hb + 0) (bsB Try.prog 49 1 [(0, x48)]) Hx48) fun x49 Hx49 =>
  bnd (C 56 [x46, x47, x49] Hx49) fun x50 Hx50 =>
  bnd (nckS x33 Hx50) fun x51 Hx51 =>
  bnd (fadS 0 x51 Hx51) fun x52 Hx52 =>
  bnd (stS 1 x52 x42 Hx52) fun x53 Hx53 =>
  bnd (nckS x34 Hx53) fun x54 Hx54 =>
  bnd (fadS 1 x54 Hx54) fun x55 Hx55 =>
  bnd (stS 1 x55 x50 Hx55) fun x56 Hx56 =>
  if (cfS (some true) (some true) (pS (ld1 x37 Hx37) Hx37) (pS (ld1 x37 Hx40) Hx40) (pS (ld1 x37 Hx41) Hx41) && (cfS (some true) (some true) (pS (ld1 x37 Hx37) Hx37) (pS (ld1 x37 Hx48) Hx48) (pS (ld1 x37 Hx49) Hx49) && (cfS (some true) (some true) (pS (ld1 x45 Hx45) Hx45) (pS (ld1 x45 Hx40) Hx40) (pS (ld1 x45 Hx41) Hx41) && (cfS (some true) (some true) (pS (ld1 x45 Hx45) Hx45) (pS (ld1 x45 Hx41) Hx41) (pS (ld1 x45 Hx42) Hx42) && (cfS (some true) (some true) (pS (ld1 x45 Hx45) Hx45) (pS (ld1 x45 Hx48) Hx48) (pS (ld1 x45 Hx49) Hx49) && true))))) = true then (fun H =>
  bnd (some ((Value.int .i64 (0)), H)) fun x57 H =>
  bnd (some (x57, H)) fun x58 H =>
  bnd (some (x58, H)) fun x59 H =>
  bnd (some ((Value.bool false), H)) fun x60 H =>
  some (Value.tuple #[x59, x60], H)) Hx56 else none)

theorem F42_eq (G : Oracle) (n : Nat) (a0 a1 a2 : Value) (H : Heap) : run G (n + 1) 42 [a0, a1, a2] H = F42 (run G n) n a0 a1 a2 H := by
  unfold run; rw [acall_k (fn := Try.f42) (keep := [0, 1, 2, 6, 7, 9, 21, 8, 10, 11]) (notBad 42 rfl) (by kernel_rfl) (by kernel_rfl)]
  kernel_rfl

noncomputable def F46 (C : Oracle) (n : Nat) (a0 a1 : Value) (H : Heap) : Option (Value × Heap) :=
  bnd (some ((Value.int .i64 (0)), H)) fun x0 H =>
  bnd (some ((Value.int .i64 (0)), H)) fun x1 H =>
  bnd (some ((Value.bool false), H)) fun x2 H =>
  bnd (some (a0, H)) fun x3 H =>
  bnd (some (a1, H)) fun x4 H =>
  bnd (C 57 [x3, x4] H) fun x5 H =>
  bnd (some (x5, H)) fun x6 H =>
  bnd (extS 0 x6 H) fun x7 H =>
  bnd (extS 1 x6 H) fun x8 H =>
  bnd (extS 2 x6 H) fun x9 H =>
  bnd (some (x7, H)) fun x10 H =>
  bnd (some (x8, H)) fun x11 H =>
  bnd (some (x9, H)) fun x12 H =>
  bnd (some (a0, H)) fun x13 H =>
  bnd (some (x10, H)) fun x14 H =>
  bnd (C 58 [x13, x14] H) fun x15 H =>
  bnd (extS 0 x15 H) fun x16 H =>
  bnd (extS 1 x15 H) fun x17 H =>
  bnd (extS 2 x15 H) fun x18 H =>
  bnd (some (x16, H)) fun x19 H =>
  bnd (some (x17, H)) fun x20 H =>
  bnd (some (x18, H)) fun x21 H =>
  some (Value.tuple #[x19, x20, x21], H)

theorem F46_eq (G : Oracle) (n : Nat) (a0 a1 : Value) (H : Heap) : run G (n + 1) 46 [a0, a1] H = F46 (run G n) n a0 a1 H := by
  unfold run; rw [acall_k (fn := Try.f46) (keep := [0, 1, 4, 5, 6, 7]) (notBad 46 rfl) (by kernel_rfl) (by kernel_rfl)]
  kernel_rfl

noncomputable def F51 (C : Oracle) (n : Nat) (a0 : Value) (H : Heap) : Option (Value × Heap) :=
  bnd (some ((Value.pointer none), H)) fun x0 H =>
  bnd (some (a0, H)) fun x1 H =>
  bnd (nckS x1 H) fun x2 H =>
  bnd (fadS 0 x2 H) fun x3 H =>
  bnd (pS (ld1 x3 H) H) fun x4 H =>
  bnd (some (a0, H)) fun x5 H =>
  bnd (nckS x5 H) fun x6 H =>
  bnd (fadS 0 x6 H) fun x7 H =>
  bnd (pS (ld1 x7 H) H) fun x8 H =>
  bnd (pS (slen x8) H) fun x9 H =>
  bnd (pS (abin Try.prog .sub 3 x9 (Value.int .i64 (1))) H) fun x10 H =>
  bnd (iadS 1 x4 x10 H) fun x11 H =>
  bnd (pS (ld1 x11 H) H) fun x12 H =>
  bnd (some (x12, H)) fun x13 H =>
  some (x13, H)

theorem F51_eq (G : Oracle) (n : Nat) (a0 : Value) (H : Heap) : run G (n + 1) 51 [a0] H = F51 (run G n) n a0 H := by
  unfold run; rw [acall_k (fn := Try.f51) (keep := [0, 2]) (notBad 51 rfl) (by kernel_rfl) (by kernel_rfl)]
  kernel_rfl

abbrev F55_st (v0 : Value := undef) (v1 : Value := undef) (v4 : Value := undef) (v5 : Value := undef) (v6 : Value := undef) (v7 : Value := undef) (v8 : Value := undef) (v15 : Value := undef) (v9 : Value := undef) (v27 : Value := undef) : List Value := [v0, v1, v4, v5, v6, v7, v8, v15, v9, v27]

noncomputable def F55_b0 (C : Oracle) (n : Nat) (vs : List Value) (H : Heap) : AOut :=
  bnd (some ((sl [0, 1, 4, 5, 6, 7, 8, 15, 9, 27] vs 7), H)) fun x8 H =>
  bnd (some ((sl [0, 1, 4, 5, 6, 7, 8, 15, 9, 27] vs 8), H)) fun x9 H =>
  bnd (pS (abin Try.prog .lss 3 x8 x9) H) fun x10 H =>
  brB x10 (bnd (some ((sl [0, 1, 4, 5, 6, 7, 8, 15, 9, 27] vs 7), H)) fun x11 H =>
  bnd (some ((sl [0, 1, 4, 5, 6, 7, 8, 15, 9, 27] vs 8), H)) fun x12 H =>
  bnd (pS (abin Try.prog .add 3 x11 x12) H) fun x13 H =>
  bnd (convS .u64 x13 H) fun x14 H =>
  bnd (pS (abin Try.prog .shr 109 x14 (Value.int .u64 (1))) H) fun x15 H =>
  bnd (convS .i64 x15 H) fun x16 H =>
  bnd (some (x16, H)) fun x17 H =>
  bnd (some ((sl [0, 1, 4, 5, 6, 7, 8, 15, 9, 27] vs 0), H)) fun x18 H =>
  bnd (some (x17, H)) fun x19 H =>
  bnd (iadS 1 x18 x19 H) fun x20 H =>
  bnd (pS (ld1 x20 H) H) fun x21 H =>
  bnd (some ((sl [0, 1, 4, 5, 6, 7, 8, 15, 9, 27] vs 1), H)) fun x22 H =>
  bnd (C 66 [x21, x22] H) fun x23 H =>
  brB x23 (bnd (some (x17, H)) fun x24 H =>
  bnd (pS (abin Try.prog .add 3 x24 (Value.int .i64 (1))) H) fun x25 H =>
  bnd (some (x25, H)) fun x26 H =>
  fin .normal [(sl [0, 1, 4, 5, 6, 7, 8, 15, 9, 27] vs 0), (sl [0, 1, 4, 5, 6, 7, 8, 15, 9, 27] vs 1), (sl [0, 1, 4, 5, 6, 7, 8, 15, 9, 27] vs 4), (sl [0, 1, 4, 5, 6, 7, 8, 15, 9, 27] vs 5), (sl [0, 1, 4, 5, 6, 7, 8, 15, 9, 27] vs 6), x26, (sl [0, 1, 4, 5, 6, 7, 8, 15, 9, 27] vs 8), x10, x17, x23] H) (
  bnd (some (x17, H)) fun x27 H =>
  bnd (some (x27, H)) fun x28 H =>
  fin .normal [(sl [0, 1, 4, 5, 6, 7, 8, 15, 9, 27] vs 0), (sl [0, 1, 4, 5, 6, 7, 8, 15, 9, 27] vs 1), (sl [0, 1, 4, 5, 6, 7, 8, 15, 9, 27] vs 4), (sl [0, 1, 4, 5, 6, 7, 8, 15, 9, 27] vs 5), (sl [0, 1, 4, 5, 6, 7, 8, 15, 9, 27] vs 6), (sl [0, 1, 4, 5, 6, 7, 8, 15, 9, 27] vs 7), x28, x10, x17, x23] H)) (
  fin (.exit 0) [(sl [0, 1, 4, 5, 6, 7, 8, 15, 9, 27] vs 0), (sl [0, 1, 4, 5, 6, 7, 8, 15, 9, 27] vs 1), (sl [0, 1, 4, 5, 6, 7, 8, 15, 9, 27] vs 4), (sl [0, 1, 4, 5, 6, 7, 8, 15, 9, 27] vs 5), (sl [0, 1, 4, 5, 6, 7, 8, 15, 9, 27] vs 6), (sl [0, 1, 4, 5, 6, 7, 8, 15, 9, 27] vs 7), (sl [0, 1, 4, 5, 6, 7, 8, 15, 9, 27] vs 8), x10, (sl [0, 1, 4, 5, 6, 7, 8, 15, 9, 27] vs 9), (sl [0, 1, 4, 5, 6, 7, 8, 15, 9, 27] vs 27)] H)

noncomputable def F55_b0v (C : Oracle) (n : Nat) (v0 v1 v4 v5 v6 v7 v8 v15 v9 v27 : Value) (H : Heap) : AOut :=
  bnd (some (v7, H)) fun x8 H =>
  bnd (some (v8, H)) fun x9 H =>
  bnd (pS (abin Try.prog .lss 3 x8 x9) H) fun x10 H =>
  brB x10 (bnd (some (v7, H)) fun x11 H =>
  bnd (some (v8, H)) fun x12 H =>
  bnd (pS (abin Try.prog .add 3 x11 x12) H) fun x13 H =>
  bnd (convS .u64 x13 H) fun x14 H =>
  bnd (pS (abin Try.prog .shr 109 x14 (Value.int .u64 (1))) H) fun x15 H =>
  bnd (convS .i64 x15 H) fun x16 H =>
  bnd (some (x16, H)) fun x17 H =>
  bnd (some (v0, H)) fun x18 H =>
  bnd (some (x17, H)) fun x19 H =>
  bnd (iadS 1 x18 x19 H) fun x20 H =>
  bnd (pS (ld1 x20 H) H) fun x21 H =>
  bnd (some (v1, H)) fun x22 H =>
  bnd (C 66 [x21, x22] H) fun x23 H =>
  brB x23 (bnd (some (x17, H)) fun x24 H =>
  bnd (pS (abin Try.prog .add 3 x24 (Value.int .i64 (1))) H) fun x25 H =>
  bnd (some (x25, H)) fun x26 H =>
  fin .normal [v0, v1, v4, v5, v6, x26, v8, x10, x17, x23] H) (
  bnd (some (x17, H)) fun x27 H =>
  bnd (some (x27, H)) fun x28 H =>
  fin .normal [v0, v1, v4, v5, v6, v7, x28, x10, x17, x23] H)) (
  fin (.exit 0) [v0, v1, v4, v5, v6, v7, v8, x10, v9, v27] H)

theorem F55_b0_v (C : Oracle) (n : Nat) (v0 v1 v4 v5 v6 v7 v8 v15 v9 v27 : Value) (H : Heap) : F55_b0 C n [v0, v1, v4, v5, v6, v7, v8, v15, v9, v27] H = F55_b0v C n v0 v1 v4 v5 v6 v7 v8 v15 v9 v27 H := by
  kernel_rfl

noncomputable def F55_j1 (C : Oracle) (n : Nat) (vs : List Value) (H : Heap) : Option (Value × Heap) :=
  bnd (some ((sl [0, 1, 4, 5, 6, 7, 8, 15, 9, 27] vs 7), H)) fun x29 H =>
  bnd (some ((sl [0, 1, 4, 5, 6, 7, 8, 15, 9, 27] vs 7), H)) fun x30 H =>
  bnd (some ((sl [0, 1, 4, 5, 6, 7, 8, 15, 9, 27] vs 6), H)) fun x31 H =>
  bnd (pS (abin Try.prog .lss 3 x30 x31) H) fun x32 H =>
  bnd (some (x32, H)) fun x33 H =>
  bnd (gd (wantV x33 true) (some ((sl [0, 1, 4, 5, 6, 7, 8, 15, 9, 27] vs 0), H)) H) fun x34 H =>
  bnd (gd (wantV x33 true) (some ((sl [0, 1, 4, 5, 6, 7, 8, 15, 9, 27] vs 7), H)) H) fun x35 H =>
  bnd (gd (wantV x33 true) (iadS 1 x34 x35 H) H) fun x36 H =>
  bnd (gd (wantV x33 true) (pS (ld1 x36 H) H) H) fun x37 H =>
  bnd (gd (wantV x33 true) (some ((sl [0, 1, 4, 5, 6, 7, 8, 15, 9, 27] vs 1), H)) H) fun x38 H =>
  bnd (gd (wantV x33 true) (pS (abin Try.prog .eql 2 x37 x38) H) H) fun x39 H =>
  bnd (gd (wantV x33 true) (some (x39, H)) H) fun x40 H =>
  bnd (gd (wantV x40 false) (some ((sl [0, 1, 4, 5, 6, 7, 8, 15, 9, 27] vs 0), H)) H) fun x41 H =>
  bnd (gd (wantV x40 false) (some ((sl [0, 1, 4, 5, 6, 7, 8, 15, 9, 27] vs 7), H)) H) fun x42 H =>
  bnd (gd (wantV x40 false) (iadS 1 x41 x42 H) H) fun x43 H =>
  bnd (gd (wantV x40 false) (pS (ld1 x43 H) H) H) fun x44 H =>
  bnd (gd (wantV x40 false) (C 67 [x44] H) H) fun x45 H =>
  bnd (gd (wantV x40 false) (some (x45, H)) H) fun x46 H =>
  bnd (gd (wantV x46 true) (some ((sl [0, 1, 4, 5, 6, 7, 8, 15, 9, 27] vs 1), H)) H) fun x47 H =>
  bnd (gd (wantV x46 true) (C 67 [x47] H) H) fun x48 H =>
  bnd (gd (wantV x40 false) (pickS x46 x48 (Value.bool false) H) H) fun x49 H =>
  bnd (gd (wantV x33 true) (pickS x40 (Value.bool true) x49 H) H) fun x50 H =>
  bnd (pickS x33 x50 (Value.bool false) H) fun x51 H =>
  bnd (some (x29, H)) fun x52 H =>
  bnd (some (x51, H)) fun x53 H =>
  some (Value.tuple #[x52, x53], H)

noncomputable def F55_j1v (C : Oracle) (n : Nat) (v0 v1 v4 v5 v6 v7 v8 v15 v9 v27 : Value) (H : Heap) : Option (Value × Heap) :=
  bnd (some (v7, H)) fun x29 H =>
  bnd (some (v7, H)) fun x30 H =>
  bnd (some (v6, H)) fun x31 H =>
  bnd (pS (abin Try.prog .lss 3 x30 x31) H) fun x32 H =>
  bnd (some (x32, H)) fun x33 H =>
  bnd (gd (wantV x33 true) (some (v0, H)) H) fun x34 H =>
  bnd (gd (wantV x33 true) (some (v7, H)) H) fun x35 H =>
  bnd (gd (wantV x33 true) (iadS 1 x34 x35 H) H) fun x36 H =>
  bnd (gd (wantV x33 true) (pS (ld1 x36 H) H) H) fun x37 H =>
  bnd (gd (wantV x33 true) (some (v1, H)) H) fun x38 H =>
  bnd (gd (wantV x33 true) (pS (abin Try.prog .eql 2 x37 x38) H) H) fun x39 H =>
  bnd (gd (wantV x33 true) (some (x39, H)) H) fun x40 H =>
  bnd (gd (wantV x40 false) (some (v0, H)) H) fun x41 H =>
  bnd (gd (wantV x40 false) (some (v7, H)) H) fun x42 H =>
  bnd (gd (wantV x40 false) (iadS 1 x41 x42 H) H) fun x43 H =>
  bnd (gd (wantV x40 false) (pS (ld1 x43 H) H) H) fun x44 H =>
  bnd (gd (wantV x40 false) (C 67 [x44] H) H) fun x45 H =>
  bnd (gd (wantV x40 false) (some (x45, H)) H) fun x46 H =>
  bnd (gd (wantV x46 true) (some (v1, H)) H) fun x47 H =>
  bnd (gd (wantV x46 true) (C 67 [x47] H) H) fun x48 H =>
  bnd (gd (wantV x40 false) (pickS x46 x48 (Value.bool false) H) H) fun x49 H =>
  bnd (gd (wantV x33 true) (pickS x40 (Value.bool true) x49 H) H) fun x50 H =>
  bnd (pickS x33 x50 (Value.bool false) H) fun x51 H =>
  bnd (some (x29, H)) fun x52 H =>
  bnd (some (x51, H)) fun x53 H =>
  some (Value.tuple #[x52, x53], H)

theorem F55_j1_v (C : Oracle) (n : Nat) (v0 v1 v4 v5 v6 v7 v8 v15 v9 v27 : Value) (H : Heap) : F55_j1 C n [v0, v1, v4, v5, v6, v7, v8, v15, v9, v27] H = F55_j1v C n v0 v1 v4 v5 v6 v7 v8 v15 v9 v27 H := by
  kernel_rfl

noncomputable def F55 (C : Oracle) (n : Nat) (a0 a1 : Value) (H : Heap) : Option (Value × Heap) :=
  bnd (some ((Value.int .i64 (0)), H)) fun x0 H =>
  bnd (some ((Value.bool false), H)) fun x1 H =>
  bnd (some (a0, H)) fun x2 H =>
  bnd (pS (slen x2) H) fun x3 H =>
  bnd (some (x3, H)) fun x4 H =>
  bnd (some (x4, H)) fun x5 H =>
  bnd (some ((Value.int .i64 (0)), H)) fun x6 H =>
  bnd (some (x5, H)) fun x7 H =>
  onOut (iter n (F55_b0 C n) [a0, a1, x0, x1, x4, x6, x7, undef, undef, undef] H) (kBlk 0 (kSeq (F55_j1 C n) (kRet Try.prog [.tmp 4, .tmp 5] [0, 1, 4, 5, 6, 7, 8, 15, 9, 27])))

theorem F55_eq (G : Oracle) (n : Nat) (a0 a1 : Value) (H : Heap) : run G (n + 1) 55 [a0, a1] H = F55 (run G n) n a0 a1 H := by
  unfold run; rw [acall_k (fn := Try.f55) (keep := [0, 1, 4, 5, 6, 7, 8, 15, 9, 27]) (notBad 55 rfl) (by kernel_rfl) (by kernel_rfl)]
  kernel_rfl

noncomputable def F61 (C : Oracle) (n : Nat) (a0 : Value) (H : Heap) : Option (Value × Heap) :=
  bnd (some ((Value.slice none 0 0), H)) fun x0 H =>
  bnd (some (a0, H)) fun x1 H =>
  bnd (pS (abin Try.prog .eql 49 x1 (Value.slice none 0 0)) H) fun x2 H =>
  brB x2 (bnd (some ((Value.slice none 0 0), H)) fun x3 H =>
  some (x3, H)) (
  bnd (abuildSlice Try.prog 49 0 [] H) fun x4 H =>
  bnd (some (a0, H)) fun x5 H =>
  bnd (appS 2 1 8 x4 x5 H) fun x6 H =>
  bnd (some (x6, H)) fun x7 H =>
  some (x7, H))

theorem F61_eq (G : Oracle) (n : Nat) (a0 : Value) (H : Heap) : run G (n + 1) 61 [a0] H = F61 (run G n) n a0 H := by
  unfold run; rw [acall_k (fn := Try.f61) (keep := [0, 2, 4]) (notBad 61 rfl) (by kernel_rfl) (by kernel_rfl)]
  kernel_rfl

noncomputable def F65 (C : Oracle) (n : Nat) (a0 a1 a2 : Value) (H : Heap) : Option (Value × Heap) :=
  bnd (some ((Value.bool false), H)) fun x0 H =>
  bnd (some (a0, H)) fun x1 Hx1 =>
  bnd (pS (ld1 a1 Hx1) Hx1) fun x2 Hx2 =>
  bnd (nckS x2 Hx2) fun x3 Hx3 =>
  bnd (fadS 0 x3 Hx3) fun x4 Hx4 =>
  bnd (pS (ldn 3 x4 Hx4) Hx4) fun x5 Hx5 =>
  bnd (C 48 [x1, x5] Hx5) fun x6 Hx6 =>
  bnd (pS (aun .not x6) Hx6) fun x7 Hx7 =>
  bnd (some (x7, Hx7)) fun x8 Hx8 =>
  bnd (gd (wantV x8 true) (pS (ldn 6 a2 Hx8) Hx8) Hx8) fun x9 Hx9 =>
  bnd (gd (wantV x8 true) (some (a0, Hx9)) Hx9) fun x10 Hx10 =>
  bnd (gd (wantV x8 true) (pS (ld1 a1 Hx10) Hx10) Hx10) fun x11 Hx11 =>
  bnd (gd (wantV x8 true) (nckS x11 Hx11) Hx11) fun x12 Hx12 =>
  bnd (gd (wantV x8 true) (fadS 0 x12 Hx12) Hx12) fun x13 Hx13 =>
  bnd (gd (wantV x8 true) (pS (ldn 3 x13 Hx13) Hx13) Hx13) fun x14 Hx14 =>
  bnd (gd (wantV x8 true) (C 24 [x10, x14] Hx14) Hx14) fun x15 Hx15 =>
  bnd (gd (wantV x8 true) (C 63 [x9, x15] Hx15) Hx15) fun x16 Hx16 =>
  bnd (pickS x8 x16 (Value.bool false) Hx16) fun x17 Hx17 =>
  bnd (some (x17, Hx17)) fun x18 Hx18 =>
  if (cfS (wantV x8 true) (wantV x8 true) (pS (ldn 6 a2 Hx8) Hx8) (pS (ldn 6 a2 Hx14) Hx14) (pS (ldn 6 a2 Hx15) Hx15) && true) = true then (fun H =>
  some (x18, H)) Hx18 else none

theorem F65_eq (G : Oracle) (n : Nat) (a0 a1 a2 : Value) (H : Heap) : run G (n + 1) 65 [a0, a1, a2] H = F65 (run G n) n a0 a1 a2 H := by
  unfold run; rw [acall_k (fn := Try.f65) (keep := [0, 4, 1, 2]) (notBad 65 rfl) (by kernel_rfl) (by kernel_rfl)]
  kernel_rfl

noncomputable def F69 (C : Oracle) (n : Nat) (a0 a1 : Value) (H : Heap) : Option (Value × Heap) :=
  bnd (some (a0, H)) fun x0 H =>
  bnd (some (a0, H)) fun x1 H =>
  bnd (pS (slen x1) H) fun x2 H =>
  bnd (some (a1, H)) fun x3 H =>
  bnd (pS (abin Try.prog .sub 3 x2 x3) H) fun x4 H =>
  bnd (C 74 [x0, x4] H) fun x5 H =>
  some (Value.tuple #[], H)

theorem F69_eq (G : Oracle) (n : Nat) (a0 a1 : Value) (H : Heap) : run G (n + 1) 69 [a0, a1] H = F69 (run G n) n a0 a1 H := by
  unfold run; rw [acall_k (fn := Try.f69) (keep := [0, 1]) (notBad 69 rfl) (by kernel_rfl) (by kernel_rfl)]
  kernel_rfl

abbrev F71_st (v0 : Value := undef) (v1 : Value := undef) (v4 : Value := undef) (v10 : Value := undef) (v13 : Value := undef) (v12 : Value := undef) (v14 : Value := undef) (v5 : Value := undef) (v24 : Value := undef) : List Value := [v0, v1, v4, v10, v13, v12, v14, v5, v24]

noncomputable def F71_b0 (C : Oracle) (n : Nat) (vs : List Value) (H : Heap) : AOut :=
  bnd (pS (abin Try.prog .lss 3 (sl [0, 1, 4, 10, 13, 12, 14, 5, 24] vs 13) (sl [0, 1, 4, 10, 13, 12, 14, 5, 24] vs 12)) H) fun x10 H =>
  brB x10 (bnd (some ((sl [0, 1, 4, 10, 13, 12, 14, 5, 24] vs 13), H)) fun x11 H =>
  bnd (some (x11, H)) fun x12 H =>
  bnd (some ((sl [0, 1, 4, 10, 13, 12, 14, 5, 24] vs 0), H)) fun x13 H =>
  bnd (some (x12, H)) fun x14 H =>
  bnd (iadS 2 x13 x14 H) fun x15 H =>
  bnd (pS (ldn 2 x15 H) H) fun x16 H =>
  bnd (some ((sl [0, 1, 4, 10, 13, 12, 14, 5, 24] vs 1), H)) fun x17 H =>
  bnd (some (x12, H)) fun x18 H =>
  bnd (iadS 2 x17 x18 H) fun x19 H =>
  bnd (pS (ldn 2 x19 H) H) fun x20 H =>
  bnd (pS (abin Try.prog .neq 26 x16 x20) H) fun x21 H =>
  brB x21 (bnd (some ((Value.bool false), H)) fun x22 H =>
  fin .ret [(sl [0, 1, 4, 10, 13, 12, 14, 5, 24] vs 0), (sl [0, 1, 4, 10, 13, 12, 14, 5, 24] vs 1), x22, (sl [0, 1, 4, 10, 13, 12, 14, 5, 24] vs 10), (sl [0, 1, 4, 10, 13, 12, 14, 5, 24] vs 13), (sl [0, 1, 4, 10, 13, 12, 14, 5, 24] vs 12), x10, x12, x21] H) (
  bnd (pS (abin Try.prog .add 3 (sl [0, 1, 4, 10, 13, 12, 14, 5, 24] vs 13) (Value.int .i64 (1))) H) fun x23 H =>
  bnd (some (x23, H)) fun x24 H =>
  fin .normal [(sl [0, 1, 4, 10, 13, 12, 14, 5, 24] vs 0), (sl [0, 1, 4, 10, 13, 12, 14, 5, 24] vs 1), (sl [0, 1, 4, 10, 13, 12, 14, 5, 24] vs 4), (sl [0, 1, 4, 10, 13, 12, 14, 5, 24] vs 10), x24, (sl [0, 1, 4, 10, 13, 12, 14, 5, 24] vs 12), x10, x12, x21] H)) (
  fin (.exit 0) [(sl [0, 1, 4, 10, 13, 12, 14, 5, 24] vs 0), (sl [0, 1, 4, 10, 13, 12, 14, 5, 24] vs 1), (sl [0, 1, 4, 10, 13, 12, 14, 5, 24] vs 4), (sl [0, 1, 4, 10, 13, 12, 14, 5, 24] vs 10), (sl [0, 1, 4, 10, 13, 12, 14, 5, 24] vs 13), (sl [0, 1, 4, 10, 13, 12, 14, 5, 24] vs 12), x10, (sl [0, 1, 4, 10, 13, 12, 14, 5, 24] vs 5), (sl [0, 1, 4, 10, 13, 12, 14, 5, 24] vs 24)] H)

noncomputable def F71_b0v (C : Oracle) (n : Nat) (v0 v1 v4 v10 v13 v12 v14 v5 v24 : Value) (H : Heap) : AOut :=
  bnd (pS (abin Try.prog .lss 3 v13 v12) H) fun x10 H =>
  brB x10 (bnd (some (v13, H)) fun x11 H =>
  bnd (some (x11, H)) fun x12 H =>
  bnd (some (v0, H)) fun x13 H =>
  bnd (some (x12, H)) fun x14 H =>
  bnd (iadS 2 x13 x14 H) fun x15 H =>
  bnd (pS (ldn 2 x15 H) H) fun x16 H =>
  bnd (some (v1, H)) fun x17 H =>
  bnd (some (x12, H)) fun x18 H =>
  bnd (iadS 2 x17 x18 H) fun x19 H =>
  bnd (pS (ldn 2 x19 H) H) fun x20 H =>
  bnd (pS (abin Try.prog .neq 26 x16 x20) H) fun x21 H =>
  brB x21 (bnd (some ((Value.bool false), H)) fun x22 H =>
  fin .ret [v0, v1, x22, v10, v13, v12, x10, x12, x21] H) (
  bnd (pS (abin Try.prog .add 3 v13 (Value.int .i64 (1))) H) fun x23 H =>
  bnd (some (x23, H)) fun x24 H =>
  fin .normal [v0, v1, v4, v10, x24, v12, x10, x12, x21] H)) (
  fin (.exit 0) [v0, v1, v4, v10, v13, v12, x10, v5, v24] H)

theorem F71_b0_v (C : Oracle) (n : Nat) (v0 v1 v4 v10 v13 v12 v14 v5 v24 : Value) (H : Heap) : F71_b0 C n [v0, v1, v4, v10, v13, v12, v14, v5, v24] H = F71_b0v C n v0 v1 v4 v10 v13 v12 v14 v5 v24 H := by
  kernel_rfl

noncomputable def F71_j1 (C : Oracle) (n : Nat) (vs : List Value) (H : Heap) : Option (Value × Heap) :=
  bnd (some ((Value.bool true), H)) fun x25 H =>
  some (x25, H)

noncomputable def F71_j1v (C : Oracle) (n : Nat) (v0 v1 v4 v10 v13 v12 v14 v5 v24 : Value) (H : Heap) : Option (Value × Heap) :=
  bnd (some ((Value.bool true), H)) fun x25 H =>
  some (x25, H)

theorem F71_j1_v (C : Oracle) (n : Nat) (v0 v1 v4 v10 v13 v12 v14 v5 v24 : Value) (H : Heap) : F71_j1 C n [v0, v1, v4, v10, v13, v12, v14, v5, v24] H = F71_j1v C n v0 v1 v4 v10 v13 v12 v14 v5 v24 H := by
  kernel_rfl

noncomputable def F71 (C : Oracle) (n : Nat) (a0 a1 : Value) (H : Heap) : Option (Value × Heap) :=
  bnd (some ((Value.bool false), H)) fun x0 H =>
  bnd (some (a0, H)) fun x1 H =>
  bnd (pS (slen x1) H) fun x2 H =>
  bnd (some (a1, H)) fun x3 H =>
  bnd (pS (slen x3) H) fun x4 H =>
  bnd (pS (abin Try.prog .neq 3 x2 x4) H) fun x5 H =>
  brB x5 (bnd (some ((Value.bool false), H)) fun x6 H =>
  some (x6, H)) (
  bnd (some (a0, H)) fun x7 H =>
  bnd (pS (slen x7) H) fun x8 H =>
  bnd (some ((Value.int .i64 (0)), H)) fun x9 H =>
  onOut (iter n (F71_b0 C n) [a0, a1, x0, x5, x9, x8, undef, undef, undef] H) (kBlk 0 (kSeq (F71_j1 C n) (kRet Try.prog [.tmp 4] [0, 1, 4, 10, 13, 12, 14, 5, 24]))))

theorem F71_eq (G : Oracle) (n : Nat) (a0 a1 : Value) (H : Heap) : run G (n + 1) 71 [a0, a1] H = F71 (run G n) n a0 a1 H := by
  unfold run; rw [acall_k (fn := Try.f71) (keep := [0, 1, 4, 10, 13, 12, 14, 5, 24]) (notBad 71 rfl) (by kernel_rfl) (by kernel_rfl)]
  kernel_rfl

end Go.Proofs.Ytgakioiplkehgaa.Fun
