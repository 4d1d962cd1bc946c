/- The program's functions as plain terms, each with its equation; printed by wip/am/fun.py. -/
import Derived.Test.YtpenlcigickkbaaFunK
namespace Go.Proofs.Ytpenlcigickkbaa.Fun
open Go.RowKit Go.Proofs.YtpenlcigickkbaaA.Am
set_option linter.unusedVariables false
set_option maxRecDepth 10000
noncomputable def F17 (C : Oracle) (n : Nat) (a0 a1 : Value) (H : Heap) : Option (Value × Heap) :=
  bnd (some ((Value.int .i64 (0)), H)) fun x0 H =>
  bnd (some ((Value.bool false), H)) fun x1 H =>
  bnd (some (a0, H)) fun x2 H =>
  bnd (nckS x2 H) fun x3 H =>
  bnd (fadS 2 x3 H) fun x4 H =>
  bnd (pS (ld1 x4 H) H) fun x5 H =>
  bnd (pS (abin Try.prog .add 3 x5 (Value.int .i64 (1))) H) fun x6 H =>
  bnd (nckS x2 H) fun x7 H =>
  bnd (fadS 2 x7 H) fun x8 H =>
  bnd (stS 1 x8 x6 H) fun x9 H =>
  bnd (some (a1, H)) fun x10 H =>
  bnd (pS (slen x10) H) fun x11 H =>
  bnd (pS (abin Try.prog .eql 3 x11 (Value.int .i64 (0))) H) fun x12 H =>
  bnd (some (x12, H)) fun x13 H =>
  bnd (gd (wantV x13 false) (some (a1, H)) H) fun x14 H =>
  bnd (gd (wantV x13 false) (pS (slen x14) H) H) fun x15 H =>
  bnd (gd (wantV x13 false) (some (a0, H)) H) fun x16 H =>
  bnd (gd (wantV x13 false) (nckS x16 H) H) fun x17 H =>
  bnd (gd (wantV x13 false) (fadS 1 x17 H) H) fun x18 H =>
  bnd (gd (wantV x13 false) (pS (ld1 x18 H) H) H) fun x19 H =>
  bnd (gd (wantV x13 false) (some (a0, H)) H) fun x20 H =>
  bnd (gd (wantV x13 false) (nckS x20 H) H) fun x21 H =>
  bnd (gd (wantV x13 false) (fadS 0 x21 H) H) fun x22 H =>
  bnd (gd (wantV x13 false) (pS (ld1 x22 H) H) H) fun x23 H =>
  bnd (gd (wantV x13 false) (pS (slen x23) H) H) fun x24 H =>
  bnd (gd (wantV x13 false) (pS (abin Try.prog .sub 3 x19 x24) H) H) fun x25 H =>
  bnd (gd (wantV x13 false) (pS (abin Try.prog .gtr 3 x15 x25) H) H) fun x26 H =>
  bnd (pickS x13 (Value.bool true) x26 H) fun x27 H =>
  brB x27 (bnd (some (a0, H)) fun x28 H =>
  bnd (nckS x28 H) fun x29 H =>
  bnd (fadS 4 x29 H) fun x30 H =>
  bnd (pS (ld1 x30 H) H) fun x31 H =>
  bnd (pS (abin Try.prog .add 3 x31 (Value.int .i64 (1))) H) fun x32 H =>
  bnd (nckS x28 H) fun x33 H =>
  bnd (fadS 4 x33 H) fun x34 H =>
  bnd (stS 1 x34 x32 H) fun x35 H =>
  bnd (some ((Value.int .i64 (0)), H)) fun x36 H =>
  bnd (some ((Value.bool false), H)) fun x37 H =>
  some (Value.tuple #[x36, x37], H)) (
  bnd (some (a0, H)) fun x38 H =>
  bnd (nckS x38 H) fun x39 H =>
  bnd (fadS 0 x39 H) fun x40 H =>
  bnd (pS (ld1 x40 H) H) fun x41 H =>
  bnd (pS (slen x41) H) fun x42 H =>
  bnd (pS (abin Try.prog .add 3 x42 (Value.int .i64 (1))) H) fun x43 H =>
  bnd (some (x43, H)) fun x44 H =>
  bnd (some (a0, H)) fun x45 H =>
  bnd (some (a0, H)) fun x46 H =>
  bnd (nckS x46 H) fun x47 H =>
  bnd (fadS 0 x47 H) fun x48 H =>
  bnd (pS (ld1 x48 H) H) fun x49 H =>
  bnd (some (a1, H)) fun x50 H =>
  bnd (appS 2 1 8 x49 x50 H) fun x51 H =>
  bnd (nckS x45 H) fun x52 H =>
  bnd (fadS 0 x52 H) fun x53 H =>
  bnd (stS 1 x53 x51 H) fun x54 H =>
  bnd (some (x44, H)) fun x55 H =>
  bnd (some (x55, H)) fun x56 H =>
  bnd (some ((Value.bool true), H)) fun x57 H =>
  some (Value.tuple #[x56, x57], H))

theorem F17_eq (G : Oracle) (n : Nat) (a0 a1 : Value) (H : Heap) : run G (n + 1) 17 [a0, a1] H = F17 (run G n) n a0 a1 H := by
  unfold run; rw [acall_k (fn := Try.f17) (keep := [0, 1, 4, 5, 31, 6]) (notBad 17 rfl) (by kernel_rfl) (by kernel_rfl)]
  kernel_rfl

abbrev F27_st (v0 : Value := undef) (v1 : Value := undef) (v4 : Value := undef) (v10 : Value := undef) (v5 : Value := undef) (v14 : Value := undef) (v25 : Value := undef) : List Value := [v0, v1, v4, v10, v5, v14, v25]

noncomputable def F27_b0 (C : Oracle) (n : Nat) (vs : List Value) (H : Heap) : AOut :=
  bnd (some ((sl [0, 1, 4, 10, 5, 14, 25] vs 5), H)) fun x8 H =>
  bnd (some ((sl [0, 1, 4, 10, 5, 14, 25] vs 0), H)) fun x9 H =>
  bnd (pS (slen x9) H) fun x10 H =>
  bnd (pS (abin Try.prog .lss 3 x8 x10) H) fun x11 H =>
  brB x11 (bnd (some ((sl [0, 1, 4, 10, 5, 14, 25] vs 0), H)) fun x12 H =>
  bnd (some ((sl [0, 1, 4, 10, 5, 14, 25] vs 5), H)) fun x13 H =>
  bnd (iadS 1 x12 x13 H) fun x14 H =>
  bnd (pS (ld1 x14 H) H) fun x15 H =>
  bnd (some ((sl [0, 1, 4, 10, 5, 14, 25] vs 1), H)) fun x16 H =>
  bnd (some ((sl [0, 1, 4, 10, 5, 14, 25] vs 5), H)) fun x17 H =>
  bnd (iadS 1 x16 x17 H) fun x18 H =>
  bnd (pS (ld1 x18 H) H) fun x19 H =>
  bnd (pS (abin Try.prog .neq 2 x15 x19) H) fun x20 H =>
  brB x20 (bnd (some ((Value.bool false), H)) fun x21 H =>
  fin .ret [(sl [0, 1, 4, 10, 5, 14, 25] vs 0), (sl [0, 1, 4, 10, 5, 14, 25] vs 1), x21, (sl [0, 1, 4, 10, 5, 14, 25] vs 10), (sl [0, 1, 4, 10, 5, 14, 25] vs 5), x11, x20] H) (
  bnd (some ((sl [0, 1, 4, 10, 5, 14, 25] vs 5), H)) fun x22 H =>
  bnd (pS (abin Try.prog .add 3 x22 (Value.int .i64 (1))) H) fun x23 H =>
  bnd (some (x23, H)) fun x24 H =>
  fin .normal [(sl [0, 1, 4, 10, 5, 14, 25] vs 0), (sl [0, 1, 4, 10, 5, 14, 25] vs 1), (sl [0, 1, 4, 10, 5, 14, 25] vs 4), (sl [0, 1, 4, 10, 5, 14, 25] vs 10), x24, x11, x20] H)) (
  fin (.exit 0) [(sl [0, 1, 4, 10, 5, 14, 25] vs 0), (sl [0, 1, 4, 10, 5, 14, 25] vs 1), (sl [0, 1, 4, 10, 5, 14, 25] vs 4), (sl [0, 1, 4, 10, 5, 14, 25] vs 10), (sl [0, 1, 4, 10, 5, 14, 25] vs 5), x11, (sl [0, 1, 4, 10, 5, 14, 25] vs 25)] H)

noncomputable def F27_b0v (C : Oracle) (n : Nat) (v0 v1 v4 v10 v5 v14 v25 : Value) (H : Heap) : AOut :=
  bnd (some (v5, H)) fun x8 H =>
  bnd (some (v0, H)) fun x9 H =>
  bnd (pS (slen x9) H) fun x10 H =>
  bnd (pS (abin Try.prog .lss 3 x8 x10) H) fun x11 H =>
  brB x11 (bnd (some (v0, H)) fun x12 H =>
  bnd (some (v5, H)) fun x13 H =>
  bnd (iadS 1 x12 x13 H) fun x14 H =>
  bnd (pS (ld1 x14 H) H) fun x15 H =>
  bnd (some (v1, H)) fun x16 H =>
  bnd (some (v5, H)) fun x17 H =>
  bnd (iadS 1 x16 x17 H) fun x18 H =>
  bnd (pS (ld1 x18 H) H) fun x19 H =>
  bnd (pS (abin Try.prog .neq 2 x15 x19) H) fun x20 H =>
  brB x20 (bnd (some ((Value.bool false), H)) fun x21 H =>
  fin .ret [v0, v1, x21, v10, v5, x11, x20] H) (
  bnd (some (v5, H)) fun x22 H =>
  bnd (pS (abin Try.prog .add 3 x22 (Value.int .i64 (1))) H) fun x23 H =>
  bnd (some (x23, H)) fun x24 H =>
  fin .normal [v0, v1, v4, v10, x24, x11, x20] H)) (
  fin (.exit 0) [v0, v1, v4, v10, v5, x11, v25] H)

theorem F27_b0_v (C : Oracle) (n : Nat) (v0 v1 v4 v10 v5 v14 v25 : Value) (H : Heap) : F27_b0 C n [v0, v1, v4, v10, v5, v14, v25] H = F27_b0v C n v0 v1 v4 v10 v5 v14 v25 H := by
  kernel_rfl

noncomputable def F27_j1 (C : Oracle) (n : Nat) (vs : List Value) (H : Heap) : Option (Value × Heap) :=
  bnd (some ((Value.bool true), H)) fun x25 H =>
  some (x25, H)

noncomputable def F27_j1v (C : Oracle) (n : Nat) (v0 v1 v4 v10 v5 v14 v25 : Value) (H : Heap) : Option (Value × Heap) :=
  bnd (some ((Value.bool true), H)) fun x25 H =>
  some (x25, H)

theorem F27_j1_v (C : Oracle) (n : Nat) (v0 v1 v4 v10 v5 v14 v25 : Value) (H : Heap) : F27_j1 C n [v0, v1, v4, v10, v5, v14, v25] H = F27_j1v C n v0 v1 v4 v10 v5 v14 v25 H := by
  kernel_rfl

noncomputable def F27 (C : Oracle) (n : Nat) (a0 a1 : Value) (H : Heap) : Option (Value × Heap) :=
  bnd (some ((Value.bool false), H)) fun x0 H =>
  bnd (some (a0, H)) fun x1 H =>
  bnd (pS (slen x1) H) fun x2 H =>
  bnd (some (a1, H)) fun x3 H =>
  bnd (pS (slen x3) H) fun x4 H =>
  bnd (pS (abin Try.prog .neq 3 x2 x4) H) fun x5 H =>
  brB x5 (bnd (some ((Value.bool false), H)) fun x6 H =>
  some (x6, H)) (
  bnd (some ((Value.int .i64 (0)), H)) fun x7 H =>
  onOut (iter n (F27_b0 C n) [a0, a1, x0, x5, x7, undef, undef] H) (kBlk 0 (kSeq (F27_j1 C n) (kRet Try.prog [.tmp 4] [0, 1, 4, 10, 5, 14, 25]))))

theorem F27_eq (G : Oracle) (n : Nat) (a0 a1 : Value) (H : Heap) : run G (n + 1) 27 [a0, a1] H = F27 (run G n) n a0 a1 H := by
  unfold run; rw [acall_k (fn := Try.f27) (keep := [0, 1, 4, 10, 5, 14, 25]) (notBad 27 rfl) (by kernel_rfl) (by kernel_rfl)]
  kernel_rfl

noncomputable def F37 (C : Oracle) (n : Nat) (a0 a1 a2 : Value) (H : Heap) : Option (Value × Heap) :=
  bnd (some ((Value.slice none 0 0), H)) fun x0 H =>
  bnd (some (a2, H)) fun x1 H =>
  bnd (pS (slen x1) H) fun x2 H =>
  bnd (some (a1, H)) fun x3 H =>
  bnd (pS (slen x3) H) fun x4 H =>
  bnd (pS (abin Try.prog .add 3 x4 (Value.int .i64 (1))) H) fun x5 H =>
  bnd (pS (abin Try.prog .neq 3 x2 x5) H) fun x6 H =>
  brB x6 (bnd (some ((Value.slice none 0 0), H)) fun x7 H =>
  some (x7, H)) (
  bnd (some (a2, H)) fun x8 H =>
  bnd (pS (slen x8) H) fun x9 H =>
  bnd (some (a0, H)) fun x10 H =>
  bnd (abuildSlice Try.prog 28 5 [(0, x9), (1, x10), (2, (Value.int .i64 (0))), (3, (Value.int .i64 (0))), (4, (Value.int .i64 (0)))] H) fun x11 H =>
  bnd (some (a1, H)) fun x12 H =>
  bnd (some (a2, H)) fun x13 H =>
  bnd (abuildSlice Try.prog 97 3 [(0, x11), (1, x12), (2, x13)] H) fun x14 H =>
  bnd (C 74 [x14] H) fun x15 H =>
  bnd (some (x15, H)) fun x16 H =>
  some (x16, H))

theorem F37_eq (G : Oracle) (n : Nat) (a0 a1 a2 : Value) (H : Heap) : run G (n + 1) 37 [a0, a1, a2] H = F37 (run G n) n a0 a1 a2 H := by
  unfold run; rw [acall_k (fn := Try.f37) (keep := [0, 1, 2, 6, 12]) (notBad 37 rfl) (by kernel_rfl) (by kernel_rfl)]
  kernel_rfl

noncomputable def F39 (C : Oracle) (n : Nat) (a0 a1 : Value) (H : Heap) : Option (Value × Heap) :=
  bnd (some ((Value.slice none 0 0), H)) fun x0 H =>
  bnd (some (a0, H)) fun x1 H =>
  bnd (some (a1, H)) fun x2 H =>
  bnd (abuildSlice Try.prog 28 2 [(0, x1), (1, x2)] H) fun x3 H =>
  bnd (some (x3, H)) fun x4 H =>
  some (x4, H)

theorem F39_eq (G : Oracle) (n : Nat) (a0 a1 : Value) (H : Heap) : run G (n + 1) 39 [a0, a1] H = F39 (run G n) n a0 a1 H := by
  unfold run; rw [acall_k (fn := Try.f39) (keep := [0, 1, 4]) (notBad 39 rfl) (by kernel_rfl) (by kernel_rfl)]
  kernel_rfl

noncomputable def F43 (C : Oracle) (n : Nat) (a0 a1 a2 : Value) (H : Heap) : Option (Value × Heap) :=
  bnd (some ((Value.slice none 0 0), H)) fun x0 H =>
  bnd (some (a0, H)) fun x1 H =>
  bnd (some (a1, H)) fun x2 H =>
  bnd (some (a2, H)) fun x3 H =>
  bnd (abuildSlice Try.prog 28 5 [(0, x1), (1, x2), (2, x3), (3, (Value.int .i64 (0))), (4, (Value.int .i64 (0)))] H) fun x4 H =>
  bnd (some (x4, H)) fun x5 H =>
  some (x5, H)

theorem F43_eq (G : Oracle) (n : Nat) (a0 a1 a2 : Value) (H : Heap) : run G (n + 1) 43 [a0, a1, a2] H = F43 (run G n) n a0 a1 a2 H := by
  unfold run; rw [acall_k (fn := Try.f43) (keep := [0, 1, 2, 6]) (notBad 43 rfl) (by kernel_rfl) (by kernel_rfl)]
  kernel_rfl

noncomputable def F50 (C : Oracle) (n : Nat) (a0 a1 a2 : Value) (H : Heap) : Option (Value × Heap) :=
  bnd (some ((Value.int .i64 (0)), H)) fun x0 H =>
  bnd (some (a0, H)) fun x1 H =>
  bnd (C 76 [x1] H) fun x2 H =>
  bnd (pS (aun .not x2) H) fun x3 H =>
  bnd (some (x3, H)) fun x4 H =>
  bnd (gd (wantV x4 false) (some (a1, H)) H) fun x5 H =>
  bnd (gd (wantV x4 false) (C 76 [x5] H) H) fun x6 H =>
  bnd (gd (wantV x4 false) (pS (aun .not x6) H) H) fun x7 H =>
  bnd (pickS x4 (Value.bool true) x7 H) fun x8 H =>
  bnd (some (x8, H)) fun x9 H =>
  bnd (gd (wantV x9 false) (some (a2, H)) H) fun x10 H =>
  bnd (gd (wantV x9 false) (C 76 [x10] H) H) fun x11 H =>
  bnd (gd (wantV x9 false) (pS (aun .not x11) H) H) fun x12 H =>
  bnd (pickS x9 (Value.bool true) x12 H) fun x13 H =>
  brB x13 (bnd (some ((Value.int .i64 (0)), H)) fun x14 H =>
  some (x14, H)) (
  bnd (some (a0, H)) fun x15 H =>
  bnd (pS (abin Try.prog .add 3 x15 (Value.int .i64 (4))) H) fun x16 H =>
  bnd (some (a1, H)) fun x17 H =>
  bnd (pS (abin Try.prog .add 3 x16 x17) H) fun x18 H =>
  bnd (some (a2, H)) fun x19 H =>
  bnd (pS (abin Try.prog .add 3 x18 x19) H) fun x20 H =>
  bnd (some (x20, H)) fun x21 H =>
  some (x21, H))

theorem F50_eq (G : Oracle) (n : Nat) (a0 a1 a2 : Value) (H : Heap) : run G (n + 1) 50 [a0, a1, a2] H = F50 (run G n) n a0 a1 a2 H := by
  unfold run; rw [acall_k (fn := Try.f50) (keep := [0, 1, 2, 6, 19]) (notBad 50 rfl) (by kernel_rfl) (by kernel_rfl)]
  kernel_rfl

noncomputable def F52 (C : Oracle) (n : Nat) (a0 : Value) (H : Heap) : Option (Value × Heap) :=
  bnd (some ((Value.int .i64 (0)), H)) fun x0 H =>
  bnd (some (a0, H)) fun x1 H =>
  bnd (C 77 [x1] H) fun x2 H =>
  bnd (some (x2, H)) fun x3 H =>
  bnd (extS 0 x3 H) fun x4 H =>
  bnd (extS 1 x3 H) fun x5 H =>
  bnd (extS 2 x3 H) fun x6 H =>
  bnd (some (x4, H)) fun x7 H =>
  bnd (some (x5, H)) fun x8 H =>
  bnd (some (x6, H)) fun x9 H =>
  bnd (some (x7, H)) fun x10 H =>
  bnd (some (x10, H)) fun x11 H =>
  some (x11, H)

theorem F52_eq (G : Oracle) (n : Nat) (a0 : Value) (H : Heap) : run G (n + 1) 52 [a0] H = F52 (run G n) n a0 H := by
  unfold run; rw [acall_k (fn := Try.f52) (keep := [0, 2, 3]) (notBad 52 rfl) (by kernel_rfl) (by kernel_rfl)]
  kernel_rfl

noncomputable def F61 (C : Oracle) (n : Nat) (a0 : Value) (H : Heap) : Option (Value × Heap) :=
  bnd (some ((Value.int .i64 (0)), H)) fun x0 H =>
  bnd (some (a0, H)) fun x1 H =>
  bnd (nckS x1 H) fun x2 H =>
  bnd (fadS 7 x2 H) fun x3 H =>
  bnd (pS (ld1 x3 H) H) fun x4 H =>
  bnd (some (x4, H)) fun x5 H =>
  some (x5, H)

theorem F61_eq (G : Oracle) (n : Nat) (a0 : Value) (H : Heap) : run G (n + 1) 61 [a0] H = F61 (run G n) n a0 H := by
  unfold run; rw [acall_k (fn := Try.f61) (keep := [0, 2]) (notBad 61 rfl) (by kernel_rfl) (by kernel_rfl)]
  kernel_rfl

noncomputable def F63 (C : Oracle) (n : Nat) (a0 a1 : Value) (H : Heap) : Option (Value × Heap) :=
  bnd (some ((Value.slice none 0 0), H)) fun x0 H =>
  bnd (some (a0, H)) fun x1 H =>
  bnd (pS (slen x1) H) fun x2 H =>
  bnd (some (a1, H)) fun x3 H =>
  bnd (pS (abin Try.prog .gtr 3 x2 x3) H) fun x4 H =>
  brB x4 (bnd (some (a0, H)) fun x5 H =>
  bnd (some (a1, H)) fun x6 H =>
  bnd (pS (scut 1 H x5 none (some x6)) H) fun x7 H =>
  bnd (some (x7, H)) fun x8 H =>
  some (x8, H)) (
  bnd (some (a0, H)) fun x9 H =>
  bnd (some (x9, H)) fun x10 H =>
  some (x10, H))

theorem F63_eq (G : Oracle) (n : Nat) (a0 a1 : Value) (H : Heap) : run G (n + 1) 63 [a0, a1] H = F63 (run G n) n a0 a1 H := by
  unfold run; rw [acall_k (fn := Try.f63) (keep := [0, 1, 4, 8]) (notBad 63 rfl) (by kernel_rfl) (by kernel_rfl)]
  kernel_rfl

noncomputable def F66 (C : Oracle) (n : Nat) (a0 a1 : Value) (H : Heap) : Option (Value × Heap) :=
  bnd (some ((Value.pointer none), H)) fun x0 H =>
  bnd (some (a0, H)) fun x1 H =>
  bnd (nckS x1 H) fun x2 H =>
  bnd (fadS 2 x2 H) fun x3 H =>
  bnd (pS (ld1 x3 H) H) fun x4 H =>
  bnd (pS (abin Try.prog .add 3 x4 (Value.int .i64 (1))) H) fun x5 H =>
  bnd (nckS x1 H) fun x6 H =>
  bnd (fadS 2 x6 H) fun x7 H =>
  bnd (stS 1 x7 x5 H) fun x8 H =>
  bnd (some (a1, H)) fun x9 H =>
  bnd (pS (abin Try.prog .lss 3 x9 (Value.int .i64 (1))) H) fun x10 H =>
  bnd (some (x10, H)) fun x11 H =>
  bnd (gd (wantV x11 false) (some (a1, H)) H) fun x12 H =>
  bnd (gd (wantV x11 false) (some (a0, H)) H) fun x13 H =>
  bnd (gd (wantV x11 false) (nckS x13 H) H) fun x14 H =>
  bnd (gd (wantV x11 false) (fadS 0 x14 H) H) fun x15 H =>
  bnd (gd (wantV x11 false) (pS (ld1 x15 H) H) H) fun x16 H =>
  bnd (gd (wantV x11 false) (pS (slen x16) H) H) fun x17 H =>
  bnd (gd (wantV x11 false) (pS (abin Try.prog .gtr 3 x12 x17) H) H) fun x18 H =>
  bnd (pickS x11 (Value.bool true) x18 H) fun x19 H =>
  brB x19 (bnd (some (a0, H)) fun x20 H =>
  bnd (nckS x20 H) fun x21 H =>
  bnd (fadS 3 x21 H) fun x22 H =>
  bnd (pS (ld1 x22 H) H) fun x23 H =>
  bnd (pS (abin Try.prog .add 3 x23 (Value.int .i64 (1))) H) fun x24 H =>
  bnd (nckS x20 H) fun x25 H =>
  bnd (fadS 3 x25 H) fun x26 H =>
  bnd (stS 1 x26 x24 H) fun x27 H =>
  bnd (some ((Value.pointer none), H)) fun x28 H =>
  some (x28, H)) (
  bnd (some (a0, H)) fun x29 H =>
  bnd (nckS x29 H) fun x30 H =>
  bnd (fadS 0 x30 H) fun x31 H =>
  bnd (pS (ld1 x31 H) H) fun x32 H =>
  bnd (some (a1, H)) fun x33 H =>
  bnd (pS (abin Try.prog .sub 3 x33 (Value.int .i64 (1))) H) fun x34 H =>
  bnd (iadS 1 x32 x34 H) fun x35 H =>
  bnd (some (x35, H)) fun x36 H =>
  some (x36, H))

theorem F66_eq (G : Oracle) (n : Nat) (a0 a1 : Value) (H : Heap) : run G (n + 1) 66 [a0, a1] H = F66 (run G n) n a0 a1 H := by
  unfold run; rw [acall_k (fn := Try.f66) (keep := [0, 1, 4, 22]) (notBad 66 rfl) (by kernel_rfl) (by kernel_rfl)]
  kernel_rfl

noncomputable def F70 (C : Oracle) (n : Nat) (a0 a1 : Value) (H : Heap) : Option (Value × Heap) :=
  bnd (some ((Value.int .i64 (0)), H)) fun x0 H =>
  bnd (some (a0, H)) fun x1 H =>
  bnd (some (a1, H)) fun x2 H =>
  bnd (C 81 [x1, x2] H) fun x3 H =>
  bnd (pS (aun .not x3) H) fun x4 H =>
  brB x4 (bnd (some ((Value.int .i64 (0)), H)) fun x5 H =>
  some (x5, H)) (
  bnd (some (a0, H)) fun x6 H =>
  bnd (nckS x6 H) fun x7 H =>
  bnd (fadS 1 x7 H) fun x8 H =>
  bnd (pS (ld1 x8 H) H) fun x9 H =>
  bnd (some (a1, H)) fun x10 H =>
  bnd (pS (abin Try.prog .sub 3 x10 (Value.int .i64 (1))) H) fun x11 H =>
  bnd (iadS 1 x9 x11 H) fun x12 H =>
  bnd (pS (ld1 x12 H) H) fun x13 H =>
  bnd (some (x13, H)) fun x14 H =>
  some (x14, H))

theorem F70_eq (G : Oracle) (n : Nat) (a0 a1 : Value) (H : Heap) : run G (n + 1) 70 [a0, a1] H = F70 (run G n) n a0 a1 H := by
  unfold run; rw [acall_k (fn := Try.f70) (keep := [0, 1, 4, 8]) (notBad 70 rfl) (by kernel_rfl) (by kernel_rfl)]
  kernel_rfl

noncomputable def F72 (C : Oracle) (n : Nat) (a0 a1 a2 a3 : Value) (H : Heap) : Option (Value × Heap) :=
  bnd (some ((Value.bool false), H)) fun x0 H =>
  bnd (some (a0, H)) fun x1 H =>
  bnd (some (a1, H)) fun x2 H =>
  bnd (C 81 [x1, x2] H) fun x3 H =>
  bnd (pS (aun .not x3) H) fun x4 H =>
  bnd (some (x4, H)) fun x5 H =>
  bnd (gd (wantV x5 false) (some (a0, H)) H) fun x6 H =>
  bnd (gd (wantV x5 false) (nckS x6 H) H) fun x7 H =>
  bnd (gd (wantV x5 false) (fadS 1 x7 H) H) fun x8 H =>
  bnd (gd (wantV x5 false) (pS (ld1 x8 H) H) H) fun x9 H =>
  bnd (gd (wantV x5 false) (some (a1, H)) H) fun x10 H =>
  bnd (gd (wantV x5 false) (pS (abin Try.prog .sub 3 x10 (Value.int .i64 (1))) H) H) fun x11 H =>
  bnd (gd (wantV x5 false) (iadS 1 x9 x11 H) H) fun x12 H =>
  bnd (gd (wantV x5 false) (pS (ld1 x12 H) H) H) fun x13 H =>
  bnd (gd (wantV x5 false) (some (a2, H)) H) fun x14 H =>
  bnd (gd (wantV x5 false) (pS (abin Try.prog .neq 2 x13 x14) H) H) fun x15 H =>
  bnd (pickS x5 (Value.bool true) x15 H) fun x16 H =>
  brB x16 (bnd (some ((Value.bool false), H)) fun x17 H =>
  some (x17, H)) (
  bnd (some (a0, H)) fun x18 H =>
  bnd (nckS x18 H) fun x19 H =>
  bnd (fadS 1 x19 H) fun x20 H =>
  bnd (pS (ld1 x20 H) H) fun x21 H =>
  bnd (some (a1, H)) fun x22 H =>
  bnd (pS (abin Try.prog .sub 3 x22 (Value.int .i64 (1))) H) fun x23 H =>
  bnd (some (a3, H)) fun x24 H =>
  bnd (iadS 1 x21 x23 H) fun x25 H =>
  bnd (stS 1 x25 x24 H) fun x26 H =>
  bnd (some ((Value.bool true), H)) fun x27 H =>
  some (x27, H))

theorem F72_eq (G : Oracle) (n : Nat) (a0 a1 a2 a3 : Value) (H : Heap) : run G (n + 1) 72 [a0, a1, a2, a3] H = F72 (run G n) n a0 a1 a2 a3 H := by
  unfold run; rw [acall_k (fn := Try.f72) (keep := [0, 1, 2, 3, 8, 24]) (notBad 72 rfl) (by kernel_rfl) (by kernel_rfl)]
  kernel_rfl

end Go.Proofs.Ytpenlcigickkbaa.Fun
