/- The program's functions as plain terms, each with its equation; printed by wip/am/fun.py. -/
import Derived.Test.YtpenlcigickkbaaFunK
namespace Go.Proofs.Ytpenlcigickkbaa.Fun
open Go.RowKit Go.Proofs.YtpenlcigickkbaaA.Am
set_option linter.unusedVariables false
set_option maxRecDepth 10000
abbrev F15_st (v0 : Value := undef) (v1 : Value := undef) (v4 : Value := undef) (v5 : Value := undef) (v10 : Value := undef) : List Value := [v0, v1, v4, v5, v10]

noncomputable def F15_j0 (C : Oracle) (n : Nat) (vs : List Value) (H : Heap) : Option (Value × Heap) :=
  bnd (some ((sl [0, 1, 4, 5, 10] vs 5), H)) fun x5 H =>
  bnd (some (x5, H)) fun x6 H =>
  some (x6, H)

noncomputable def F15_j0v (C : Oracle) (n : Nat) (v0 v1 v4 v5 v10 : Value) (H : Heap) : Option (Value × Heap) :=
  bnd (some (v5, H)) fun x5 H =>
  bnd (some (x5, H)) fun x6 H =>
  some (x6, H)

theorem F15_j0_v (C : Oracle) (n : Nat) (v0 v1 v4 v5 v10 : Value) (H : Heap) : F15_j0 C n [v0, v1, v4, v5, v10] H = F15_j0v C n v0 v1 v4 v5 v10 H := by
  kernel_rfl

noncomputable def F15 (C : Oracle) (n : Nat) (a0 a1 : Value) (H : Heap) : Option (Value × Heap) :=
  bnd (some ((Value.int .i64 (0)), H)) fun x0 H =>
  bnd (some (a0, H)) fun x1 H =>
  bnd (some (a1, H)) fun x2 H =>
  bnd (pS (abin Try.prog .rem 3 x1 x2) H) fun x3 H =>
  bnd (some (x3, H)) fun x4 H =>
  bnd (some (x4, H)) fun x7 H =>
  bnd (pS (abin Try.prog .lss 3 x7 (Value.int .i64 (0))) H) fun x8 H =>
  brB x8 (bnd (some (x4, H)) fun x9 H =>
  bnd (some (a1, H)) fun x10 H =>
  bnd (pS (abin Try.prog .add 3 x9 x10) H) fun x11 H =>
  bnd (some (x11, H)) fun x12 H =>
  F15_j0 C n [a0, a1, x0, x12, x8] H) (
  F15_j0 C n [a0, a1, x0, x4, x8] H)

theorem F15_eq (G : Oracle) (n : Nat) (a0 a1 : Value) (H : Heap) : run G (n + 1) 15 [a0, a1] H = F15 (run G n) n a0 a1 H := by
  unfold run; rw [acall_k (fn := Try.f15) (keep := [0, 1, 4, 5, 10]) (notBad 15 rfl) (by kernel_rfl) (by kernel_rfl)]
  kernel_rfl

noncomputable def F16 (C : Oracle) (n : Nat) (a0 : Value) (H : Heap) : Option (Value × Heap) :=
  bnd (some ((Value.pointer none), H)) fun x0 H =>
  bnd (some ((Value.int .i64 (0)), H)) fun x1 H =>
  bnd (some (a0, H)) fun x2 H =>
  bnd (pS (abin Try.prog .lss 3 x2 (Value.int .i64 (1))) H) fun x3 H =>
  bnd (some (x3, H)) fun x4 H =>
  bnd (gd (wantV x4 false) (some (a0, H)) H) fun x5 H =>
  bnd (gd (wantV x4 false) (pS (abin Try.prog .gtr 3 x5 (Value.int .i64 (65536))) H) H) fun x6 H =>
  bnd (pickS x4 (Value.bool true) x6 H) fun x7 H =>
  brB x7 (bnd (some ((Value.pointer none), H)) fun x8 H =>
  bnd (some ((Value.int .i64 (1)), H)) fun x9 H =>
  some (Value.tuple #[x8, x9], H)) (
  bnd (some (a0, H)) fun x10 H =>
  bnd (pS (abuild Try.prog 80 [(1, x10)]) H) fun x11 H =>
  bnd (boxS 80 x11 H) fun x12 H =>
  bnd (some (x12, H)) fun x13 H =>
  bnd (some ((Value.int .i64 (0)), H)) fun x14 H =>
  some (Value.tuple #[x13, x14], H))

theorem F16_eq (G : Oracle) (n : Nat) (a0 : Value) (H : Heap) : run G (n + 1) 16 [a0] H = F16 (run G n) n a0 H := by
  unfold run; rw [acall_k (fn := Try.f16) (keep := [0, 2, 3, 9]) (notBad 16 rfl) (by kernel_rfl) (by kernel_rfl)]
  kernel_rfl

noncomputable def F20 (C : Oracle) (n : Nat) (a0 : Value) (H : Heap) : Option (Value × Heap) :=
  bnd (some ((Value.int .i64 (0)), H)) fun x0 H =>
  bnd (some (a0, H)) fun x1 H =>
  bnd (nckS x1 H) fun x2 H =>
  bnd (fadS 0 x2 H) fun x3 H =>
  bnd (pS (ld1 x3 H) H) fun x4 H =>
  bnd (pS (slen x4) H) fun x5 H =>
  bnd (some (x5, H)) fun x6 H =>
  some (x6, H)

theorem F20_eq (G : Oracle) (n : Nat) (a0 : Value) (H : Heap) : run G (n + 1) 20 [a0] H = F20 (run G n) n a0 H := by
  unfold run; rw [acall_k (fn := Try.f20) (keep := [0, 2]) (notBad 20 rfl) (by kernel_rfl) (by kernel_rfl)]
  kernel_rfl

noncomputable def F24 (C : Oracle) (n : Nat) (a0 a1 a2 : Value) (H : Heap) : Option (Value × Heap) :=
  bnd (some (a0, H)) fun x0 H =>
  bnd (some (a1, H)) fun x1 H =>
  bnd (C 66 [x0, x1] H) fun x2 H =>
  bnd (some (x2, H)) fun x3 H =>
  bnd (some (x3, H)) fun x4 H =>
  bnd (pS (abin Try.prog .neq 81 x4 (Value.pointer none)) H) fun x5 H =>
  brB x5 (bnd (some (x3, H)) fun x6 H =>
  bnd (some (a2, H)) fun x7 H =>
  bnd (nckS x6 H) fun x8 H =>
  bnd (stS 1 x8 x7 H) fun x9 H =>
  some (Value.tuple #[], H)) (
  some (Value.tuple #[], H))

theorem F24_eq (G : Oracle) (n : Nat) (a0 a1 a2 : Value) (H : Heap) : run G (n + 1) 24 [a0, a1, a2] H = F24 (run G n) n a0 a1 a2 H := by
  unfold run; rw [acall_k (fn := Try.f24) (keep := [0, 1, 2, 6, 11]) (notBad 24 rfl) (by kernel_rfl) (by kernel_rfl)]
  kernel_rfl

noncomputable def F33 (C : Oracle) (n : Nat) (a0 a1 : Value) (H : Heap) : Option (Value × Heap) :=
  bnd (some ((Value.bool false), H)) fun x0 H =>
  bnd (some (a0, H)) fun x1 Hx1 =>
  bnd (C 22 [x1] Hx1) fun x2 Hx2 =>
  bnd (some (a1, Hx2)) fun x3 Hx3 =>
  bnd (nckS x3 Hx3) fun x4 Hx4 =>
  bnd (fadS 1 x4 Hx4) fun x5 Hx5 =>
  bnd (pS (ld1 x5 Hx5) Hx5) fun x6 Hx6 =>
  bnd (C 27 [x2, x6] Hx6) fun x7 Hx7 =>
  bnd (some (x7, Hx7)) fun x8 Hx8 =>
  bnd (gd (wantV x8 true) (some (a0, Hx8)) Hx8) fun x9 Hx9 =>
  bnd (gd (wantV x8 true) (C 20 [x9] Hx9) Hx9) fun x10 Hx10 =>
  bnd (gd (wantV x8 true) (some (a1, Hx10)) Hx10) fun x11 Hx11 =>
  bnd (gd (wantV x8 true) (nckS x11 Hx11) Hx11) fun x12 Hx12 =>
  bnd (gd (wantV x8 true) (fadS 1 x12 Hx12) Hx12) fun x13 Hx13 =>
  bnd (gd (wantV x8 true) (pS (ld1 x13 Hx13) Hx13) Hx13) fun x14 Hx14 =>
  bnd (gd (wantV x8 true) (pS (slen x14) Hx14) Hx14) fun x15 Hx15 =>
  bnd (gd (wantV x8 true) (pS (abin Try.prog .eql 3 x10 x15) Hx15) Hx15) fun x16 Hx16 =>
  bnd (pickS x8 x16 (Value.bool false) Hx16) fun x17 Hx17 =>
  bnd (some (x17, Hx17)) fun x18 Hx18 =>
  bnd (gd (wantV x18 true) (some (a0, Hx18)) Hx18) fun x19 Hx19 =>
  bnd (gd (wantV x18 true) (C 35 [x19] Hx19) Hx19) fun x20 Hx20 =>
  bnd (gd (wantV x18 true) (some (a1, Hx20)) Hx20) fun x21 Hx21 =>
  bnd (gd (wantV x18 true) (nckS x21 Hx21) Hx21) fun x22 Hx22 =>
  bnd (gd (wantV x18 true) (fadS 0 x22 Hx22) Hx22) fun x23 Hx23 =>
  bnd (gd (wantV x18 true) (pS (ld1 x23 Hx23) Hx23) Hx23) fun x24 Hx24 =>
  bnd (gd (wantV x18 true) (pS (abin Try.prog .eql 3 x20 x24) Hx24) Hx24) fun x25 Hx25 =>
  bnd (pickS x18 x25 (Value.bool false) Hx25) fun x26 Hx26 =>
  bnd (some (x26, Hx26)) fun x27 Hx27 =>
  (fun H => if (cfS (some true) (some true) (pS (ld1 x5 Hx5) Hx5) (pS (ld1 x5 Hx1) Hx1) (pS (ld1 x5 Hx2) Hx2) && (cfS (wantV x8 true) (wantV x8 true) (pS (ld1 x13 Hx13) Hx13) (pS (ld1 x13 Hx9) Hx9) (pS (ld1 x13 Hx10) Hx10) && (cfS (wantV x18 true) (wantV x18 true) (pS (ld1 x23 Hx23) Hx23) (pS (ld1 x23 Hx19) Hx19) (pS (ld1 x23 Hx20) Hx20) && true))) = true then
  some (x27, H) else none) Hx27

theorem F33_eq (G : Oracle) (n : Nat) (a0 a1 : Value) (H : Heap) : run G (n + 1) 33 [a0, a1] H = F33 (run G n) n a0 a1 H := by
  unfold run; rw [acall_k (fn := Try.f33) (keep := [0, 1, 4]) (notBad 33 rfl) (by kernel_rfl) (by kernel_rfl)]
  kernel_rfl

noncomputable def F34 (C : Oracle) (n : Nat) (a0 a1 : Value) (H : Heap) : Option (Value × Heap) :=
  bnd (some ((Value.int .i64 (0)), H)) fun x0 H =>
  bnd (some (a1, H)) fun x1 H =>
  bnd (pS (abin Try.prog .lss 3 x1 (Value.int .i64 (1))) H) fun x2 H =>
  bnd (some (x2, H)) fun x3 H =>
  bnd (gd (wantV x3 false) (some (a1, H)) H) fun x4 H =>
  bnd (gd (wantV x3 false) (some (a0, H)) H) fun x5 H =>
  bnd (gd (wantV x3 false) (nckS x5 H) H) fun x6 H =>
  bnd (gd (wantV x3 false) (fadS 1 x6 H) H) fun x7 H =>
  bnd (gd (wantV x3 false) (pS (ld1 x7 H) H) H) fun x8 H =>
  bnd (gd (wantV x3 false) (pS (slen x8) H) H) fun x9 H =>
  bnd (gd (wantV x3 false) (pS (abin Try.prog .gtr 3 x4 x9) H) H) fun x10 H =>
  bnd (pickS x3 (Value.bool true) x10 H) fun x11 H =>
  brB x11 (bnd (some ((Value.int .i64 (0)), H)) fun x12 H =>
  some (x12, H)) (
  bnd (some (a0, H)) fun x13 H =>
  bnd (nckS x13 H) fun x14 H =>
  bnd (fadS 1 x14 H) fun x15 H =>
  bnd (pS (ld1 x15 H) H) fun x16 H =>
  bnd (some (a1, H)) fun x17 H =>
  bnd (pS (abin Try.prog .sub 3 x17 (Value.int .i64 (1))) H) fun x18 H =>
  bnd (iadS 1 x16 x18 H) fun x19 H =>
  bnd (pS (ld1 x19 H) H) fun x20 H =>
  bnd (some (x20, H)) fun x21 H =>
  some (x21, H))

theorem F34_eq (G : Oracle) (n : Nat) (a0 a1 : Value) (H : Heap) : run G (n + 1) 34 [a0, a1] H = F34 (run G n) n a0 a1 H := by
  unfold run; rw [acall_k (fn := Try.f34) (keep := [0, 1, 4, 15]) (notBad 34 rfl) (by kernel_rfl) (by kernel_rfl)]
  kernel_rfl

noncomputable def F35 (C : Oracle) (n : Nat) (a0 : Value) (H : Heap) : Option (Value × Heap) :=
  bnd (some ((Value.int .i64 (0)), H)) fun x0 H =>
  bnd (some (a0, H)) fun x1 H =>
  bnd (nckS x1 H) fun x2 H =>
  bnd (fadS 1 x2 H) fun x3 H =>
  bnd (pS (ld1 x3 H) H) fun x4 H =>
  bnd (some (x4, H)) fun x5 H =>
  some (x5, H)

theorem F35_eq (G : Oracle) (n : Nat) (a0 : Value) (H : Heap) : run G (n + 1) 35 [a0] H = F35 (run G n) n a0 H := by
  unfold run; rw [acall_k (fn := Try.f35) (keep := [0, 2]) (notBad 35 rfl) (by kernel_rfl) (by kernel_rfl)]
  kernel_rfl

noncomputable def F45 (C : Oracle) (n : Nat) (a0 a1 a2 a3 : Value) (H : Heap) : Option (Value × Heap) :=
  bnd (some ((Value.slice none 0 0), H)) fun x0 H =>
  bnd (some (a0, H)) fun x1 H =>
  bnd (some (a1, H)) fun x2 H =>
  bnd (some (a2, H)) fun x3 H =>
  bnd (some (a3, H)) fun x4 H =>
  bnd (abuildSlice Try.prog 28 5 [(0, x1), (1, x2), (2, x3), (3, x4), (4, (Value.int .i64 (0)))] H) fun x5 H =>
  bnd (some (x5, H)) fun x6 H =>
  some (x6, H)

theorem F45_eq (G : Oracle) (n : Nat) (a0 a1 a2 a3 : Value) (H : Heap) : run G (n + 1) 45 [a0, a1, a2, a3] H = F45 (run G n) n a0 a1 a2 a3 H := by
  unfold run; rw [acall_k (fn := Try.f45) (keep := [0, 1, 2, 3, 8]) (notBad 45 rfl) (by kernel_rfl) (by kernel_rfl)]
  kernel_rfl

noncomputable def F49 (C : Oracle) (n : Nat) (a0 a1 a2 : Value) (H : Heap) : Option (Value × Heap) :=
  bnd (some ((Value.int .i64 (0)), H)) fun x0 H =>
  bnd (some (a0, H)) fun x1 H =>
  bnd (some (a1, H)) fun x2 H =>
  bnd (some (a2, H)) fun x3 H =>
  bnd (abuildSlice Try.prog 22 3 [(0, x1), (1, x2), (2, x3)] H) fun x4 H =>
  bnd (C 75 [x4] H) fun x5 H =>
  bnd (pS (aun .not x5) H) fun x6 H =>
  brB x6 (bnd (some ((Value.int .i64 (0)), H)) fun x7 H =>
  some (x7, H)) (
  bnd (some (a0, H)) fun x8 H =>
  bnd (pS (abin Try.prog .add 3 x8 (Value.int .i64 (4))) H) fun x9 H =>
  bnd (some (a1, H)) fun x10 H =>
  bnd (pS (abin Try.prog .add 3 x9 x10) H) fun x11 H =>
  bnd (some (a2, H)) fun x12 H =>
  bnd (pS (abin Try.prog .add 3 x11 x12) H) fun x13 H =>
  bnd (some (x13, H)) fun x14 H =>
  some (x14, H))

theorem F49_eq (G : Oracle) (n : Nat) (a0 a1 a2 : Value) (H : Heap) : run G (n + 1) 49 [a0, a1, a2] H = F49 (run G n) n a0 a1 a2 H := by
  unfold run; rw [acall_k (fn := Try.f49) (keep := [0, 1, 2, 6, 12]) (notBad 49 rfl) (by kernel_rfl) (by kernel_rfl)]
  kernel_rfl

abbrev F60_st (v0 : Value := undef) (v1 : Value := undef) (v4 : Value := undef) (v16 : Value := undef) (v17 : Value := undef) (v6 : Value := undef) (v7 : Value := undef) (v49 : Value := undef) (v52 : Value := undef) (v5 : Value := undef) (v68 : Value := undef) (v71 : Value := undef) (v85 : Value := undef) (v89 : Value := undef) (v105 : Value := undef) (v120 : Value := undef) (v126 : Value := undef) : List Value := [v0, v1, v4, v16, v17, v6, v7, v49, v52, v5, v68, v71, v85, v89, v105, v120, v126]

noncomputable def F60_j0 (C : Oracle) (n : Nat) (vs : List Value) (H : Heap) : Option (Value × Heap) :=
  bnd (some ((sl [0, 1, 4, 16, 17, 6, 7, 49, 52, 5, 68, 71, 85, 89, 105, 120, 126] vs 0), H)) fun x7 H =>
  bnd (C 65 [x7] H) fun x8 H =>
  bnd (some (x8, H)) fun x9 H =>
  some (x9, H)

noncomputable def F60_j0v (C : Oracle) (n : Nat) (v0 v1 v4 v16 v17 v6 v7 v49 v52 v5 v68 v71 v85 v89 v105 v120 v126 : Value) (H : Heap) : Option (Value × Heap) :=
  bnd (some (v0, H)) fun x7 H =>
  bnd (C 65 [x7] H) fun x8 H =>
  bnd (some (x8, H)) fun x9 H =>
  some (x9, H)

theorem F60_j0_v (C : Oracle) (n : Nat) (v0 v1 v4 v16 v17 v6 v7 v49 v52 v5 v68 v71 v85 v89 v105 v120 v126 : Value) (H : Heap) : F60_j0 C n [v0, v1, v4, v16, v17, v6, v7, v49, v52, v5, v68, v71, v85, v89, v105, v120, v126] H = F60_j0v C n v0 v1 v4 v16 v17 v6 v7 v49 v52 v5 v68 v71 v85 v89 v105 v120 v126 H := by
  kernel_rfl

noncomputable def F60 (C : Oracle) (n : Nat) (a0 a1 : Value) (H : Heap) : Option (Value × Heap) :=
  bnd (some ((Value.bool false), H)) fun x0 H =>
  bnd (some (a0, H)) fun x1 H =>
  bnd (nckS x1 H) fun x2 H =>
  bnd (fadS 5 x2 H) fun x3 H =>
  bnd (pS (ld1 x3 H) H) fun x4 H =>
  bnd (C 55 [(Value.int .i64 (5)), x4] H) fun x5 H =>
  bnd (some (x5, H)) fun x6 H =>
  bnd (some (a0, H)) fun x10 H =>
  bnd (nckS x10 H) fun x11 H =>
  bnd (fadS 0 x11 H) fun x12 H =>
  bnd (pS (ld1 x12 H) H) fun x13 H =>
  bnd (pS (abin Try.prog .eql 3 x13 (Value.int .i64 (0))) H) fun x14 H =>
  bnd (some (x14, H)) fun x15 H =>
  brB x15 (bnd (some (a1, H)) fun x16 H =>
  bnd (some (a0, H)) fun x17 H =>
  bnd (nckS x17 H) fun x18 H =>
  bnd (fadS 1 x18 H) fun x19 H =>
  bnd (pS (ld1 x19 H) H) fun x20 H =>
  bnd (some (a0, H)) fun x21 H =>
  bnd (nckS x21 H) fun x22 H =>
  bnd (fadS 2 x22 H) fun x23 H =>
  bnd (pS (ld1 x23 H) H) fun x24 H =>
  bnd (some (a0, H)) fun x25 H =>
  bnd (nckS x25 H) fun x26 H =>
  bnd (fadS 3 x26 H) fun x27 H =>
  bnd (pS (ld1 x27 H) H) fun x28 H =>
  bnd (some (a0, H)) fun x29 H =>
  bnd (nckS x29 H) fun x30 H =>
  bnd (fadS 4 x30 H) fun x31 H =>
  bnd (pS (ld1 x31 H) H) fun x32 H =>
  bnd (C 45 [x20, x24, x28, x32] H) fun x33 H =>
  bnd (C 17 [x16, x33] H) fun x34 H =>
  bnd (some (x34, H)) fun x35 H =>
  bnd (extS 0 x35 H) fun x36 H =>
  bnd (extS 1 x35 H) fun x37 H =>
  bnd (some (x36, H)) fun x38 H =>
  bnd (some (x37, H)) fun x39 H =>
  bnd (some (a0, H)) fun x40 H =>
  bnd (some (a0, H)) fun x41 H =>
  bnd (some (x38, H)) fun x42 H =>
  bnd (nckS x40 H) fun x43 H =>
  bnd (fadS 5 x43 H) fun x44 H =>
  bnd (stS 1 x44 x42 H) fun x45 H =>
  bnd (nckS x41 H) fun x46 H =>
  bnd (fadS 0 x46 H) fun x47 H =>
  bnd (stS 1 x47 (Value.int .i64 (1)) H) fun x48 H =>
  bnd (some (x39, H)) fun x49 H =>
  bnd (pS (aun .not x49) H) fun x50 H =>
  brB x50 (bnd (some (a0, H)) fun x51 H =>
  bnd (C 80 [x51, (Value.int .i64 (3))] H) fun x52 H =>
  F60_j0 C n [a0, a1, x0, x13, x15, x38, x39, x50, undef, x6, undef, undef, undef, undef, undef, undef, undef] H) (
  F60_j0 C n [a0, a1, x0, x13, x15, x38, x39, x50, undef, x6, undef, undef, undef, undef, undef, undef, undef] H)) (
  bnd (pS (abin Try.prog .eql 3 x13 (Value.int .i64 (1))) H) fun x53 H =>
  bnd (some (x53, H)) fun x54 H =>
  brB x54 (bnd (some (a0, H)) fun x55 H =>
  bnd (nckS x55 H) fun x56 H =>
  bnd (fadS 0 x56 H) fun x57 H =>
  bnd (stS 1 x57 (Value.int .i64 (2)) H) fun x58 H =>
  bnd (some (a1, H)) fun x59 H =>
  bnd (some (a0, H)) fun x60 H =>
  bnd (nckS x60 H) fun x61 H =>
  bnd (fadS 2 x61 H) fun x62 H =>
  bnd (pS (ld1 x62 H) H) fun x63 H =>
  bnd (some (a0, H)) fun x64 H =>
  bnd (nckS x64 H) fun x65 H =>
  bnd (fadS 3 x65 H) fun x66 H =>
  bnd (pS (ld1 x66 H) H) fun x67 H =>
  bnd (some (x6, H)) fun x68 H =>
  bnd (C 25 [x59, x63, x67, x68] H) fun x69 H =>
  bnd (pS (aun .not x69) H) fun x70 H =>
  brB x70 (bnd (some (a0, H)) fun x71 H =>
  bnd (C 80 [x71, (Value.int .i64 (0))] H) fun x72 H =>
  F60_j0 C n [a0, a1, x0, x13, x15, undef, undef, undef, x54, x6, x70, undef, undef, undef, undef, undef, undef] H) (
  F60_j0 C n [a0, a1, x0, x13, x15, undef, undef, undef, x54, x6, x70, undef, undef, undef, undef, undef, undef] H)) (
  bnd (pS (abin Try.prog .eql 3 x13 (Value.int .i64 (2))) H) fun x73 H =>
  bnd (some (x73, H)) fun x74 H =>
  brB x74 (bnd (some (a0, H)) fun x75 H =>
  bnd (some (a0, H)) fun x76 H =>
  bnd (nckS x75 H) fun x77 H =>
  bnd (fadS 6 x77 H) fun x78 H =>
  bnd (stS 1 x78 (Value.int .i64 (1)) H) fun x79 H =>
  bnd (nckS x76 H) fun x80 H =>
  bnd (fadS 0 x80 H) fun x81 H =>
  bnd (stS 1 x81 (Value.int .i64 (3)) H) fun x82 H =>
  bnd (some (a1, H)) fun x83 H =>
  bnd (some (a0, H)) fun x84 H =>
  bnd (nckS x84 H) fun x85 H =>
  bnd (fadS 1 x85 H) fun x86 H =>
  bnd (pS (ld1 x86 H) H) fun x87 H =>
  bnd (C 18 [x83, x87] H) fun x88 H =>
  bnd (pS (abin Try.prog .neq 2 x88 (Value.int .i64 (0))) H) fun x89 H =>
  brB x89 (bnd (some (a0, H)) fun x90 H =>
  bnd (nckS x90 H) fun x91 H =>
  bnd (fadS 6 x91 H) fun x92 H =>
  bnd (stS 1 x92 (Value.int .i64 (2)) H) fun x93 H =>
  F60_j0 C n [a0, a1, x0, x13, x15, undef, undef, undef, x54, x6, undef, x74, x89, undef, undef, undef, undef] H) (
  F60_j0 C n [a0, a1, x0, x13, x15, undef, undef, undef, x54, x6, undef, x74, x89, undef, undef, undef, undef] H)) (
  bnd (pS (abin Try.prog .eql 3 x13 (Value.int .i64 (3))) H) fun x94 H =>
  bnd (some (x94, H)) fun x95 H =>
  brB x95 (bnd (some (a1, H)) fun x96 H =>
  bnd (some (a0, H)) fun x97 H =>
  bnd (nckS x97 H) fun x98 H =>
  bnd (fadS 5 x98 H) fun x99 H =>
  bnd (pS (ld1 x99 H) H) fun x100 H =>
  bnd (pS (abin Try.prog .add 3 x100 (Value.int .i64 (4))) H) fun x101 H =>
  bnd (some (a0, H)) fun x102 H =>
  bnd (nckS x102 H) fun x103 H =>
  bnd (fadS 6 x103 H) fun x104 H =>
  bnd (pS (ld1 x104 H) H) fun x105 H =>
  bnd (C 25 [x96, x101, (Value.int .i64 (0)), x105] H) fun x106 H =>
  bnd (some (a0, H)) fun x107 H =>
  bnd (nckS x107 H) fun x108 H =>
  bnd (fadS 0 x108 H) fun x109 H =>
  bnd (stS 1 x109 (Value.int .i64 (4)) H) fun x110 H =>
  F60_j0 C n [a0, a1, x0, x13, x15, undef, undef, undef, x54, x6, undef, x74, undef, x95, undef, undef, undef] H) (
  bnd (pS (abin Try.prog .eql 3 x13 (Value.int .i64 (4))) H) fun x111 H =>
  bnd (some (x111, H)) fun x112 H =>
  brB x112 (bnd (some (a0, H)) fun x113 H =>
  bnd (some (a0, H)) fun x114 H =>
  bnd (some (a1, H)) fun x115 H =>
  bnd (some (a0, H)) fun x116 H =>
  bnd (nckS x116 H) fun x117 H =>
  bnd (fadS 5 x117 H) fun x118 H =>
  bnd (pS (ld1 x118 H) H) fun x119 H =>
  bnd (pS (abin Try.prog .add 3 x119 (Value.int .i64 (4))) H) fun x120 H =>
  bnd (C 18 [x115, x120] H) fun x121 H =>
  bnd (nckS x113 H) fun x122 H =>
  bnd (fadS 6 x122 H) fun x123 H =>
  bnd (stS 1 x123 x121 H) fun x124 H =>
  bnd (nckS x114 H) fun x125 H =>
  bnd (fadS 0 x125 H) fun x126 H =>
  bnd (stS 1 x126 (Value.int .i64 (5)) H) fun x127 H =>
  F60_j0 C n [a0, a1, x0, x13, x15, undef, undef, undef, x54, x6, undef, x74, undef, x95, x112, undef, undef] H) (
  bnd (pS (abin Try.prog .eql 3 x13 (Value.int .i64 (5))) H) fun x128 H =>
  bnd (some (x128, H)) fun x129 H =>
  brB x129 (bnd (some (a0, H)) fun x130 H =>
  bnd (nckS x130 H) fun x131 H =>
  bnd (fadS 6 x131 H) fun x132 H =>
  bnd (pS (ld1 x132 H) H) fun x133 H =>
  bnd (pS (abin Try.prog .eql 2 x133 (Value.int .i64 (1))) H) fun x134 H =>
  brB x134 (bnd (some (a1, H)) fun x135 H =>
  bnd (some (a0, H)) fun x136 H =>
  bnd (nckS x136 H) fun x137 H =>
  bnd (fadS 2 x137 H) fun x138 H =>
  bnd (pS (ld1 x138 H) H) fun x139 H =>
  bnd (some (x6, H)) fun x140 H =>
  bnd (some (a0, H)) fun x141 H =>
  bnd (nckS x141 H) fun x142 H =>
  bnd (fadS 4 x142 H) fun x143 H =>
  bnd (pS (ld1 x143 H) H) fun x144 H =>
  bnd (C 25 [x135, x139, x140, x144] H) fun x145 H =>
  bnd (some (a0, H)) fun x146 H =>
  bnd (C 80 [x146, (Value.int .i64 (1))] H) fun x147 H =>
  F60_j0 C n [a0, a1, x0, x13, x15, undef, undef, undef, x54, x6, undef, x74, undef, x95, x112, x129, x134] H) (
  bnd (some (a1, H)) fun x148 H =>
  bnd (some (a0, H)) fun x149 H =>
  bnd (nckS x149 H) fun x150 H =>
  bnd (fadS 2 x150 H) fun x151 H =>
  bnd (pS (ld1 x151 H) H) fun x152 H =>
  bnd (some (x6, H)) fun x153 H =>
  bnd (some (a0, H)) fun x154 H =>
  bnd (nckS x154 H) fun x155 H =>
  bnd (fadS 3 x155 H) fun x156 H =>
  bnd (pS (ld1 x156 H) H) fun x157 H =>
  bnd (C 25 [x148, x152, x153, x157] H) fun x158 H =>
  bnd (some (a0, H)) fun x159 H =>
  bnd (C 80 [x159, (Value.int .i64 (2))] H) fun x160 H =>
  F60_j0 C n [a0, a1, x0, x13, x15, undef, undef, undef, x54, x6, undef, x74, undef, x95, x112, x129, x134] H)) (
  F60_j0 C n [a0, a1, x0, x13, x15, undef, undef, undef, x54, x6, undef, x74, undef, x95, x112, x129, undef] H))))))

theorem F60_eq (G : Oracle) (n : Nat) (a0 a1 : Value) (H : Heap) : run G (n + 1) 60 [a0, a1] H = F60 (run G n) n a0 a1 H := by
  unfold run; rw [acall_k (fn := Try.f60) (keep := [0, 1, 4, 16, 17, 6, 7, 49, 52, 5, 68, 71, 85, 89, 105, 120, 126]) (notBad 60 rfl) (by kernel_rfl) (by kernel_rfl)]
  kernel_rfl

noncomputable def F65 (C : Oracle) (n : Nat) (a0 : Value) (H : Heap) : Option (Value × Heap) :=
  bnd (some ((Value.bool false), H)) fun x0 H =>
  bnd (some (a0, H)) fun x1 H =>
  bnd (nckS x1 H) fun x2 H =>
  bnd (fadS 0 x2 H) fun x3 H =>
  bnd (pS (ld1 x3 H) H) fun x4 H =>
  bnd (pS (abin Try.prog .eql 3 x4 (Value.int .i64 (6))) H) fun x5 H =>
  bnd (some (x5, H)) fun x6 H =>
  some (x6, H)

theorem F65_eq (G : Oracle) (n : Nat) (a0 : Value) (H : Heap) : run G (n + 1) 65 [a0] H = F65 (run G n) n a0 H := by
  unfold run; rw [acall_k (fn := Try.f65) (keep := [0, 2]) (notBad 65 rfl) (by kernel_rfl) (by kernel_rfl)]
  kernel_rfl

end Go.Proofs.Ytpenlcigickkbaa.Fun
