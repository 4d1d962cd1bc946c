/- The program's functions as plain terms, each with its equation; printed by wip/am/fun.py. -/
import Derived.Test.YtdgolnenpnkjbaaFunK
namespace Go.Proofs.Ytdgolnenpnkjbaa.Fun
open Go.RowKit Go.Proofs.YtdgolnenpnkjbaaA.Am
set_option linter.unusedVariables false
set_option maxRecDepth 10000
abbrev F12_st (v0 : Value := undef) (v1 : Value := undef) (v4 : Value := undef) (v5 : Value := undef) (v6 : Value := undef) (v9 : Value := undef) (v18 : Value := undef) (v7 : Value := undef) : List Value := [v0, v1, v4, v5, v6, v9, v18, v7]

noncomputable def F12_j0 (C : Oracle) (n : Nat) (vs : List Value) (H : Heap) : Option (Value × Heap) :=
  bnd (some ((sl [0, 1, 4, 5, 6, 9, 18, 7] vs 0), H)) fun x13 H =>
  bnd (some ((sl [0, 1, 4, 5, 6, 9, 18, 7] vs 7), H)) fun x14 H =>
  bnd (C 35 [x13, x14] H) fun x15 H =>
  bnd (extS 0 x15 H) fun x16 H =>
  bnd (extS 1 x15 H) fun x17 H =>
  bnd (extS 2 x15 H) fun x18 H =>
  bnd (some (x16, H)) fun x19 H =>
  bnd (some (x17, H)) fun x20 H =>
  bnd (some (x18, H)) fun x21 H =>
  some (Value.tuple #[x19, x20, x21], H)

noncomputable def F12_j0v (C : Oracle) (n : Nat) (v0 v1 v4 v5 v6 v9 v18 v7 : Value) (H : Heap) : Option (Value × Heap) :=
  bnd (some (v0, H)) fun x13 H =>
  bnd (some (v7, H)) fun x14 H =>
  bnd (C 35 [x13, x14] H) fun x15 H =>
  bnd (extS 0 x15 H) fun x16 H =>
  bnd (extS 1 x15 H) fun x17 H =>
  bnd (extS 2 x15 H) fun x18 H =>
  bnd (some (x16, H)) fun x19 H =>
  bnd (some (x17, H)) fun x20 H =>
  bnd (some (x18, H)) fun x21 H =>
  some (Value.tuple #[x19, x20, x21], H)

theorem F12_j0_v (C : Oracle) (n : Nat) (v0 v1 v4 v5 v6 v9 v18 v7 : Value) (H : Heap) : F12_j0 C n [v0, v1, v4, v5, v6, v9, v18, v7] H = F12_j0v C n v0 v1 v4 v5 v6 v9 v18 v7 H := by
  kernel_rfl

noncomputable def F12 (C : Oracle) (n : Nat) (a0 a1 : Value) (H : Heap) : Option (Value × Heap) :=
  bnd (some ((Value.int .i64 (0)), H)) fun x0 H =>
  bnd (some ((Value.int .i64 (0)), H)) fun x1 H =>
  bnd (some ((Value.bool false), H)) fun x2 H =>
  bnd (some (a0, H)) fun x3 H =>
  bnd (some (a1, H)) fun x4 H =>
  bnd (C 34 [x3, x4] H) fun x5 H =>
  bnd (some (x5, H)) fun x6 H =>
  bnd (extS 0 x6 H) fun x7 H =>
  bnd (extS 1 x6 H) fun x8 H =>
  bnd (extS 2 x6 H) fun x9 H =>
  bnd (some (x7, H)) fun x10 H =>
  bnd (some (x8, H)) fun x11 H =>
  bnd (some (x9, H)) fun x12 H =>
  bnd (some (x12, H)) fun x22 H =>
  bnd (pS (aun .not x22) H) fun x23 H =>
  brB x23 (bnd (some (x10, H)) fun x24 H =>
  bnd (pS (abin Try.prog .sub 3 x24 (Value.int .i64 (1))) H) fun x25 H =>
  bnd (some (x25, H)) fun x26 H =>
  F12_j0 C n [a0, a1, x0, x1, x2, x12, x23, x26] H) (
  F12_j0 C n [a0, a1, x0, x1, x2, x12, x23, x10] H)

theorem F12_eq (G : Oracle) (n : Nat) (a0 a1 : Value) (H : Heap) : run G (n + 1) 12 [a0, a1] H = F12 (run G n) n a0 a1 H := by
  unfold run; rw [acall_k (fn := Try.f12) (keep := [0, 1, 4, 5, 6, 9, 18, 7]) (notBad 12 rfl) (by kernel_rfl) (by kernel_rfl)]
  kernel_rfl

noncomputable def F15 (C : Oracle) (n : Nat) (a0 : Value) (H : Heap) : Option (Value × Heap) :=
  bnd (some (Value.nilFunc, H)) fun x0 H =>
  bnd (some (a0, H)) fun x1 H =>
  bnd (C 36 [x1, (Value.int .i64 (0)), (Value.func (.func 37) #[] #[])] H) fun x2 H =>
  bnd (some (x2, H)) fun x3 H =>
  some (x3, H)

theorem F15_eq (G : Oracle) (n : Nat) (a0 : Value) (H : Heap) : run G (n + 1) 15 [a0] H = F15 (run G n) n a0 H := by
  unfold run; rw [acall_k (fn := Try.f15) (keep := [0, 2]) (notBad 15 rfl) (by kernel_rfl) (by kernel_rfl)]
  kernel_rfl

noncomputable def F16 (C : Oracle) (n : Nat) (a0 a1 a2 : Value) (H : Heap) : Option (Value × Heap) :=
  bnd (some ((Value.bool false), H)) fun x0 H =>
  bnd (some ((Value.bool false), H)) fun x1 H =>
  bnd (some (a0, H)) fun x2 H =>
  bnd (nckS x2 H) fun x3 H =>
  bnd (fadS 0 x3 H) fun x4 H =>
  bnd (pS (ld1 x4 H) H) fun x5 H =>
  bnd (some (a1, H)) fun x6 H =>
  bnd (C 38 [x5, x6] H) fun x7 H =>
  bnd (some (x7, H)) fun x8 H =>
  bnd (extS 0 x8 H) fun x9 H =>
  bnd (extS 1 x8 H) fun x10 H =>
  bnd (some (x9, H)) fun x11 H =>
  bnd (some (x10, H)) fun x12 H =>
  bnd (some (x12, H)) fun x13 H =>
  brB x13 (bnd (some (a0, H)) fun x14 H =>
  bnd (nckS x14 H) fun x15 H =>
  bnd (fadS 1 x15 H) fun x16 H =>
  bnd (pS (ld1 x16 H) H) fun x17 H =>
  bnd (some (x11, H)) fun x18 H =>
  bnd (iadS 1 x17 x18 H) fun x19 H =>
  bnd (pS (ld1 x19 H) H) fun x20 H =>
  bnd (some (x20, H)) fun x21 H =>
  bnd (some (a0, H)) fun x22 H =>
  bnd (nckS x22 H) fun x23 H =>
  bnd (fadS 1 x23 H) fun x24 H =>
  bnd (pS (ld1 x24 H) H) fun x25 H =>
  bnd (some (x11, H)) fun x26 H =>
  bnd (some (a2, H)) fun x27 H =>
  bnd (iadS 1 x25 x26 H) fun x28 H =>
  bnd (stS 1 x28 x27 H) fun x29 H =>
  bnd (some (x21, H)) fun x30 H =>
  bnd (some (x30, H)) fun x31 H =>
  bnd (some ((Value.bool true), H)) fun x32 H =>
  some (Value.tuple #[x31, x32], H)) (
  holesK 1 H fun hb H =>
  bnd (some (a0, H)) fun x33 Hx33 =>
  bnd (some (a0, Hx33)) fun x34 Hx34 =>
  bnd (some (a0, Hx34)) fun x35 Hx35 =>
  bnd (nckS x35 Hx35) fun x36 Hx36 =>
  bnd (fadS 0 x36 Hx36) fun x37 Hx37 =>
  bnd (pS (ld1 x37 Hx37) Hx37) fun x38 Hx38 =>
  bnd (some (x11, Hx38)) fun x39 Hx39 =>
  bnd (some (a1, Hx39)) fun x40 Hx40 =>
  bnd (abuildSlice Try.prog 34 1 [(0, x40)] Hx40) fun x41 Hx41 =>
  bnd (C 39 [x38, x39, x41] Hx41) fun x42 Hx42 =>
  bnd (some (a0, Hx42)) fun x43 Hx43 =>
  bnd (nckS x43 Hx43) fun x44 Hx44 =>
  bnd (fadS 1 x44 Hx44) fun x45 Hx45 =>
  bnd (pS (ld1 x45 Hx45) Hx45) fun x46 Hx46 =>
  bnd (some (x11, Hx46)) fun x47 Hx47 =>
  bnd (some (a2, Hx47)) fun x48 Hx48 =>
  bnd (layV (hb + 0) (bsB Try.prog 36 1 [(0, x48)]) Hx48) fun x49 Hx49 =>
  bnd (C 40 [x46, x47, x49] Hx49) fun x50 Hx50 =>
  bnd (nckS x33 Hx50) fun x51 Hx51 =>
  bnd (fadS 0 x51 Hx51) fun x52 Hx52 =>
  bnd (stS 1 x52 x42 Hx52) fun x53 Hx53 =>
  bnd (nckS x34 Hx53) fun x54 Hx54 =>
  bnd (fadS 1 x54 Hx54) fun x55 Hx55 =>
  bnd (stS 1 x55 x50 Hx55) fun x56 Hx56 =>
  (fun H => if (cfS (some true) (some true) (pS (ld1 x37 Hx37) Hx37) (pS (ld1 x37 Hx40) Hx40) (pS (ld1 x37 Hx41) Hx41) && (cfS (some true) (some true) (pS (ld1 x37 Hx37) Hx37) (pS (ld1 x37 Hx48) Hx48) (pS (ld1 x37 Hx49) Hx49) && (cfS (some true) (some true) (pS (ld1 x45 Hx45) Hx45) (pS (ld1 x45 Hx40) Hx40) (pS (ld1 x45 Hx41) Hx41) && (cfS (some true) (some true) (pS (ld1 x45 Hx45) Hx45) (pS (ld1 x45 Hx41) Hx41) (pS (ld1 x45 Hx42) Hx42) && (cfS (some true) (some true) (pS (ld1 x45 Hx45) Hx45) (pS (ld1 x45 Hx48) Hx48) (pS (ld1 x45 Hx49) Hx49) && true))))) = true then
  bnd (some ((Value.bool false), H)) fun x57 H =>
  bnd (some (x57, H)) fun x58 H =>
  bnd (some (x58, H)) fun x59 H =>
  bnd (some ((Value.bool false), H)) fun x60 H =>
  some (Value.tuple #[x59, x60], H) else none) Hx56)

theorem F16_eq (G : Oracle) (n : Nat) (a0 a1 a2 : Value) (H : Heap) : run G (n + 1) 16 [a0, a1, a2] H = F16 (run G n) n a0 a1 a2 H := by
  unfold run; rw [acall_k (fn := Try.f16) (keep := [0, 1, 2, 6, 7, 9, 21, 8, 10, 11]) (notBad 16 rfl) (by kernel_rfl) (by kernel_rfl)]
  kernel_rfl

noncomputable def F31 (C : Oracle) (n : Nat) (a0 a1 : Value) (H : Heap) : Option (Value × Heap) :=
  bnd (some (newBlk H 53 1 [(Value.int .i64 (0)), (Value.int .i64 (0))])) fun x0 H =>
  bnd (some ((Value.bool false), H)) fun x1 H =>
  bnd (some (a0, H)) fun x2 H =>
  bnd (some (a1, H)) fun x3 H =>
  bnd (C 47 [x2, x3] H) fun x4 H =>
  bnd (some (x4, H)) fun x5 H =>
  bnd (some (x5, H)) fun x6 H =>
  bnd (some (a0, H)) fun x7 H =>
  bnd (pS (slen x7) H) fun x8 H =>
  bnd (pS (abin Try.prog .eql 3 x6 x8) H) fun x9 H =>
  brB x9 (bnd (pS (abuild Try.prog 53 []) H) fun x10 H =>
  bnd (stS 2 x0 x10 H) fun x11 H =>
  bnd (some ((Value.bool false), H)) fun x12 H =>
  bnd (pS (ldn 2 x0 H) H) fun r0 _ =>
  some (Value.tuple #[r0, x12], H)) (
  bnd (some (a0, H)) fun x13 H =>
  bnd (some (x5, H)) fun x14 H =>
  bnd (iadS 2 x13 x14 H) fun x15 H =>
  bnd (pS (ldn 2 x15 H) H) fun x16 H =>
  bnd (stS 2 x0 x16 H) fun x17 H =>
  bnd (some ((Value.bool true), H)) fun x18 H =>
  bnd (pS (ldn 2 x0 H) H) fun r0 _ =>
  some (Value.tuple #[r0, x18], H))

theorem F31_eq (G : Oracle) (n : Nat) (a0 a1 : Value) (H : Heap) : run G (n + 1) 31 [a0, a1] H = F31 (run G n) n a0 a1 H := by
  unfold run; rw [acall_k (fn := Try.f31) (keep := [0, 1, 4, 5, 6, 13]) (notBad 31 rfl) (by kernel_rfl) (by kernel_rfl)]
  kernel_rfl

noncomputable def F34 (C : Oracle) (n : Nat) (a0 a1 : Value) (H : Heap) : Option (Value × Heap) :=
  bnd (some ((Value.int .i64 (0)), H)) fun x0 H =>
  bnd (some ((Value.int .i64 (0)), H)) fun x1 H =>
  bnd (some ((Value.bool false), H)) fun x2 H =>
  bnd (some (a0, H)) fun x3 H =>
  bnd (nckS x3 H) fun x4 H =>
  bnd (fadS 0 x4 H) fun x5 H =>
  bnd (pS (ld1 x5 H) H) fun x6 H =>
  bnd (some (a1, H)) fun x7 H =>
  bnd (C 44 [x6, x7] H) fun x8 H =>
  bnd (some (x8, H)) fun x9 H =>
  bnd (extS 0 x9 H) fun x10 H =>
  bnd (extS 1 x9 H) fun x11 H =>
  bnd (some (x10, H)) fun x12 H =>
  bnd (some (x11, H)) fun x13 H =>
  bnd (some (x13, H)) fun x14 H =>
  bnd (pS (aun .not x14) H) fun x15 H =>
  brB x15 (bnd (some ((Value.int .i64 (0)), H)) fun x16 H =>
  bnd (some (x12, H)) fun x17 H =>
  bnd (some (x16, H)) fun x18 H =>
  bnd (some (x17, H)) fun x19 H =>
  bnd (some (x18, H)) fun x20 H =>
  bnd (some ((Value.bool false), H)) fun x21 H =>
  some (Value.tuple #[x19, x20, x21], H)) (
  bnd (some (x12, H)) fun x22 H =>
  bnd (some (a0, H)) fun x23 H =>
  bnd (nckS x23 H) fun x24 H =>
  bnd (fadS 1 x24 H) fun x25 H =>
  bnd (pS (ld1 x25 H) H) fun x26 H =>
  bnd (some (x12, H)) fun x27 H =>
  bnd (iadS 1 x26 x27 H) fun x28 H =>
  bnd (pS (ld1 x28 H) H) fun x29 H =>
  bnd (some (x22, H)) fun x30 H =>
  bnd (some (x29, H)) fun x31 H =>
  bnd (some ((Value.bool true), H)) fun x32 H =>
  some (Value.tuple #[x30, x31, x32], H))

theorem F34_eq (G : Oracle) (n : Nat) (a0 a1 : Value) (H : Heap) : run G (n + 1) 34 [a0, a1] H = F34 (run G n) n a0 a1 H := by
  unfold run; rw [acall_k (fn := Try.f34) (keep := [0, 1, 4, 5, 6, 8, 20, 7, 9]) (notBad 34 rfl) (by kernel_rfl) (by kernel_rfl)]
  kernel_rfl

noncomputable def F36 (C : Oracle) (n : Nat) (a0 a1 a2 : Value) (H : Heap) : Option (Value × Heap) :=
  bnd (boxS 24 a0 H) fun x0 H =>
  bnd (boxS 3 a1 H) fun x1 H =>
  bnd (boxS 72 a2 H) fun x2 H =>
  bnd (some (Value.nilFunc, H)) fun x3 H =>
  bnd (some (Value.func (.func 51) #[] #[x1, x0, x2], H)) fun x4 H =>
  bnd (some (x4, H)) fun x5 H =>
  some (x5, H)

theorem F36_eq (G : Oracle) (n : Nat) (a0 a1 a2 : Value) (H : Heap) : run G (n + 1) 36 [a0, a1, a2] H = F36 (run G n) n a0 a1 a2 H := by
  unfold run; rw [acall_k (fn := Try.f36) (keep := [0, 1, 2, 6, 4, 3, 5]) (notBad 36 rfl) (by kernel_rfl) (by kernel_rfl)]
  kernel_rfl

abbrev F38_st (v0 : Value := undef) (v1 : Value := undef) (v4 : Value := undef) (v5 : Value := undef) (v6 : Value := undef) (v7 : Value := undef) (v8 : Value := undef) (v15 : Value := undef) (v9 : Value := undef) (v27 : Value := undef) : List Value := [v0, v1, v4, v5, v6, v7, v8, v15, v9, v27]

noncomputable def F38_b0 (C : Oracle) (n : Nat) (vs : List Value) (H : Heap) : AOut :=
  bnd (some ((sl [0, 1, 4, 5, 6, 7, 8, 15, 9, 27] vs 7), H)) fun x8 H =>
  bnd (some ((sl [0, 1, 4, 5, 6, 7, 8, 15, 9, 27] vs 8), H)) fun x9 H =>
  bnd (pS (abin Try.prog .lss 3 x8 x9) H) fun x10 H =>
  brB x10 (bnd (some ((sl [0, 1, 4, 5, 6, 7, 8, 15, 9, 27] vs 7), H)) fun x11 H =>
  bnd (some ((sl [0, 1, 4, 5, 6, 7, 8, 15, 9, 27] vs 8), H)) fun x12 H =>
  bnd (pS (abin Try.prog .add 3 x11 x12) H) fun x13 H =>
  bnd (convS .u64 x13 H) fun x14 H =>
  bnd (pS (abin Try.prog .shr 87 x14 (Value.int .u64 (1))) H) fun x15 H =>
  bnd (convS .i64 x15 H) fun x16 H =>
  bnd (some (x16, H)) fun x17 H =>
  bnd (some ((sl [0, 1, 4, 5, 6, 7, 8, 15, 9, 27] vs 0), H)) fun x18 H =>
  bnd (some (x17, H)) fun x19 H =>
  bnd (iadS 1 x18 x19 H) fun x20 H =>
  bnd (pS (ld1 x20 H) H) fun x21 H =>
  bnd (some ((sl [0, 1, 4, 5, 6, 7, 8, 15, 9, 27] vs 1), H)) fun x22 H =>
  bnd (C 52 [x21, x22] H) fun x23 H =>
  brB x23 (bnd (some (x17, H)) fun x24 H =>
  bnd (pS (abin Try.prog .add 3 x24 (Value.int .i64 (1))) H) fun x25 H =>
  bnd (some (x25, H)) fun x26 H =>
  fin .normal [(sl [0, 1, 4, 5, 6, 7, 8, 15, 9, 27] vs 0), (sl [0, 1, 4, 5, 6, 7, 8, 15, 9, 27] vs 1), (sl [0, 1, 4, 5, 6, 7, 8, 15, 9, 27] vs 4), (sl [0, 1, 4, 5, 6, 7, 8, 15, 9, 27] vs 5), (sl [0, 1, 4, 5, 6, 7, 8, 15, 9, 27] vs 6), x26, (sl [0, 1, 4, 5, 6, 7, 8, 15, 9, 27] vs 8), x10, x17, x23] H) (
  bnd (some (x17, H)) fun x27 H =>
  bnd (some (x27, H)) fun x28 H =>
  fin .normal [(sl [0, 1, 4, 5, 6, 7, 8, 15, 9, 27] vs 0), (sl [0, 1, 4, 5, 6, 7, 8, 15, 9, 27] vs 1), (sl [0, 1, 4, 5, 6, 7, 8, 15, 9, 27] vs 4), (sl [0, 1, 4, 5, 6, 7, 8, 15, 9, 27] vs 5), (sl [0, 1, 4, 5, 6, 7, 8, 15, 9, 27] vs 6), (sl [0, 1, 4, 5, 6, 7, 8, 15, 9, 27] vs 7), x28, x10, x17, x23] H)) (
  fin (.exit 0) [(sl [0, 1, 4, 5, 6, 7, 8, 15, 9, 27] vs 0), (sl [0, 1, 4, 5, 6, 7, 8, 15, 9, 27] vs 1), (sl [0, 1, 4, 5, 6, 7, 8, 15, 9, 27] vs 4), (sl [0, 1, 4, 5, 6, 7, 8, 15, 9, 27] vs 5), (sl [0, 1, 4, 5, 6, 7, 8, 15, 9, 27] vs 6), (sl [0, 1, 4, 5, 6, 7, 8, 15, 9, 27] vs 7), (sl [0, 1, 4, 5, 6, 7, 8, 15, 9, 27] vs 8), x10, (sl [0, 1, 4, 5, 6, 7, 8, 15, 9, 27] vs 9), (sl [0, 1, 4, 5, 6, 7, 8, 15, 9, 27] vs 27)] H)

noncomputable def F38_b0v (C : Oracle) (n : Nat) (v0 v1 v4 v5 v6 v7 v8 v15 v9 v27 : Value) (H : Heap) : AOut :=
  bnd (some (v7, H)) fun x8 H =>
  bnd (some (v8, H)) fun x9 H =>
  bnd (pS (abin Try.prog .lss 3 x8 x9) H) fun x10 H =>
  brB x10 (bnd (some (v7, H)) fun x11 H =>
  bnd (some (v8, H)) fun x12 H =>
  bnd (pS (abin Try.prog .add 3 x11 x12) H) fun x13 H =>
  bnd (convS .u64 x13 H) fun x14 H =>
  bnd (pS (abin Try.prog .shr 87 x14 (Value.int .u64 (1))) H) fun x15 H =>
  bnd (convS .i64 x15 H) fun x16 H =>
  bnd (some (x16, H)) fun x17 H =>
  bnd (some (v0, H)) fun x18 H =>
  bnd (some (x17, H)) fun x19 H =>
  bnd (iadS 1 x18 x19 H) fun x20 H =>
  bnd (pS (ld1 x20 H) H) fun x21 H =>
  bnd (some (v1, H)) fun x22 H =>
  bnd (C 52 [x21, x22] H) fun x23 H =>
  brB x23 (bnd (some (x17, H)) fun x24 H =>
  bnd (pS (abin Try.prog .add 3 x24 (Value.int .i64 (1))) H) fun x25 H =>
  bnd (some (x25, H)) fun x26 H =>
  fin .normal [v0, v1, v4, v5, v6, x26, v8, x10, x17, x23] H) (
  bnd (some (x17, H)) fun x27 H =>
  bnd (some (x27, H)) fun x28 H =>
  fin .normal [v0, v1, v4, v5, v6, v7, x28, x10, x17, x23] H)) (
  fin (.exit 0) [v0, v1, v4, v5, v6, v7, v8, x10, v9, v27] H)

theorem F38_b0_v (C : Oracle) (n : Nat) (v0 v1 v4 v5 v6 v7 v8 v15 v9 v27 : Value) (H : Heap) : F38_b0 C n [v0, v1, v4, v5, v6, v7, v8, v15, v9, v27] H = F38_b0v C n v0 v1 v4 v5 v6 v7 v8 v15 v9 v27 H := by
  kernel_rfl

noncomputable def F38_j1 (C : Oracle) (n : Nat) (vs : List Value) (H : Heap) : Option (Value × Heap) :=
  bnd (some ((sl [0, 1, 4, 5, 6, 7, 8, 15, 9, 27] vs 7), H)) fun x29 H =>
  bnd (some ((sl [0, 1, 4, 5, 6, 7, 8, 15, 9, 27] vs 7), H)) fun x30 H =>
  bnd (some ((sl [0, 1, 4, 5, 6, 7, 8, 15, 9, 27] vs 6), H)) fun x31 H =>
  bnd (pS (abin Try.prog .lss 3 x30 x31) H) fun x32 H =>
  bnd (some (x32, H)) fun x33 H =>
  bnd (gd (wantV x33 true) (some ((sl [0, 1, 4, 5, 6, 7, 8, 15, 9, 27] vs 0), H)) H) fun x34 H =>
  bnd (gd (wantV x33 true) (some ((sl [0, 1, 4, 5, 6, 7, 8, 15, 9, 27] vs 7), H)) H) fun x35 H =>
  bnd (gd (wantV x33 true) (iadS 1 x34 x35 H) H) fun x36 H =>
  bnd (gd (wantV x33 true) (pS (ld1 x36 H) H) H) fun x37 H =>
  bnd (gd (wantV x33 true) (some ((sl [0, 1, 4, 5, 6, 7, 8, 15, 9, 27] vs 1), H)) H) fun x38 H =>
  bnd (gd (wantV x33 true) (pS (abin Try.prog .eql 9 x37 x38) H) H) fun x39 H =>
  bnd (gd (wantV x33 true) (some (x39, H)) H) fun x40 H =>
  bnd (gd (wantV x40 false) (some ((sl [0, 1, 4, 5, 6, 7, 8, 15, 9, 27] vs 0), H)) H) fun x41 H =>
  bnd (gd (wantV x40 false) (some ((sl [0, 1, 4, 5, 6, 7, 8, 15, 9, 27] vs 7), H)) H) fun x42 H =>
  bnd (gd (wantV x40 false) (iadS 1 x41 x42 H) H) fun x43 H =>
  bnd (gd (wantV x40 false) (pS (ld1 x43 H) H) H) fun x44 H =>
  bnd (gd (wantV x40 false) (C 53 [x44] H) H) fun x45 H =>
  bnd (gd (wantV x40 false) (some (x45, H)) H) fun x46 H =>
  bnd (gd (wantV x46 true) (some ((sl [0, 1, 4, 5, 6, 7, 8, 15, 9, 27] vs 1), H)) H) fun x47 H =>
  bnd (gd (wantV x46 true) (C 53 [x47] H) H) fun x48 H =>
  bnd (gd (wantV x40 false) (pickS x46 x48 (Value.bool false) H) H) fun x49 H =>
  bnd (gd (wantV x33 true) (pickS x40 (Value.bool true) x49 H) H) fun x50 H =>
  bnd (pickS x33 x50 (Value.bool false) H) fun x51 H =>
  bnd (some (x29, H)) fun x52 H =>
  bnd (some (x51, H)) fun x53 H =>
  some (Value.tuple #[x52, x53], H)

noncomputable def F38_j1v (C : Oracle) (n : Nat) (v0 v1 v4 v5 v6 v7 v8 v15 v9 v27 : Value) (H : Heap) : Option (Value × Heap) :=
  bnd (some (v7, H)) fun x29 H =>
  bnd (some (v7, H)) fun x30 H =>
  bnd (some (v6, H)) fun x31 H =>
  bnd (pS (abin Try.prog .lss 3 x30 x31) H) fun x32 H =>
  bnd (some (x32, H)) fun x33 H =>
  bnd (gd (wantV x33 true) (some (v0, H)) H) fun x34 H =>
  bnd (gd (wantV x33 true) (some (v7, H)) H) fun x35 H =>
  bnd (gd (wantV x33 true) (iadS 1 x34 x35 H) H) fun x36 H =>
  bnd (gd (wantV x33 true) (pS (ld1 x36 H) H) H) fun x37 H =>
  bnd (gd (wantV x33 true) (some (v1, H)) H) fun x38 H =>
  bnd (gd (wantV x33 true) (pS (abin Try.prog .eql 9 x37 x38) H) H) fun x39 H =>
  bnd (gd (wantV x33 true) (some (x39, H)) H) fun x40 H =>
  bnd (gd (wantV x40 false) (some (v0, H)) H) fun x41 H =>
  bnd (gd (wantV x40 false) (some (v7, H)) H) fun x42 H =>
  bnd (gd (wantV x40 false) (iadS 1 x41 x42 H) H) fun x43 H =>
  bnd (gd (wantV x40 false) (pS (ld1 x43 H) H) H) fun x44 H =>
  bnd (gd (wantV x40 false) (C 53 [x44] H) H) fun x45 H =>
  bnd (gd (wantV x40 false) (some (x45, H)) H) fun x46 H =>
  bnd (gd (wantV x46 true) (some (v1, H)) H) fun x47 H =>
  bnd (gd (wantV x46 true) (C 53 [x47] H) H) fun x48 H =>
  bnd (gd (wantV x40 false) (pickS x46 x48 (Value.bool false) H) H) fun x49 H =>
  bnd (gd (wantV x33 true) (pickS x40 (Value.bool true) x49 H) H) fun x50 H =>
  bnd (pickS x33 x50 (Value.bool false) H) fun x51 H =>
  bnd (some (x29, H)) fun x52 H =>
  bnd (some (x51, H)) fun x53 H =>
  some (Value.tuple #[x52, x53], H)

theorem F38_j1_v (C : Oracle) (n : Nat) (v0 v1 v4 v5 v6 v7 v8 v15 v9 v27 : Value) (H : Heap) : F38_j1 C n [v0, v1, v4, v5, v6, v7, v8, v15, v9, v27] H = F38_j1v C n v0 v1 v4 v5 v6 v7 v8 v15 v9 v27 H := by
  kernel_rfl

noncomputable def F38 (C : Oracle) (n : Nat) (a0 a1 : Value) (H : Heap) : Option (Value × Heap) :=
  bnd (some ((Value.int .i64 (0)), H)) fun x0 H =>
  bnd (some ((Value.bool false), H)) fun x1 H =>
  bnd (some (a0, H)) fun x2 H =>
  bnd (pS (slen x2) H) fun x3 H =>
  bnd (some (x3, H)) fun x4 H =>
  bnd (some (x4, H)) fun x5 H =>
  bnd (some ((Value.int .i64 (0)), H)) fun x6 H =>
  bnd (some (x5, H)) fun x7 H =>
  onOut (iter n (F38_b0 C n) [a0, a1, x0, x1, x4, x6, x7, undef, undef, undef] H) (kBlk 0 (kSeq (F38_j1 C n) (kRet Try.prog [.tmp 4, .tmp 5] [0, 1, 4, 5, 6, 7, 8, 15, 9, 27])))

theorem F38_eq (G : Oracle) (n : Nat) (a0 a1 : Value) (H : Heap) : run G (n + 1) 38 [a0, a1] H = F38 (run G n) n a0 a1 H := by
  unfold run; rw [acall_k (fn := Try.f38) (keep := [0, 1, 4, 5, 6, 7, 8, 15, 9, 27]) (notBad 38 rfl) (by kernel_rfl) (by kernel_rfl)]
  kernel_rfl

noncomputable def F42 (C : Oracle) (n : Nat) (a0 : Value) (H : Heap) : Option (Value × Heap) :=
  bnd (some ((Value.bool false), H)) fun x0 H =>
  bnd (some ((Value.bool true), H)) fun x1 H =>
  some (x1, H)

theorem F42_eq (G : Oracle) (n : Nat) (a0 : Value) (H : Heap) : run G (n + 1) 42 [a0] H = F42 (run G n) n a0 H := by
  unfold run; rw [acall_k (fn := Try.f42) (keep := [0, 2]) (notBad 42 rfl) (by kernel_rfl) (by kernel_rfl)]
  kernel_rfl

noncomputable def F50 (C : Oracle) (n : Nat) (a0 : Value) (H : Heap) : Option (Value × Heap) :=
  bnd (some ((Value.slice none 0 0), H)) fun x0 H =>
  bnd (some (a0, H)) fun x1 H =>
  bnd (pS (abin Try.prog .eql 22 x1 (Value.slice none 0 0)) H) fun x2 H =>
  brB x2 (bnd (some ((Value.slice none 0 0), H)) fun x3 H =>
  some (x3, H)) (
  bnd (abuildSlice Try.prog 22 0 [] H) fun x4 H =>
  bnd (some (a0, H)) fun x5 H =>
  bnd (appS 2 1 8 x4 x5 H) fun x6 H =>
  bnd (some (x6, H)) fun x7 H =>
  some (x7, H))

theorem F50_eq (G : Oracle) (n : Nat) (a0 : Value) (H : Heap) : run G (n + 1) 50 [a0] H = F50 (run G n) n a0 H := by
  unfold run; rw [acall_k (fn := Try.f50) (keep := [0, 2, 4]) (notBad 50 rfl) (by kernel_rfl) (by kernel_rfl)]
  kernel_rfl

noncomputable def F53 (C : Oracle) (n : Nat) (a0 : Value) (H : Heap) : Option (Value × Heap) :=
  bnd (some ((Value.bool false), H)) fun x0 H =>
  bnd (some (a0, H)) fun x1 H =>
  bnd (some (a0, H)) fun x2 H =>
  bnd (pS (abin Try.prog .neq 9 x1 x2) H) fun x3 H =>
  bnd (some (x3, H)) fun x4 H =>
  some (x4, H)

theorem F53_eq (G : Oracle) (n : Nat) (a0 : Value) (H : Heap) : run G (n + 1) 53 [a0] H = F53 (run G n) n a0 H := by
  unfold run; rw [acall_k (fn := Try.f53) (keep := [0, 2]) (notBad 53 rfl) (by kernel_rfl) (by kernel_rfl)]
  kernel_rfl

noncomputable def F55 (C : Oracle) (n : Nat) (a0 a1 : Value) (H : Heap) : Option (Value × Heap) :=
  bnd (some (a0, H)) fun x0 H =>
  bnd (some (a0, H)) fun x1 H =>
  bnd (pS (slen x1) H) fun x2 H =>
  bnd (some (a1, H)) fun x3 H =>
  bnd (pS (abin Try.prog .sub 3 x2 x3) H) fun x4 H =>
  bnd (C 65 [x0, x4] H) fun x5 H =>
  some (Value.tuple #[], H)

theorem F55_eq (G : Oracle) (n : Nat) (a0 a1 : Value) (H : Heap) : run G (n + 1) 55 [a0, a1] H = F55 (run G n) n a0 a1 H := by
  unfold run; rw [acall_k (fn := Try.f55) (keep := [0, 1]) (notBad 55 rfl) (by kernel_rfl) (by kernel_rfl)]
  kernel_rfl

abbrev F58_st (v0 : Value := undef) (v1 : Value := undef) (v5 : Value := undef) (v2 : Value := undef) (v3 : Value := undef) (v24 : Value := undef) (v43 : Value := undef) : List Value := [v0, v1, v5, v2, v3, v24, v43]

noncomputable def F58_b0 (C : Oracle) (n : Nat) (vs : List Value) (H : Heap) : AOut :=
  bnd (some ((sl [0, 1, 5, 2, 3, 24, 43] vs 5), H)) fun x2 H =>
  bnd (pS (ld1 (sl [0, 1, 5, 2, 3, 24, 43] vs 2) H) H) fun x3 H =>
  bnd (nckS x3 H) fun x4 H =>
  bnd (fadS 0 x4 H) fun x5 H =>
  bnd (pS (ld1 x5 H) H) fun x6 H =>
  bnd (pS (slen x6) H) fun x7 H =>
  bnd (pS (abin Try.prog .lss 3 x2 x7) H) fun x8 H =>
  bnd (some (x8, H)) fun x9 H =>
  bnd (gd (wantV x9 true) (pS (ld1 (sl [0, 1, 5, 2, 3, 24, 43] vs 3) H) H) H) fun x10 H =>
  bnd (gd (wantV x9 true) (pS (ld1 (sl [0, 1, 5, 2, 3, 24, 43] vs 2) H) H) H) fun x11 H =>
  bnd (gd (wantV x9 true) (nckS x11 H) H) fun x12 H =>
  bnd (gd (wantV x9 true) (fadS 0 x12 H) H) fun x13 H =>
  bnd (gd (wantV x9 true) (pS (ld1 x13 H) H) H) fun x14 H =>
  bnd (gd (wantV x9 true) (some ((sl [0, 1, 5, 2, 3, 24, 43] vs 5), H)) H) fun x15 H =>
  bnd (gd (wantV x9 true) (iadS 1 x14 x15 H) H) fun x16 H =>
  bnd (gd (wantV x9 true) (pS (ld1 x16 H) H) H) fun x17 H =>
  bnd (gd (wantV x9 true) (dynC Try.prog.funcs.size C x10 [x17] H) H) fun x18 H =>
  bnd (pickS x9 x18 (Value.bool false) H) fun x19 H =>
  brB x19 (bnd (some ((sl [0, 1, 5, 2, 3, 24, 43] vs 0), H)) fun x20 H =>
  bnd (pS (ld1 (sl [0, 1, 5, 2, 3, 24, 43] vs 2) H) H) fun x21 H =>
  bnd (nckS x21 H) fun x22 H =>
  bnd (fadS 0 x22 H) fun x23 H =>
  bnd (pS (ld1 x23 H) H) fun x24 H =>
  bnd (some ((sl [0, 1, 5, 2, 3, 24, 43] vs 5), H)) fun x25 H =>
  bnd (iadS 1 x24 x25 H) fun x26 H =>
  bnd (pS (ld1 x26 H) H) fun x27 H =>
  bnd (pS (ld1 (sl [0, 1, 5, 2, 3, 24, 43] vs 2) H) H) fun x28 H =>
  bnd (nckS x28 H) fun x29 H =>
  bnd (fadS 1 x29 H) fun x30 H =>
  bnd (pS (ld1 x30 H) H) fun x31 H =>
  bnd (some ((sl [0, 1, 5, 2, 3, 24, 43] vs 5), H)) fun x32 H =>
  bnd (iadS 1 x31 x32 H) fun x33 H =>
  bnd (pS (ld1 x33 H) H) fun x34 H =>
  bnd (dynC Try.prog.funcs.size C x20 [x27, x34] H) fun x35 H =>
  bnd (pS (aun .not x35) H) fun x36 H =>
  brB x36 (fin .ret [(sl [0, 1, 5, 2, 3, 24, 43] vs 0), (sl [0, 1, 5, 2, 3, 24, 43] vs 1), (sl [0, 1, 5, 2, 3, 24, 43] vs 5), (sl [0, 1, 5, 2, 3, 24, 43] vs 2), (sl [0, 1, 5, 2, 3, 24, 43] vs 3), x19, x36] H) (
  bnd (some ((sl [0, 1, 5, 2, 3, 24, 43] vs 5), H)) fun x37 H =>
  bnd (pS (abin Try.prog .add 3 x37 (Value.int .i64 (1))) H) fun x38 H =>
  bnd (some (x38, H)) fun x39 H =>
  fin .normal [(sl [0, 1, 5, 2, 3, 24, 43] vs 0), (sl [0, 1, 5, 2, 3, 24, 43] vs 1), x39, (sl [0, 1, 5, 2, 3, 24, 43] vs 2), (sl [0, 1, 5, 2, 3, 24, 43] vs 3), x19, x36] H)) (
  fin (.exit 0) [(sl [0, 1, 5, 2, 3, 24, 43] vs 0), (sl [0, 1, 5, 2, 3, 24, 43] vs 1), (sl [0, 1, 5, 2, 3, 24, 43] vs 5), (sl [0, 1, 5, 2, 3, 24, 43] vs 2), (sl [0, 1, 5, 2, 3, 24, 43] vs 3), x19, (sl [0, 1, 5, 2, 3, 24, 43] vs 43)] H)

noncomputable def F58_b0v (C : Oracle) (n : Nat) (v0 v1 v5 v2 v3 v24 v43 : Value) (H : Heap) : AOut :=
  bnd (some (v5, H)) fun x2 H =>
  bnd (pS (ld1 v2 H) H) fun x3 H =>
  bnd (nckS x3 H) fun x4 H =>
  bnd (fadS 0 x4 H) fun x5 H =>
  bnd (pS (ld1 x5 H) H) fun x6 H =>
  bnd (pS (slen x6) H) fun x7 H =>
  bnd (pS (abin Try.prog .lss 3 x2 x7) H) fun x8 H =>
  bnd (some (x8, H)) fun x9 H =>
  bnd (gd (wantV x9 true) (pS (ld1 v3 H) H) H) fun x10 H =>
  bnd (gd (wantV x9 true) (pS (ld1 v2 H) H) H) fun x11 H =>
  bnd (gd (wantV x9 true) (nckS x11 H) H) fun x12 H =>
  bnd (gd (wantV x9 true) (fadS 0 x12 H) H) fun x13 H =>
  bnd (gd (wantV x9 true) (pS (ld1 x13 H) H) H) fun x14 H =>
  bnd (gd (wantV x9 true) (some (v5, H)) H) fun x15 H =>
  bnd (gd (wantV x9 true) (iadS 1 x14 x15 H) H) fun x16 H =>
  bnd (gd (wantV x9 true) (pS (ld1 x16 H) H) H) fun x17 H =>
  bnd (gd (wantV x9 true) (dynC Try.prog.funcs.size C x10 [x17] H) H) fun x18 H =>
  bnd (pickS x9 x18 (Value.bool false) H) fun x19 H =>
  brB x19 (bnd (some (v0, H)) fun x20 H =>
  bnd (pS (ld1 v2 H) H) fun x21 H =>
  bnd (nckS x21 H) fun x22 H =>
  bnd (fadS 0 x22 H) fun x23 H =>
  bnd (pS (ld1 x23 H) H) fun x24 H =>
  bnd (some (v5, H)) fun x25 H =>
  bnd (iadS 1 x24 x25 H) fun x26 H =>
  bnd (pS (ld1 x26 H) H) fun x27 H =>
  bnd (pS (ld1 v2 H) H) fun x28 H =>
  bnd (nckS x28 H) fun x29 H =>
  bnd (fadS 1 x29 H) fun x30 H =>
  bnd (pS (ld1 x30 H) H) fun x31 H =>
  bnd (some (v5, H)) fun x32 H =>
  bnd (iadS 1 x31 x32 H) fun x33 H =>
  bnd (pS (ld1 x33 H) H) fun x34 H =>
  bnd (dynC Try.prog.funcs.size C x20 [x27, x34] H) fun x35 H =>
  bnd (pS (aun .not x35) H) fun x36 H =>
  brB x36 (fin .ret [v0, v1, v5, v2, v3, x19, x36] H) (
  bnd (some (v5, H)) fun x37 H =>
  bnd (pS (abin Try.prog .add 3 x37 (Value.int .i64 (1))) H) fun x38 H =>
  bnd (some (x38, H)) fun x39 H =>
  fin .normal [v0, v1, x39, v2, v3, x19, x36] H)) (
  fin (.exit 0) [v0, v1, v5, v2, v3, x19, v43] H)

theorem F58_b0_v (C : Oracle) (n : Nat) (v0 v1 v5 v2 v3 v24 v43 : Value) (H : Heap) : F58_b0 C n [v0, v1, v5, v2, v3, v24, v43] H = F58_b0v C n v0 v1 v5 v2 v3 v24 v43 H := by
  kernel_rfl

noncomputable def F58 (C : Oracle) (n : Nat) (a0 a1 a2 a3 : Value) (H : Heap) : Option (Value × Heap) :=
  bnd (pS (ld1 a1 H) H) fun x0 H =>
  bnd (some (x0, H)) fun x1 H =>
  onOut (iter n (F58_b0 C n) [a0, a1, x1, a2, a3, undef, undef] H) (kBlk 0 (kRet Try.prog [] [0, 1, 5, 2, 3, 24, 43]))

theorem F58_eq (G : Oracle) (n : Nat) (a0 a1 a2 a3 : Value) (H : Heap) : run G (n + 1) 58 [a0, a1, a2, a3] H = F58 (run G n) n a0 a1 a2 a3 H := by
  unfold run; rw [acall_k (fn := Try.f58) (keep := [0, 1, 5, 2, 3, 24, 43]) (notBad 58 rfl) (by kernel_rfl) (by kernel_rfl)]
  kernel_rfl

noncomputable def F59 (C : Oracle) (n : Nat) (a0 a1 : Value) (H : Heap) : Option (Value × Heap) :=
  bnd (some ((Value.bool false), H)) fun x0 H =>
  bnd (some (a0, H)) fun x1 H =>
  bnd (C 67 [x1] H) fun x2 H =>
  bnd (some (x2, H)) fun x3 H =>
  bnd (gd (wantV x3 true) (some (a1, H)) H) fun x4 H =>
  bnd (gd (wantV x3 true) (C 67 [x4] H) H) fun x5 H =>
  bnd (gd (wantV x3 true) (pS (aun .not x5) H) H) fun x6 H =>
  bnd (pickS x3 x6 (Value.bool false) H) fun x7 H =>
  bnd (some (x7, H)) fun x8 H =>
  bnd (gd (wantV x8 false) (some (a0, H)) H) fun x9 H =>
  bnd (gd (wantV x8 false) (some (a1, H)) H) fun x10 H =>
  bnd (gd (wantV x8 false) (pS (abin Try.prog .lss 2 x9 x10) H) H) fun x11 H =>
  bnd (pickS x8 (Value.bool true) x11 H) fun x12 H =>
  bnd (some (x12, H)) fun x13 H =>
  some (x13, H)

theorem F59_eq (G : Oracle) (n : Nat) (a0 a1 : Value) (H : Heap) : run G (n + 1) 59 [a0, a1] H = F59 (run G n) n a0 a1 H := by
  unfold run; rw [acall_k (fn := Try.f59) (keep := [0, 1, 4]) (notBad 59 rfl) (by kernel_rfl) (by kernel_rfl)]
  kernel_rfl

abbrev F71_st (v0 : Value := undef) (v2 : Value := undef) (v3 : Value := undef) (v9 : Value := undef) : List Value := [v0, v2, v3, v9]

noncomputable def F71_b0 (C : Oracle) (n : Nat) (vs : List Value) (H : Heap) : AOut :=
  bnd (some ((sl [0, 2, 3, 9] vs 2), H)) fun x5 H =>
  bnd (some ((sl [0, 2, 3, 9] vs 3), H)) fun x6 H =>
  bnd (pS (abin Try.prog .lss 3 x5 x6) H) fun x7 H =>
  brB x7 (bnd (some ((sl [0, 2, 3, 9] vs 0), H)) fun x8 H =>
  bnd (some ((sl [0, 2, 3, 9] vs 2), H)) fun x9 H =>
  bnd (some ((sl [0, 2, 3, 9] vs 0), H)) fun x10 H =>
  bnd (some ((sl [0, 2, 3, 9] vs 3), H)) fun x11 H =>
  bnd (some ((sl [0, 2, 3, 9] vs 0), H)) fun x12 H =>
  bnd (some ((sl [0, 2, 3, 9] vs 3), H)) fun x13 H =>
  bnd (iadS 1 x12 x13 H) fun x14 H =>
  bnd (pS (ld1 x14 H) H) fun x15 H =>
  bnd (some ((sl [0, 2, 3, 9] vs 0), H)) fun x16 H =>
  bnd (some ((sl [0, 2, 3, 9] vs 2), H)) fun x17 H =>
  bnd (iadS 1 x16 x17 H) fun x18 H =>
  bnd (pS (ld1 x18 H) H) fun x19 H =>
  bnd (iadS 1 x8 x9 H) fun x20 H =>
  bnd (stS 1 x20 x15 H) fun x21 H =>
  bnd (iadS 1 x10 x11 H) fun x22 H =>
  bnd (stS 1 x22 x19 H) fun x23 H =>
  bnd (some ((sl [0, 2, 3, 9] vs 2), H)) fun x24 H =>
  bnd (pS (abin Try.prog .add 3 x24 (Value.int .i64 (1))) H) fun x25 H =>
  bnd (some ((sl [0, 2, 3, 9] vs 3), H)) fun x26 H =>
  bnd (pS (abin Try.prog .sub 3 x26 (Value.int .i64 (1))) H) fun x27 H =>
  bnd (some (x25, H)) fun x28 H =>
  bnd (some (x27, H)) fun x29 H =>
  fin .normal [(sl [0, 2, 3, 9] vs 0), x28, x29, x7] H) (
  fin (.exit 0) [(sl [0, 2, 3, 9] vs 0), (sl [0, 2, 3, 9] vs 2), (sl [0, 2, 3, 9] vs 3), x7] H)

noncomputable def F71_b0v (C : Oracle) (n : Nat) (v0 v2 v3 v9 : Value) (H : Heap) : AOut :=
  bnd (some (v2, H)) fun x5 H =>
  bnd (some (v3, H)) fun x6 H =>
  bnd (pS (abin Try.prog .lss 3 x5 x6) H) fun x7 H =>
  brB x7 (bnd (some (v0, H)) fun x8 H =>
  bnd (some (v2, H)) fun x9 H =>
  bnd (some (v0, H)) fun x10 H =>
  bnd (some (v3, H)) fun x11 H =>
  bnd (some (v0, H)) fun x12 H =>
  bnd (some (v3, H)) fun x13 H =>
  bnd (iadS 1 x12 x13 H) fun x14 H =>
  bnd (pS (ld1 x14 H) H) fun x15 H =>
  bnd (some (v0, H)) fun x16 H =>
  bnd (some (v2, H)) fun x17 H =>
  bnd (iadS 1 x16 x17 H) fun x18 H =>
  bnd (pS (ld1 x18 H) H) fun x19 H =>
  bnd (iadS 1 x8 x9 H) fun x20 H =>
  bnd (stS 1 x20 x15 H) fun x21 H =>
  bnd (iadS 1 x10 x11 H) fun x22 H =>
  bnd (stS 1 x22 x19 H) fun x23 H =>
  bnd (some (v2, H)) fun x24 H =>
  bnd (pS (abin Try.prog .add 3 x24 (Value.int .i64 (1))) H) fun x25 H =>
  bnd (some (v3, H)) fun x26 H =>
  bnd (pS (abin Try.prog .sub 3 x26 (Value.int .i64 (1))) H) fun x27 H =>
  bnd (some (x25, H)) fun x28 H =>
  bnd (some (x27, H)) fun x29 H =>
  fin .normal [v0, x28, x29, x7] H) (
  fin (.exit 0) [v0, v2, v3, x7] H)

theorem F71_b0_v (C : Oracle) (n : Nat) (v0 v2 v3 v9 : Value) (H : Heap) : F71_b0 C n [v0, v2, v3, v9] H = F71_b0v C n v0 v2 v3 v9 H := by
  kernel_rfl

noncomputable def F71 (C : Oracle) (n : Nat) (a0 : Value) (H : Heap) : Option (Value × Heap) :=
  bnd (some (a0, H)) fun x0 H =>
  bnd (pS (slen x0) H) fun x1 H =>
  bnd (pS (abin Try.prog .sub 3 x1 (Value.int .i64 (1))) H) fun x2 H =>
  bnd (some ((Value.int .i64 (0)), H)) fun x3 H =>
  bnd (some (x2, H)) fun x4 H =>
  onOut (iter n (F71_b0 C n) [a0, x3, x4, undef] H) (kBlk 0 (kRet Try.prog [] [0, 2, 3, 9]))

theorem F71_eq (G : Oracle) (n : Nat) (a0 : Value) (H : Heap) : run G (n + 1) 71 [a0] H = F71 (run G n) n a0 H := by
  unfold run; rw [acall_k (fn := Try.f71) (keep := [0, 2, 3, 9]) (notBad 71 rfl) (by kernel_rfl) (by kernel_rfl)]
  kernel_rfl


end Go.Proofs.Ytdgolnenpnkjbaa.Fun
