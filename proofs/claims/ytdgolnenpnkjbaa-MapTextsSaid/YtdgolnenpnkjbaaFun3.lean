/- The program's functions as plain terms, each with its equation; printed by wip/am/fun.py. -/
import Derived.Test.YtdgolnenpnkjbaaFunK
namespace Go.Proofs.Ytdgolnenpnkjbaa.Fun
open Go.RowKit Go.Proofs.YtdgolnenpnkjbaaA.Am
set_option linter.unusedVariables false
set_option maxRecDepth 10000
noncomputable def F18 (C : Oracle) (n : Nat) (a0 a1 : Value) (H : Heap) : Option (Value × Heap) :=
  bnd (some ((Value.bool false), H)) fun x0 H =>
  bnd (some ((Value.bool false), H)) fun x1 H =>
  bnd (some (a0, H)) fun x2 H =>
  bnd (some (a1, H)) fun x3 H =>
  bnd (C 43 [x2, x3] H) fun x4 H =>
  bnd (some (x4, H)) fun x5 H =>
  bnd (extS 0 x5 H) fun x6 H =>
  bnd (extS 1 x5 H) fun x7 H =>
  bnd (extS 2 x5 H) fun x8 H =>
  bnd (some (x6, H)) fun x9 H =>
  bnd (some (x7, H)) fun x10 H =>
  bnd (some (x8, H)) fun x11 H =>
  bnd (some (x10, H)) fun x12 H =>
  bnd (some (x11, H)) fun x13 H =>
  bnd (some (x12, H)) fun x14 H =>
  bnd (some (x13, H)) fun x15 H =>
  some (Value.tuple #[x14, x15], H)

theorem F18_eq (G : Oracle) (n : Nat) (a0 a1 : Value) (H : Heap) : run G (n + 1) 18 [a0, a1] H = F18 (run G n) n a0 a1 H := by
  unfold run; rw [acall_k (fn := Try.f18) (keep := [0, 1, 4, 5, 7, 8]) (notBad 18 rfl) (by kernel_rfl) (by kernel_rfl)]
  kernel_rfl

noncomputable def F20 (C : Oracle) (n : Nat) (a0 a1 a2 : Value) (H : Heap) : Option (Value × Heap) :=
  bnd (some ((Value.int .i64 (0)), H)) fun x0 H =>
  bnd (some ((Value.bool false), H)) fun x1 H =>
  bnd (some (a0, H)) fun x2 H =>
  bnd (nckS x2 H) fun x3 H =>
  bnd (fadS 0 x3 H) fun x4 H =>
  bnd (pS (ld1 x4 H) H) fun x5 H =>
  bnd (some (a1, H)) fun x6 H =>
  bnd (C 44 [x5, x6] H) fun x7 H =>
  bnd (some (x7, H)) fun x8 H =>
  bnd (extS 0 x8 H) fun x9 H =>
  bnd (extS 1 x8 H) fun x10 H =>
  bnd (some (x9, H)) fun x11 H =>
  bnd (some (x10, H)) fun x12 H =>
  bnd (some (x12, H)) fun x13 H =>
  brB x13 (bnd (some (a0, H)) fun x14 H =>
  bnd (nckS x14 H) fun x15 H =>
  bnd (fadS 1 x15 H) fun x16 H =>
  bnd (pS (ld1 x16 H) H) fun x17 H =>
  bnd (some (x11, H)) fun x18 H =>
  bnd (iadS 1 x17 x18 H) fun x19 H =>
  bnd (pS (ld1 x19 H) H) fun x20 H =>
  bnd (some (x20, H)) fun x21 H =>
  bnd (some (a0, H)) fun x22 H =>
  bnd (nckS x22 H) fun x23 H =>
  bnd (fadS 1 x23 H) fun x24 H =>
  bnd (pS (ld1 x24 H) H) fun x25 H =>
  bnd (some (x11, H)) fun x26 H =>
  bnd (some (a2, H)) fun x27 H =>
  bnd (iadS 1 x25 x26 H) fun x28 H =>
  bnd (stS 1 x28 x27 H) fun x29 H =>
  bnd (some (x21, H)) fun x30 H =>
  bnd (some (x30, H)) fun x31 H =>
  bnd (some ((Value.bool true), H)) fun x32 H =>
  some (Value.tuple #[x31, x32], H)) (
  holesK 1 H fun hb H =>
  bnd (some (a0, H)) fun x33 Hx33 =>
  bnd (some (a0, Hx33)) fun x34 Hx34 =>
  bnd (some (a0, Hx34)) fun x35 Hx35 =>
  bnd (nckS x35 Hx35) fun x36 Hx36 =>
  bnd (fadS 0 x36 Hx36) fun x37 Hx37 =>
  bnd (pS (ld1 x37 Hx37) Hx37) fun x38 Hx38 =>
  bnd (some (x11, Hx38)) fun x39 Hx39 =>
  bnd (some (a1, Hx39)) fun x40 Hx40 =>
  bnd (abuildSlice Try.prog 22 1 [(0, x40)] Hx40) fun x41 Hx41 =>
  bnd (C 45 [x38, x39, x41] Hx41) fun x42 Hx42 =>
  bnd (some (a0, Hx42)) fun x43 Hx43 =>
  bnd (nckS x43 Hx43) fun x44 Hx44 =>
  bnd (fadS 1 x44 Hx44) fun x45 Hx45 =>
  bnd (pS (ld1 x45 Hx45) Hx45) fun x46 Hx46 =>
  bnd (some (x11, Hx46)) fun x47 Hx47 =>
  bnd (some (a2, Hx47)) fun x48 Hx48 =>
  bnd (layV (hb + 0) (bsB Try.prog 22 1 [(0, x48)]) Hx48) fun x49 Hx49 =>
  bnd (C 45 [x46, x47, x49] Hx49) fun x50 Hx50 =>
  bnd (nckS x33 Hx50) fun x51 Hx51 =>
  bnd (fadS 0 x51 Hx51) fun x52 Hx52 =>
  bnd (stS 1 x52 x42 Hx52) fun x53 Hx53 =>
  bnd (nckS x34 Hx53) fun x54 Hx54 =>
  bnd (fadS 1 x54 Hx54) fun x55 Hx55 =>
  bnd (stS 1 x55 x50 Hx55) fun x56 Hx56 =>
  (fun H => if (cfS (some true) (some true) (pS (ld1 x37 Hx37) Hx37) (pS (ld1 x37 Hx40) Hx40) (pS (ld1 x37 Hx41) Hx41) && (cfS (some true) (some true) (pS (ld1 x37 Hx37) Hx37) (pS (ld1 x37 Hx48) Hx48) (pS (ld1 x37 Hx49) Hx49) && (cfS (some true) (some true) (pS (ld1 x45 Hx45) Hx45) (pS (ld1 x45 Hx40) Hx40) (pS (ld1 x45 Hx41) Hx41) && (cfS (some true) (some true) (pS (ld1 x45 Hx45) Hx45) (pS (ld1 x45 Hx41) Hx41) (pS (ld1 x45 Hx42) Hx42) && (cfS (some true) (some true) (pS (ld1 x45 Hx45) Hx45) (pS (ld1 x45 Hx48) Hx48) (pS (ld1 x45 Hx49) Hx49) && true))))) = true then
  bnd (some ((Value.int .i64 (0)), H)) fun x57 H =>
  bnd (some (x57, H)) fun x58 H =>
  bnd (some (x58, H)) fun x59 H =>
  bnd (some ((Value.bool false), H)) fun x60 H =>
  some (Value.tuple #[x59, x60], H) else none) Hx56)

theorem F20_eq (G : Oracle) (n : Nat) (a0 a1 a2 : Value) (H : Heap) : run G (n + 1) 20 [a0, a1, a2] H = F20 (run G n) n a0 a1 a2 H := by
  unfold run; rw [acall_k (fn := Try.f20) (keep := [0, 1, 2, 6, 7, 9, 21, 8, 10, 11]) (notBad 20 rfl) (by kernel_rfl) (by kernel_rfl)]
  kernel_rfl

noncomputable def F22 (C : Oracle) (n : Nat) (a0 : Value) (H : Heap) : Option (Value × Heap) :=
  bnd (some ((Value.int .i64 (0)), H)) fun x0 H =>
  bnd (some (a0, H)) fun x1 H =>
  bnd (nckS x1 H) fun x2 H =>
  bnd (fadS 0 x2 H) fun x3 H =>
  bnd (pS (ld1 x3 H) H) fun x4 H =>
  bnd (pS (slen x4) H) fun x5 H =>
  bnd (some (x5, H)) fun x6 H =>
  some (x6, H)

theorem F22_eq (G : Oracle) (n : Nat) (a0 : Value) (H : Heap) : run G (n + 1) 22 [a0] H = F22 (run G n) n a0 H := by
  unfold run; rw [acall_k (fn := Try.f22) (keep := [0, 2]) (notBad 22 rfl) (by kernel_rfl) (by kernel_rfl)]
  kernel_rfl

abbrev F23_st (v0 : Value := undef) (v1 : Value := undef) (v2 : Value := undef) (v6 : Value := undef) (v8 : Value := undef) (v12 : Value := undef) (v30 : Value := undef) (v7 : Value := undef) : List Value := [v0, v1, v2, v6, v8, v12, v30, v7]

noncomputable def F23_j1 (C : Oracle) (n : Nat) (vs : List Value) (H : Heap) : AOut :=
  bnd (some ((sl [0, 1, 2, 6, 8, 12, 30, 7] vs 8), H)) fun x7 H =>
  bnd (pS (abin Try.prog .add 3 x7 (Value.int .i64 (1))) H) fun x8 H =>
  bnd (some (x8, H)) fun x9 H =>
  fin .normal [(sl [0, 1, 2, 6, 8, 12, 30, 7] vs 0), (sl [0, 1, 2, 6, 8, 12, 30, 7] vs 1), (sl [0, 1, 2, 6, 8, 12, 30, 7] vs 2), (sl [0, 1, 2, 6, 8, 12, 30, 7] vs 6), x9, (sl [0, 1, 2, 6, 8, 12, 30, 7] vs 12), (sl [0, 1, 2, 6, 8, 12, 30, 7] vs 30), (sl [0, 1, 2, 6, 8, 12, 30, 7] vs 7)] H

noncomputable def F23_j1v (C : Oracle) (n : Nat) (v0 v1 v2 v6 v8 v12 v30 v7 : Value) (H : Heap) : AOut :=
  bnd (some (v8, H)) fun x7 H =>
  bnd (pS (abin Try.prog .add 3 x7 (Value.int .i64 (1))) H) fun x8 H =>
  bnd (some (x8, H)) fun x9 H =>
  fin .normal [v0, v1, v2, v6, x9, v12, v30, v7] H

theorem F23_j1_v (C : Oracle) (n : Nat) (v0 v1 v2 v6 v8 v12 v30 v7 : Value) (H : Heap) : F23_j1 C n [v0, v1, v2, v6, v8, v12, v30, v7] H = F23_j1v C n v0 v1 v2 v6 v8 v12 v30 v7 H := by
  kernel_rfl

noncomputable def F23_b0 (C : Oracle) (n : Nat) (vs : List Value) (H : Heap) : AOut :=
  bnd (some ((sl [0, 1, 2, 6, 8, 12, 30, 7] vs 8), H)) fun x3 H =>
  bnd (some ((sl [0, 1, 2, 6, 8, 12, 30, 7] vs 0), H)) fun x4 H =>
  bnd (pS (slen x4) H) fun x5 H =>
  bnd (pS (abin Try.prog .lss 3 x3 x5) H) fun x6 H =>
  brB x6 (bnd (some ((sl [0, 1, 2, 6, 8, 12, 30, 7] vs 0), H)) fun x10 H =>
  bnd (some ((sl [0, 1, 2, 6, 8, 12, 30, 7] vs 8), H)) fun x11 H =>
  bnd (iadS 2 x10 x11 H) fun x12 H =>
  bnd (fadS 0 x12 H) fun x13 H =>
  bnd (pS (ld1 x13 H) H) fun x14 H =>
  bnd (some ((sl [0, 1, 2, 6, 8, 12, 30, 7] vs 1), H)) fun x15 H =>
  bnd (pS (abin Try.prog .geq 2 x14 x15) H) fun x16 H =>
  bnd (some (x16, H)) fun x17 H =>
  bnd (gd (wantV x17 true) (some ((sl [0, 1, 2, 6, 8, 12, 30, 7] vs 0), H)) H) fun x18 H =>
  bnd (gd (wantV x17 true) (some ((sl [0, 1, 2, 6, 8, 12, 30, 7] vs 8), H)) H) fun x19 H =>
  bnd (gd (wantV x17 true) (iadS 2 x18 x19 H) H) fun x20 H =>
  bnd (gd (wantV x17 true) (fadS 0 x20 H) H) fun x21 H =>
  bnd (gd (wantV x17 true) (pS (ld1 x21 H) H) H) fun x22 H =>
  bnd (gd (wantV x17 true) (some ((sl [0, 1, 2, 6, 8, 12, 30, 7] vs 2), H)) H) fun x23 H =>
  bnd (gd (wantV x17 true) (pS (abin Try.prog .leq 2 x22 x23) H) H) fun x24 H =>
  bnd (pickS x17 x24 (Value.bool false) H) fun x25 H =>
  brB x25 (bnd (some ((sl [0, 1, 2, 6, 8, 12, 30, 7] vs 7), H)) fun x26 H =>
  bnd (some ((sl [0, 1, 2, 6, 8, 12, 30, 7] vs 0), H)) fun x27 H =>
  bnd (some ((sl [0, 1, 2, 6, 8, 12, 30, 7] vs 8), H)) fun x28 H =>
  bnd (iadS 2 x27 x28 H) fun x29 H =>
  bnd (pS (ldn 2 x29 H) H) fun x30 H =>
  bnd (abuildSlice Try.prog 51 1 [(0, x30)] H) fun x31 H =>
  bnd (appS 53 2 16 x26 x31 H) fun x32 H =>
  bnd (some (x32, H)) fun x33 H =>
  F23_j1 C n [(sl [0, 1, 2, 6, 8, 12, 30, 7] vs 0), (sl [0, 1, 2, 6, 8, 12, 30, 7] vs 1), (sl [0, 1, 2, 6, 8, 12, 30, 7] vs 2), (sl [0, 1, 2, 6, 8, 12, 30, 7] vs 6), (sl [0, 1, 2, 6, 8, 12, 30, 7] vs 8), x6, x25, x33] H) (
  F23_j1 C n [(sl [0, 1, 2, 6, 8, 12, 30, 7] vs 0), (sl [0, 1, 2, 6, 8, 12, 30, 7] vs 1), (sl [0, 1, 2, 6, 8, 12, 30, 7] vs 2), (sl [0, 1, 2, 6, 8, 12, 30, 7] vs 6), (sl [0, 1, 2, 6, 8, 12, 30, 7] vs 8), x6, x25, (sl [0, 1, 2, 6, 8, 12, 30, 7] vs 7)] H)) (
  fin (.exit 0) [(sl [0, 1, 2, 6, 8, 12, 30, 7] vs 0), (sl [0, 1, 2, 6, 8, 12, 30, 7] vs 1), (sl [0, 1, 2, 6, 8, 12, 30, 7] vs 2), (sl [0, 1, 2, 6, 8, 12, 30, 7] vs 6), (sl [0, 1, 2, 6, 8, 12, 30, 7] vs 8), x6, (sl [0, 1, 2, 6, 8, 12, 30, 7] vs 30), (sl [0, 1, 2, 6, 8, 12, 30, 7] vs 7)] H)

noncomputable def F23_b0v (C : Oracle) (n : Nat) (v0 v1 v2 v6 v8 v12 v30 v7 : Value) (H : Heap) : AOut :=
  bnd (some (v8, H)) fun x3 H =>
  bnd (some (v0, H)) fun x4 H =>
  bnd (pS (slen x4) H) fun x5 H =>
  bnd (pS (abin Try.prog .lss 3 x3 x5) H) fun x6 H =>
  brB x6 (bnd (some (v0, H)) fun x10 H =>
  bnd (some (v8, H)) fun x11 H =>
  bnd (iadS 2 x10 x11 H) fun x12 H =>
  bnd (fadS 0 x12 H) fun x13 H =>
  bnd (pS (ld1 x13 H) H) fun x14 H =>
  bnd (some (v1, H)) fun x15 H =>
  bnd (pS (abin Try.prog .geq 2 x14 x15) H) fun x16 H =>
  bnd (some (x16, H)) fun x17 H =>
  bnd (gd (wantV x17 true) (some (v0, H)) H) fun x18 H =>
  bnd (gd (wantV x17 true) (some (v8, H)) H) fun x19 H =>
  bnd (gd (wantV x17 true) (iadS 2 x18 x19 H) H) fun x20 H =>
  bnd (gd (wantV x17 true) (fadS 0 x20 H) H) fun x21 H =>
  bnd (gd (wantV x17 true) (pS (ld1 x21 H) H) H) fun x22 H =>
  bnd (gd (wantV x17 true) (some (v2, H)) H) fun x23 H =>
  bnd (gd (wantV x17 true) (pS (abin Try.prog .leq 2 x22 x23) H) H) fun x24 H =>
  bnd (pickS x17 x24 (Value.bool false) H) fun x25 H =>
  brB x25 (bnd (some (v7, H)) fun x26 H =>
  bnd (some (v0, H)) fun x27 H =>
  bnd (some (v8, H)) fun x28 H =>
  bnd (iadS 2 x27 x28 H) fun x29 H =>
  bnd (pS (ldn 2 x29 H) H) fun x30 H =>
  bnd (abuildSlice Try.prog 51 1 [(0, x30)] H) fun x31 H =>
  bnd (appS 53 2 16 x26 x31 H) fun x32 H =>
  bnd (some (x32, H)) fun x33 H =>
  F23_j1 C n [v0, v1, v2, v6, v8, x6, x25, x33] H) (
  F23_j1 C n [v0, v1, v2, v6, v8, x6, x25, v7] H)) (
  fin (.exit 0) [v0, v1, v2, v6, v8, x6, v30, v7] H)

theorem F23_b0_v (C : Oracle) (n : Nat) (v0 v1 v2 v6 v8 v12 v30 v7 : Value) (H : Heap) : F23_b0 C n [v0, v1, v2, v6, v8, v12, v30, v7] H = F23_b0v C n v0 v1 v2 v6 v8 v12 v30 v7 H := by
  kernel_rfl

noncomputable def F23_j2 (C : Oracle) (n : Nat) (vs : List Value) (H : Heap) : Option (Value × Heap) :=
  bnd (some ((sl [0, 1, 2, 6, 8, 12, 30, 7] vs 7), H)) fun x34 H =>
  bnd (some (x34, H)) fun x35 H =>
  some (x35, H)

noncomputable def F23_j2v (C : Oracle) (n : Nat) (v0 v1 v2 v6 v8 v12 v30 v7 : Value) (H : Heap) : Option (Value × Heap) :=
  bnd (some (v7, H)) fun x34 H =>
  bnd (some (x34, H)) fun x35 H =>
  some (x35, H)

theorem F23_j2_v (C : Oracle) (n : Nat) (v0 v1 v2 v6 v8 v12 v30 v7 : Value) (H : Heap) : F23_j2 C n [v0, v1, v2, v6, v8, v12, v30, v7] H = F23_j2v C n v0 v1 v2 v6 v8 v12 v30 v7 H := by
  kernel_rfl

noncomputable def F23 (C : Oracle) (n : Nat) (a0 a1 a2 : Value) (H : Heap) : Option (Value × Heap) :=
  bnd (some ((Value.slice none 0 0), H)) fun x0 H =>
  bnd (some ((Value.slice none 0 0), H)) fun x1 H =>
  bnd (some ((Value.int .i64 (0)), H)) fun x2 H =>
  onOut (iter n (F23_b0 C n) [a0, a1, a2, x0, x2, undef, undef, x1] H) (kBlk 0 (kSeq (F23_j2 C n) (kRet Try.prog [.tmp 6] [0, 1, 2, 6, 8, 12, 30, 7])))

theorem F23_eq (G : Oracle) (n : Nat) (a0 a1 a2 : Value) (H : Heap) : run G (n + 1) 23 [a0, a1, a2] H = F23 (run G n) n a0 a1 a2 H := by
  unfold run; rw [acall_k (fn := Try.f23) (keep := [0, 1, 2, 6, 8, 12, 30, 7]) (notBad 23 rfl) (by kernel_rfl) (by kernel_rfl)]
  kernel_rfl

abbrev F24_st (v0 : Value := undef) (v1 : Value := undef) (v4 : Value := undef) (v5 : Value := undef) (v10 : Value := undef) : List Value := [v0, v1, v4, v5, v10]

noncomputable def F24_j0 (C : Oracle) (n : Nat) (vs : List Value) (H : Heap) : Option (Value × Heap) :=
  bnd (some ((sl [0, 1, 4, 5, 10] vs 5), H)) fun x5 H =>
  bnd (some (x5, H)) fun x6 H =>
  some (x6, H)

noncomputable def F24_j0v (C : Oracle) (n : Nat) (v0 v1 v4 v5 v10 : Value) (H : Heap) : Option (Value × Heap) :=
  bnd (some (v5, H)) fun x5 H =>
  bnd (some (x5, H)) fun x6 H =>
  some (x6, H)

theorem F24_j0_v (C : Oracle) (n : Nat) (v0 v1 v4 v5 v10 : Value) (H : Heap) : F24_j0 C n [v0, v1, v4, v5, v10] H = F24_j0v C n v0 v1 v4 v5 v10 H := by
  kernel_rfl

noncomputable def F24 (C : Oracle) (n : Nat) (a0 a1 : Value) (H : Heap) : Option (Value × Heap) :=
  bnd (some ((Value.int .i64 (0)), H)) fun x0 H =>
  bnd (some (a0, H)) fun x1 H =>
  bnd (some (a1, H)) fun x2 H =>
  bnd (pS (abin Try.prog .rem 3 x1 x2) H) fun x3 H =>
  bnd (some (x3, H)) fun x4 H =>
  bnd (some (x4, H)) fun x7 H =>
  bnd (pS (abin Try.prog .lss 3 x7 (Value.int .i64 (0))) H) fun x8 H =>
  brB x8 (bnd (some (x4, H)) fun x9 H =>
  bnd (some (a1, H)) fun x10 H =>
  bnd (pS (abin Try.prog .add 3 x9 x10) H) fun x11 H =>
  bnd (some (x11, H)) fun x12 H =>
  F24_j0 C n [a0, a1, x0, x12, x8] H) (
  F24_j0 C n [a0, a1, x0, x4, x8] H)

theorem F24_eq (G : Oracle) (n : Nat) (a0 a1 : Value) (H : Heap) : run G (n + 1) 24 [a0, a1] H = F24 (run G n) n a0 a1 H := by
  unfold run; rw [acall_k (fn := Try.f24) (keep := [0, 1, 4, 5, 10]) (notBad 24 rfl) (by kernel_rfl) (by kernel_rfl)]
  kernel_rfl

noncomputable def F27 (C : Oracle) (n : Nat) (a0 a1 : Value) (H : Heap) : Option (Value × Heap) :=
  bnd (some ((Value.int .i64 (0)), H)) fun x0 H =>
  bnd (some ((Value.bool false), H)) fun x1 H =>
  bnd (some (a0, H)) fun x2 H =>
  bnd (nckS x2 H) fun x3 H =>
  bnd (fadS 0 x3 H) fun x4 H =>
  bnd (pS (ld1 x4 H) H) fun x5 H =>
  bnd (some (a1, H)) fun x6 H =>
  bnd (C 44 [x5, x6] H) fun x7 H =>
  bnd (some (x7, H)) fun x8 H =>
  bnd (extS 0 x8 H) fun x9 H =>
  bnd (extS 1 x8 H) fun x10 H =>
  bnd (some (x9, H)) fun x11 H =>
  bnd (some (x10, H)) fun x12 H =>
  bnd (some (x12, H)) fun x13 H =>
  bnd (pS (aun .not x13) H) fun x14 H =>
  brB x14 (bnd (some ((Value.int .i64 (0)), H)) fun x15 H =>
  bnd (some (x15, H)) fun x16 H =>
  bnd (some (x16, H)) fun x17 H =>
  bnd (some ((Value.bool false), H)) fun x18 H =>
  some (Value.tuple #[x17, x18], H)) (
  bnd (some (a0, H)) fun x19 H =>
  bnd (nckS x19 H) fun x20 H =>
  bnd (fadS 1 x20 H) fun x21 H =>
  bnd (pS (ld1 x21 H) H) fun x22 H =>
  bnd (some (x11, H)) fun x23 H =>
  bnd (iadS 1 x22 x23 H) fun x24 H =>
  bnd (pS (ld1 x24 H) H) fun x25 H =>
  bnd (some (x25, H)) fun x26 H =>
  bnd (some (a0, H)) fun x27 Hx27 =>
  bnd (some (a0, Hx27)) fun x28 Hx28 =>
  bnd (some (a0, Hx28)) fun x29 Hx29 =>
  bnd (nckS x29 Hx29) fun x30 Hx30 =>
  bnd (fadS 0 x30 Hx30) fun x31 Hx31 =>
  bnd (pS (ld1 x31 Hx31) Hx31) fun x32 Hx32 =>
  bnd (some (x11, Hx32)) fun x33 Hx33 =>
  bnd (some (x11, Hx33)) fun x34 Hx34 =>
  bnd (pS (abin Try.prog .add 3 x34 (Value.int .i64 (1))) Hx34) fun x35 Hx35 =>
  bnd (C 48 [x32, x33, x35] Hx35) fun x36 Hx36 =>
  bnd (some (a0, Hx36)) fun x37 Hx37 =>
  bnd (nckS x37 Hx37) fun x38 Hx38 =>
  bnd (fadS 1 x38 Hx38) fun x39 Hx39 =>
  bnd (pS (ld1 x39 Hx39) Hx39) fun x40 Hx40 =>
  bnd (some (x11, Hx40)) fun x41 Hx41 =>
  bnd (some (x11, Hx41)) fun x42 Hx42 =>
  bnd (pS (abin Try.prog .add 3 x42 (Value.int .i64 (1))) Hx42) fun x43 Hx43 =>
  bnd (C 48 [x40, x41, x43] Hx43) fun x44 Hx44 =>
  bnd (nckS x27 Hx44) fun x45 Hx45 =>
  bnd (fadS 0 x45 Hx45) fun x46 Hx46 =>
  bnd (stS 1 x46 x36 Hx46) fun x47 Hx47 =>
  bnd (nckS x28 Hx47) fun x48 Hx48 =>
  bnd (fadS 1 x48 Hx48) fun x49 Hx49 =>
  bnd (stS 1 x49 x44 Hx49) fun x50 Hx50 =>
  (fun H => if (cfS (some true) (some true) (pS (ld1 x39 Hx39) Hx39) (pS (ld1 x39 Hx35) Hx35) (pS (ld1 x39 Hx36) Hx36) && true) = true then
  bnd (some (x26, H)) fun x51 H =>
  bnd (some (x51, H)) fun x52 H =>
  bnd (some ((Value.bool true), H)) fun x53 H =>
  some (Value.tuple #[x52, x53], H) else none) Hx50)

theorem F27_eq (G : Oracle) (n : Nat) (a0 a1 : Value) (H : Heap) : run G (n + 1) 27 [a0, a1] H = F27 (run G n) n a0 a1 H := by
  unfold run; rw [acall_k (fn := Try.f27) (keep := [0, 1, 4, 5, 7, 20, 8, 6, 9]) (notBad 27 rfl) (by kernel_rfl) (by kernel_rfl)]
  kernel_rfl

noncomputable def F35 (C : Oracle) (n : Nat) (a0 a1 : Value) (H : Heap) : Option (Value × Heap) :=
  bnd (some ((Value.int .i64 (0)), H)) fun x0 H =>
  bnd (some ((Value.int .i64 (0)), H)) fun x1 H =>
  bnd (some ((Value.bool false), H)) fun x2 H =>
  bnd (some (a1, H)) fun x3 H =>
  bnd (pS (abin Try.prog .lss 3 x3 (Value.int .i64 (0))) H) fun x4 H =>
  bnd (some (x4, H)) fun x5 H =>
  bnd (gd (wantV x5 false) (some (a1, H)) H) fun x6 H =>
  bnd (gd (wantV x5 false) (some (a0, H)) H) fun x7 H =>
  bnd (gd (wantV x5 false) (nckS x7 H) H) fun x8 H =>
  bnd (gd (wantV x5 false) (fadS 0 x8 H) H) fun x9 H =>
  bnd (gd (wantV x5 false) (pS (ld1 x9 H) H) H) fun x10 H =>
  bnd (gd (wantV x5 false) (pS (slen x10) H) H) fun x11 H =>
  bnd (gd (wantV x5 false) (pS (abin Try.prog .geq 3 x6 x11) H) H) fun x12 H =>
  bnd (pickS x5 (Value.bool true) x12 H) fun x13 H =>
  brB x13 (bnd (some ((Value.int .i64 (0)), H)) fun x14 H =>
  bnd (some ((Value.int .i64 (0)), H)) fun x15 H =>
  bnd (some (x14, H)) fun x16 H =>
  bnd (some (x15, H)) fun x17 H =>
  bnd (some (x16, H)) fun x18 H =>
  bnd (some (x17, H)) fun x19 H =>
  bnd (some ((Value.bool false), H)) fun x20 H =>
  some (Value.tuple #[x18, x19, x20], H)) (
  bnd (some (a0, H)) fun x21 H =>
  bnd (nckS x21 H) fun x22 H =>
  bnd (fadS 0 x22 H) fun x23 H =>
  bnd (pS (ld1 x23 H) H) fun x24 H =>
  bnd (some (a1, H)) fun x25 H =>
  bnd (iadS 1 x24 x25 H) fun x26 H =>
  bnd (pS (ld1 x26 H) H) fun x27 H =>
  bnd (some (a0, H)) fun x28 H =>
  bnd (nckS x28 H) fun x29 H =>
  bnd (fadS 1 x29 H) fun x30 H =>
  bnd (pS (ld1 x30 H) H) fun x31 H =>
  bnd (some (a1, H)) fun x32 H =>
  bnd (iadS 1 x31 x32 H) fun x33 H =>
  bnd (pS (ld1 x33 H) H) fun x34 H =>
  bnd (some (x27, H)) fun x35 H =>
  bnd (some (x34, H)) fun x36 H =>
  bnd (some ((Value.bool true), H)) fun x37 H =>
  some (Value.tuple #[x35, x36, x37], H))

theorem F35_eq (G : Oracle) (n : Nat) (a0 a1 : Value) (H : Heap) : run G (n + 1) 35 [a0, a1] H = F35 (run G n) n a0 a1 H := by
  unfold run; rw [acall_k (fn := Try.f35) (keep := [0, 1, 4, 5, 6, 19, 7, 8]) (notBad 35 rfl) (by kernel_rfl) (by kernel_rfl)]
  kernel_rfl

noncomputable def F37 (C : Oracle) (n : Nat) (a0 : Value) (H : Heap) : Option (Value × Heap) :=
  bnd (some ((Value.bool false), H)) fun x0 H =>
  bnd (some ((Value.bool true), H)) fun x1 H =>
  some (x1, H)

theorem F37_eq (G : Oracle) (n : Nat) (a0 : Value) (H : Heap) : run G (n + 1) 37 [a0] H = F37 (run G n) n a0 H := by
  unfold run; rw [acall_k (fn := Try.f37) (keep := [0, 2]) (notBad 37 rfl) (by kernel_rfl) (by kernel_rfl)]
  kernel_rfl

noncomputable def F46 (C : Oracle) (n : Nat) (a0 a1 : Value) (H : Heap) : Option (Value × Heap) :=
  bnd (some ((Value.bool false), H)) fun x0 H =>
  bnd (some (a0, H)) fun x1 H =>
  bnd (pS (ld1 a1 H) H) fun x2 H =>
  bnd (pS (abin Try.prog .leq 2 x1 x2) H) fun x3 H =>
  bnd (some (x3, H)) fun x4 H =>
  some (x4, H)

theorem F46_eq (G : Oracle) (n : Nat) (a0 a1 : Value) (H : Heap) : run G (n + 1) 46 [a0, a1] H = F46 (run G n) n a0 a1 H := by
  unfold run; rw [acall_k (fn := Try.f46) (keep := [0, 3, 1]) (notBad 46 rfl) (by kernel_rfl) (by kernel_rfl)]
  kernel_rfl

abbrev F51_st (v0 : Value := undef) (v1 : Value := undef) (v5 : Value := undef) (v2 : Value := undef) (v3 : Value := undef) (v24 : Value := undef) (v43 : Value := undef) : List Value := [v0, v1, v5, v2, v3, v24, v43]

noncomputable def F51_b0 (C : Oracle) (n : Nat) (vs : List Value) (H : Heap) : AOut :=
  bnd (some ((sl [0, 1, 5, 2, 3, 24, 43] vs 5), H)) fun x2 H =>
  bnd (pS (ld1 (sl [0, 1, 5, 2, 3, 24, 43] vs 2) H) H) fun x3 H =>
  bnd (nckS x3 H) fun x4 H =>
  bnd (fadS 0 x4 H) fun x5 H =>
  bnd (pS (ld1 x5 H) H) fun x6 H =>
  bnd (pS (slen x6) H) fun x7 H =>
  bnd (pS (abin Try.prog .lss 3 x2 x7) H) fun x8 H =>
  bnd (some (x8, H)) fun x9 H =>
  bnd (gd (wantV x9 true) (pS (ld1 (sl [0, 1, 5, 2, 3, 24, 43] vs 3) H) H) H) fun x10 H =>
  bnd (gd (wantV x9 true) (pS (ld1 (sl [0, 1, 5, 2, 3, 24, 43] vs 2) H) H) H) fun x11 H =>
  bnd (gd (wantV x9 true) (nckS x11 H) H) fun x12 H =>
  bnd (gd (wantV x9 true) (fadS 0 x12 H) H) fun x13 H =>
  bnd (gd (wantV x9 true) (pS (ld1 x13 H) H) H) fun x14 H =>
  bnd (gd (wantV x9 true) (some ((sl [0, 1, 5, 2, 3, 24, 43] vs 5), H)) H) fun x15 H =>
  bnd (gd (wantV x9 true) (iadS 1 x14 x15 H) H) fun x16 H =>
  bnd (gd (wantV x9 true) (pS (ld1 x16 H) H) H) fun x17 H =>
  bnd (gd (wantV x9 true) (dynC Try.prog.funcs.size C x10 [x17] H) H) fun x18 H =>
  bnd (pickS x9 x18 (Value.bool false) H) fun x19 H =>
  brB x19 (bnd (some ((sl [0, 1, 5, 2, 3, 24, 43] vs 0), H)) fun x20 H =>
  bnd (pS (ld1 (sl [0, 1, 5, 2, 3, 24, 43] vs 2) H) H) fun x21 H =>
  bnd (nckS x21 H) fun x22 H =>
  bnd (fadS 0 x22 H) fun x23 H =>
  bnd (pS (ld1 x23 H) H) fun x24 H =>
  bnd (some ((sl [0, 1, 5, 2, 3, 24, 43] vs 5), H)) fun x25 H =>
  bnd (iadS 1 x24 x25 H) fun x26 H =>
  bnd (pS (ld1 x26 H) H) fun x27 H =>
  bnd (pS (ld1 (sl [0, 1, 5, 2, 3, 24, 43] vs 2) H) H) fun x28 H =>
  bnd (nckS x28 H) fun x29 H =>
  bnd (fadS 1 x29 H) fun x30 H =>
  bnd (pS (ld1 x30 H) H) fun x31 H =>
  bnd (some ((sl [0, 1, 5, 2, 3, 24, 43] vs 5), H)) fun x32 H =>
  bnd (iadS 1 x31 x32 H) fun x33 H =>
  bnd (pS (ld1 x33 H) H) fun x34 H =>
  bnd (dynC Try.prog.funcs.size C x20 [x27, x34] H) fun x35 H =>
  bnd (pS (aun .not x35) H) fun x36 H =>
  brB x36 (fin .ret [(sl [0, 1, 5, 2, 3, 24, 43] vs 0), (sl [0, 1, 5, 2, 3, 24, 43] vs 1), (sl [0, 1, 5, 2, 3, 24, 43] vs 5), (sl [0, 1, 5, 2, 3, 24, 43] vs 2), (sl [0, 1, 5, 2, 3, 24, 43] vs 3), x19, x36] H) (
  bnd (some ((sl [0, 1, 5, 2, 3, 24, 43] vs 5), H)) fun x37 H =>
  bnd (pS (abin Try.prog .add 3 x37 (Value.int .i64 (1))) H) fun x38 H =>
  bnd (some (x38, H)) fun x39 H =>
  fin .normal [(sl [0, 1, 5, 2, 3, 24, 43] vs 0), (sl [0, 1, 5, 2, 3, 24, 43] vs 1), x39, (sl [0, 1, 5, 2, 3, 24, 43] vs 2), (sl [0, 1, 5, 2, 3, 24, 43] vs 3), x19, x36] H)) (
  fin (.exit 0) [(sl [0, 1, 5, 2, 3, 24, 43] vs 0), (sl [0, 1, 5, 2, 3, 24, 43] vs 1), (sl [0, 1, 5, 2, 3, 24, 43] vs 5), (sl [0, 1, 5, 2, 3, 24, 43] vs 2), (sl [0, 1, 5, 2, 3, 24, 43] vs 3), x19, (sl [0, 1, 5, 2, 3, 24, 43] vs 43)] H)

noncomputable def F51_b0v (C : Oracle) (n : Nat) (v0 v1 v5 v2 v3 v24 v43 : Value) (H : Heap) : AOut :=
  bnd (some (v5, H)) fun x2 H =>
  bnd (pS (ld1 v2 H) H) fun x3 H =>
  bnd (nckS x3 H) fun x4 H =>
  bnd (fadS 0 x4 H) fun x5 H =>
  bnd (pS (ld1 x5 H) H) fun x6 H =>
  bnd (pS (slen x6) H) fun x7 H =>
  bnd (pS (abin Try.prog .lss 3 x2 x7) H) fun x8 H =>
  bnd (some (x8, H)) fun x9 H =>
  bnd (gd (wantV x9 true) (pS (ld1 v3 H) H) H) fun x10 H =>
  bnd (gd (wantV x9 true) (pS (ld1 v2 H) H) H) fun x11 H =>
  bnd (gd (wantV x9 true) (nckS x11 H) H) fun x12 H =>
  bnd (gd (wantV x9 true) (fadS 0 x12 H) H) fun x13 H =>
  bnd (gd (wantV x9 true) (pS (ld1 x13 H) H) H) fun x14 H =>
  bnd (gd (wantV x9 true) (some (v5, H)) H) fun x15 H =>
  bnd (gd (wantV x9 true) (iadS 1 x14 x15 H) H) fun x16 H =>
  bnd (gd (wantV x9 true) (pS (ld1 x16 H) H) H) fun x17 H =>
  bnd (gd (wantV x9 true) (dynC Try.prog.funcs.size C x10 [x17] H) H) fun x18 H =>
  bnd (pickS x9 x18 (Value.bool false) H) fun x19 H =>
  brB x19 (bnd (some (v0, H)) fun x20 H =>
  bnd (pS (ld1 v2 H) H) fun x21 H =>
  bnd (nckS x21 H) fun x22 H =>
  bnd (fadS 0 x22 H) fun x23 H =>
  bnd (pS (ld1 x23 H) H) fun x24 H =>
  bnd (some (v5, H)) fun x25 H =>
  bnd (iadS 1 x24 x25 H) fun x26 H =>
  bnd (pS (ld1 x26 H) H) fun x27 H =>
  bnd (pS (ld1 v2 H) H) fun x28 H =>
  bnd (nckS x28 H) fun x29 H =>
  bnd (fadS 1 x29 H) fun x30 H =>
  bnd (pS (ld1 x30 H) H) fun x31 H =>
  bnd (some (v5, H)) fun x32 H =>
  bnd (iadS 1 x31 x32 H) fun x33 H =>
  bnd (pS (ld1 x33 H) H) fun x34 H =>
  bnd (dynC Try.prog.funcs.size C x20 [x27, x34] H) fun x35 H =>
  bnd (pS (aun .not x35) H) fun x36 H =>
  brB x36 (fin .ret [v0, v1, v5, v2, v3, x19, x36] H) (
  bnd (some (v5, H)) fun x37 H =>
  bnd (pS (abin Try.prog .add 3 x37 (Value.int .i64 (1))) H) fun x38 H =>
  bnd (some (x38, H)) fun x39 H =>
  fin .normal [v0, v1, x39, v2, v3, x19, x36] H)) (
  fin (.exit 0) [v0, v1, v5, v2, v3, x19, v43] H)

theorem F51_b0_v (C : Oracle) (n : Nat) (v0 v1 v5 v2 v3 v24 v43 : Value) (H : Heap) : F51_b0 C n [v0, v1, v5, v2, v3, v24, v43] H = F51_b0v C n v0 v1 v5 v2 v3 v24 v43 H := by
  kernel_rfl

noncomputable def F51 (C : Oracle) (n : Nat) (a0 a1 a2 a3 : Value) (H : Heap) : Option (Value × Heap) :=
  bnd (pS (ld1 a1 H) H) fun x0 H =>
  bnd (some (x0, H)) fun x1 H =>
  onOut (iter n (F51_b0 C n) [a0, a1, x1, a2, a3, undef, undef] H) (kBlk 0 (kRet Try.prog [] [0, 1, 5, 2, 3, 24, 43]))

theorem F51_eq (G : Oracle) (n : Nat) (a0 a1 a2 a3 : Value) (H : Heap) : run G (n + 1) 51 [a0, a1, a2, a3] H = F51 (run G n) n a0 a1 a2 a3 H := by
  unfold run; rw [acall_k (fn := Try.f51) (keep := [0, 1, 5, 2, 3, 24, 43]) (notBad 51 rfl) (by kernel_rfl) (by kernel_rfl)]
  kernel_rfl

noncomputable def F52 (C : Oracle) (n : Nat) (a0 a1 : Value) (H : Heap) : Option (Value × Heap) :=
  bnd (some ((Value.bool false), H)) fun x0 H =>
  bnd (some (a0, H)) fun x1 H =>
  bnd (C 64 [x1] H) fun x2 H =>
  bnd (some (x2, H)) fun x3 H =>
  bnd (gd (wantV x3 true) (some (a1, H)) H) fun x4 H =>
  bnd (gd (wantV x3 true) (C 64 [x4] H) H) fun x5 H =>
  bnd (gd (wantV x3 true) (pS (aun .not x5) H) H) fun x6 H =>
  bnd (pickS x3 x6 (Value.bool false) H) fun x7 H =>
  bnd (some (x7, H)) fun x8 H =>
  bnd (gd (wantV x8 false) (some (a0, H)) H) fun x9 H =>
  bnd (gd (wantV x8 false) (some (a1, H)) H) fun x10 H =>
  bnd (gd (wantV x8 false) (pS (abin Try.prog .lss 9 x9 x10) H) H) fun x11 H =>
  bnd (pickS x8 (Value.bool true) x11 H) fun x12 H =>
  bnd (some (x12, H)) fun x13 H =>
  some (x13, H)

theorem F52_eq (G : Oracle) (n : Nat) (a0 a1 : Value) (H : Heap) : run G (n + 1) 52 [a0, a1] H = F52 (run G n) n a0 a1 H := by
  unfold run; rw [acall_k (fn := Try.f52) (keep := [0, 1, 4]) (notBad 52 rfl) (by kernel_rfl) (by kernel_rfl)]
  kernel_rfl

abbrev F63_st (v0 : Value := undef) (v1 : Value := undef) (v3 : Value := undef) (v11 : Value := undef) (v30 : Value := undef) : List Value := [v0, v1, v3, v11, v30]

noncomputable def F63_b0 (C : Oracle) (n : Nat) (vs : List Value) (H : Heap) : AOut :=
  bnd (some ((sl [0, 1, 3, 11, 30] vs 3), H)) fun x7 H =>
  bnd (pS (abin Try.prog .geq 3 x7 (Value.int .i64 (0))) H) fun x8 H =>
  brB x8 (bnd (some ((sl [0, 1, 3, 11, 30] vs 0), H)) fun x9 H =>
  bnd (pS (ld1 (sl [0, 1, 3, 11, 30] vs 1) H) H) fun x10 H =>
  bnd (nckS x10 H) fun x11 H =>
  bnd (fadS 0 x11 H) fun x12 H =>
  bnd (pS (ld1 x12 H) H) fun x13 H =>
  bnd (some ((sl [0, 1, 3, 11, 30] vs 3), H)) fun x14 H =>
  bnd (iadS 1 x13 x14 H) fun x15 H =>
  bnd (pS (ld1 x15 H) H) fun x16 H =>
  bnd (pS (ld1 (sl [0, 1, 3, 11, 30] vs 1) H) H) fun x17 H =>
  bnd (nckS x17 H) fun x18 H =>
  bnd (fadS 1 x18 H) fun x19 H =>
  bnd (pS (ld1 x19 H) H) fun x20 H =>
  bnd (some ((sl [0, 1, 3, 11, 30] vs 3), H)) fun x21 H =>
  bnd (iadS 1 x20 x21 H) fun x22 H =>
  bnd (pS (ld1 x22 H) H) fun x23 H =>
  bnd (dynC Try.prog.funcs.size C x9 [x16, x23] H) fun x24 H =>
  bnd (pS (aun .not x24) H) fun x25 H =>
  brB x25 (fin .ret [(sl [0, 1, 3, 11, 30] vs 0), (sl [0, 1, 3, 11, 30] vs 1), (sl [0, 1, 3, 11, 30] vs 3), x8, x25] H) (
  bnd (some ((sl [0, 1, 3, 11, 30] vs 3), H)) fun x26 H =>
  bnd (pS (abin Try.prog .sub 3 x26 (Value.int .i64 (1))) H) fun x27 H =>
  bnd (some (x27, H)) fun x28 H =>
  fin .normal [(sl [0, 1, 3, 11, 30] vs 0), (sl [0, 1, 3, 11, 30] vs 1), x28, x8, x25] H)) (
  fin (.exit 0) [(sl [0, 1, 3, 11, 30] vs 0), (sl [0, 1, 3, 11, 30] vs 1), (sl [0, 1, 3, 11, 30] vs 3), x8, (sl [0, 1, 3, 11, 30] vs 30)] H)

noncomputable def F63_b0v (C : Oracle) (n : Nat) (v0 v1 v3 v11 v30 : Value) (H : Heap) : AOut :=
  bnd (some (v3, H)) fun x7 H =>
  bnd (pS (abin Try.prog .geq 3 x7 (Value.int .i64 (0))) H) fun x8 H =>
  brB x8 (bnd (some (v0, H)) fun x9 H =>
  bnd (pS (ld1 v1 H) H) fun x10 H =>
  bnd (nckS x10 H) fun x11 H =>
  bnd (fadS 0 x11 H) fun x12 H =>
  bnd (pS (ld1 x12 H) H) fun x13 H =>
  bnd (some (v3, H)) fun x14 H =>
  bnd (iadS 1 x13 x14 H) fun x15 H =>
  bnd (pS (ld1 x15 H) H) fun x16 H =>
  bnd (pS (ld1 v1 H) H) fun x17 H =>
  bnd (nckS x17 H) fun x18 H =>
  bnd (fadS 1 x18 H) fun x19 H =>
  bnd (pS (ld1 x19 H) H) fun x20 H =>
  bnd (some (v3, H)) fun x21 H =>
  bnd (iadS 1 x20 x21 H) fun x22 H =>
  bnd (pS (ld1 x22 H) H) fun x23 H =>
  bnd (dynC Try.prog.funcs.size C x9 [x16, x23] H) fun x24 H =>
  bnd (pS (aun .not x24) H) fun x25 H =>
  brB x25 (fin .ret [v0, v1, v3, x8, x25] H) (
  bnd (some (v3, H)) fun x26 H =>
  bnd (pS (abin Try.prog .sub 3 x26 (Value.int .i64 (1))) H) fun x27 H =>
  bnd (some (x27, H)) fun x28 H =>
  fin .normal [v0, v1, x28, x8, x25] H)) (
  fin (.exit 0) [v0, v1, v3, x8, v30] H)

theorem F63_b0_v (C : Oracle) (n : Nat) (v0 v1 v3 v11 v30 : Value) (H : Heap) : F63_b0 C n [v0, v1, v3, v11, v30] H = F63_b0v C n v0 v1 v3 v11 v30 H := by
  kernel_rfl

noncomputable def F63 (C : Oracle) (n : Nat) (a0 a1 : Value) (H : Heap) : Option (Value × Heap) :=
  bnd (pS (ld1 a1 H) H) fun x0 H =>
  bnd (nckS x0 H) fun x1 H =>
  bnd (fadS 0 x1 H) fun x2 H =>
  bnd (pS (ld1 x2 H) H) fun x3 H =>
  bnd (pS (slen x3) H) fun x4 H =>
  bnd (pS (abin Try.prog .sub 3 x4 (Value.int .i64 (1))) H) fun x5 H =>
  bnd (some (x5, H)) fun x6 H =>
  onOut (iter n (F63_b0 C n) [a0, a1, x6, undef, undef] H) (kBlk 0 (kRet Try.prog [] [0, 1, 3, 11, 30]))

theorem F63_eq (G : Oracle) (n : Nat) (a0 a1 : Value) (H : Heap) : run G (n + 1) 63 [a0, a1] H = F63 (run G n) n a0 a1 H := by
  unfold run; rw [acall_k (fn := Try.f63) (keep := [0, 1, 3, 11, 30]) (notBad 63 rfl) (by kernel_rfl) (by kernel_rfl)]
  kernel_rfl

noncomputable def F67 (C : Oracle) (n : Nat) (a0 : Value) (H : Heap) : Option (Value × Heap) :=
  bnd (some ((Value.bool false), H)) fun x0 H =>
  bnd (some (a0, H)) fun x1 H =>
  bnd (some (a0, H)) fun x2 H =>
  bnd (pS (abin Try.prog .neq 2 x1 x2) H) fun x3 H =>
  bnd (some (x3, H)) fun x4 H =>
  some (x4, H)

theorem F67_eq (G : Oracle) (n : Nat) (a0 : Value) (H : Heap) : run G (n + 1) 67 [a0] H = F67 (run G n) n a0 H := by
  unfold run; rw [acall_k (fn := Try.f67) (keep := [0, 2]) (notBad 67 rfl) (by kernel_rfl) (by kernel_rfl)]
  kernel_rfl

noncomputable def F68 (C : Oracle) (n : Nat) (a0 a1 : Value) (H : Heap) : Option (Value × Heap) :=
  bnd (some (a0, H)) fun x0 H =>
  bnd (some (a1, H)) fun x1 H =>
  bnd (pS (scut 1 H x0 none (some x1)) H) fun x2 H =>
  bnd (C 71 [x2] H) fun x3 H =>
  bnd (some (a0, H)) fun x4 H =>
  bnd (some (a1, H)) fun x5 H =>
  bnd (pS (scut 1 H x4 (some x5) none) H) fun x6 H =>
  bnd (C 71 [x6] H) fun x7 H =>
  bnd (some (a0, H)) fun x8 H =>
  bnd (C 71 [x8] H) fun x9 H =>
  some (Value.tuple #[], H)

theorem F68_eq (G : Oracle) (n : Nat) (a0 a1 : Value) (H : Heap) : run G (n + 1) 68 [a0, a1] H = F68 (run G n) n a0 a1 H := by
  unfold run; rw [acall_k (fn := Try.f68) (keep := [0, 1]) (notBad 68 rfl) (by kernel_rfl) (by kernel_rfl)]
  kernel_rfl

end Go.Proofs.Ytdgolnenpnkjbaa.Fun
