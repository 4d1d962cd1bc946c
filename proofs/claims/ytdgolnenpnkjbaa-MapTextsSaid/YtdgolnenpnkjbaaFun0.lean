/- The program's functions as plain terms, each with its equation; printed by wip/am/fun.py. -/
import Derived.Test.YtdgolnenpnkjbaaFunK
namespace Go.Proofs.Ytdgolnenpnkjbaa.Fun
open Go.RowKit Go.Proofs.YtdgolnenpnkjbaaA.Am
set_option linter.unusedVariables false
set_option maxRecDepth 10000
noncomputable def F13 (C : Oracle) (n : Nat) (a0 a1 : Value) (H : Heap) : Option (Value × Heap) :=
  bnd (some ((Value.int .i64 (0)), H)) fun x0 H =>
  bnd (some ((Value.int .i64 (0)), H)) fun x1 H =>
  bnd (some ((Value.bool false), H)) fun x2 H =>
  bnd (some (a0, H)) fun x3 H =>
  bnd (some (a1, H)) fun x4 H =>
  bnd (C 34 [x3, x4] H) fun x5 H =>
  bnd (some (x5, H)) fun x6 H =>
  bnd (extS 0 x6 H) fun x7 H =>
  bnd (extS 1 x6 H) fun x8 H =>
  bnd (extS 2 x6 H) fun x9 H =>
  bnd (some (x7, H)) fun x10 H =>
  bnd (some (x8, H)) fun x11 H =>
  bnd (some (x9, H)) fun x12 H =>
  bnd (some (a0, H)) fun x13 H =>
  bnd (some (x10, H)) fun x14 H =>
  bnd (C 35 [x13, x14] H) fun x15 H =>
  bnd (extS 0 x15 H) fun x16 H =>
  bnd (extS 1 x15 H) fun x17 H =>
  bnd (extS 2 x15 H) fun x18 H =>
  bnd (some (x16, H)) fun x19 H =>
  bnd (some (x17, H)) fun x20 H =>
  bnd (some (x18, H)) fun x21 H =>
  some (Value.tuple #[x19, x20, x21], H)

theorem F13_eq (G : Oracle) (n : Nat) (a0 a1 : Value) (H : Heap) : run G (n + 1) 13 [a0, a1] H = F13 (run G n) n a0 a1 H := by
  unfold run; rw [acall_k (fn := Try.f13) (keep := [0, 1, 4, 5, 6, 7]) (notBad 13 rfl) (by kernel_rfl) (by kernel_rfl)]
  kernel_rfl

noncomputable def F17 (C : Oracle) (n : Nat) (a0 : Value) (H : Heap) : Option (Value × Heap) :=
  bnd (some (Value.nilFunc, H)) fun x0 H =>
  bnd (some (a0, H)) fun x1 H =>
  bnd (C 41 [x1, (Value.int .i64 (0)), (Value.func (.func 42) #[] #[])] H) fun x2 H =>
  bnd (some (x2, H)) fun x3 H =>
  some (x3, H)

theorem F17_eq (G : Oracle) (n : Nat) (a0 : Value) (H : Heap) : run G (n + 1) 17 [a0] H = F17 (run G n) n a0 H := by
  unfold run; rw [acall_k (fn := Try.f17) (keep := [0, 2]) (notBad 17 rfl) (by kernel_rfl) (by kernel_rfl)]
  kernel_rfl

noncomputable def F21 (C : Oracle) (n : Nat) (a0 a1 a2 : Value) (H : Heap) : Option (Value × Heap) :=
  bnd (boxS 2 a2 H) fun x0 H =>
  bnd (some (Value.nilFunc, H)) fun x1 H =>
  bnd (some (a0, H)) fun x2 H =>
  bnd (some (a1, H)) fun x3 H =>
  bnd (C 34 [x2, x3] H) fun x4 H =>
  bnd (some (x4, H)) fun x5 H =>
  bnd (extS 0 x5 H) fun x6 H =>
  bnd (extS 1 x5 H) fun x7 H =>
  bnd (extS 2 x5 H) fun x8 H =>
  bnd (some (x6, H)) fun x9 H =>
  bnd (some (x7, H)) fun x10 H =>
  bnd (some (x8, H)) fun x11 H =>
  bnd (some (a0, H)) fun x12 H =>
  bnd (some (x9, H)) fun x13 H =>
  bnd (some (Value.func (.func 46) #[] #[x0], H)) fun x14 H =>
  bnd (C 36 [x12, x13, x14] H) fun x15 H =>
  bnd (some (x15, H)) fun x16 H =>
  some (x16, H)

theorem F21_eq (G : Oracle) (n : Nat) (a0 a1 a2 : Value) (H : Heap) : run G (n + 1) 21 [a0, a1, a2] H = F21 (run G n) n a0 a1 a2 H := by
  unfold run; rw [acall_k (fn := Try.f21) (keep := [0, 1, 2, 6, 7, 5]) (notBad 21 rfl) (by kernel_rfl) (by kernel_rfl)]
  kernel_rfl

abbrev F25_st (v0 : Value := undef) (v2 : Value := undef) (v3 : Value := undef) (v7 : Value := undef) (v21 : Value := undef) : List Value := [v0, v2, v3, v7, v21]

noncomputable def F25_b0 (C : Oracle) (n : Nat) (vs : List Value) (H : Heap) : AOut :=
  bnd (some ((sl [0, 2, 3, 7, 21] vs 3), H)) fun x2 H =>
  bnd (some ((sl [0, 2, 3, 7, 21] vs 0), H)) fun x3 H =>
  bnd (pS (slen x3) H) fun x4 H =>
  bnd (pS (abin Try.prog .lss 3 x2 x4) H) fun x5 H =>
  brB x5 (bnd (some ((sl [0, 2, 3, 7, 21] vs 0), H)) fun x6 H =>
  bnd (some ((sl [0, 2, 3, 7, 21] vs 3), H)) fun x7 H =>
  bnd (iadS 2 x6 x7 H) fun x8 H =>
  bnd (fadS 0 x8 H) fun x9 H =>
  bnd (pS (ld1 x9 H) H) fun x10 H =>
  bnd (some ((sl [0, 2, 3, 7, 21] vs 0), H)) fun x11 H =>
  bnd (some ((sl [0, 2, 3, 7, 21] vs 3), H)) fun x12 H =>
  bnd (pS (abin Try.prog .sub 3 x12 (Value.int .i64 (1))) H) fun x13 H =>
  bnd (iadS 2 x11 x13 H) fun x14 H =>
  bnd (fadS 0 x14 H) fun x15 H =>
  bnd (pS (ld1 x15 H) H) fun x16 H =>
  bnd (pS (abin Try.prog .leq 2 x10 x16) H) fun x17 H =>
  brB x17 (bnd (some ((Value.bool false), H)) fun x18 H =>
  fin .ret [(sl [0, 2, 3, 7, 21] vs 0), x18, (sl [0, 2, 3, 7, 21] vs 3), x5, x17] H) (
  bnd (some ((sl [0, 2, 3, 7, 21] vs 3), H)) fun x19 H =>
  bnd (pS (abin Try.prog .add 3 x19 (Value.int .i64 (1))) H) fun x20 H =>
  bnd (some (x20, H)) fun x21 H =>
  fin .normal [(sl [0, 2, 3, 7, 21] vs 0), (sl [0, 2, 3, 7, 21] vs 2), x21, x5, x17] H)) (
  fin (.exit 0) [(sl [0, 2, 3, 7, 21] vs 0), (sl [0, 2, 3, 7, 21] vs 2), (sl [0, 2, 3, 7, 21] vs 3), x5, (sl [0, 2, 3, 7, 21] vs 21)] H)

noncomputable def F25_b0v (C : Oracle) (n : Nat) (v0 v2 v3 v7 v21 : Value) (H : Heap) : AOut :=
  bnd (some (v3, H)) fun x2 H =>
  bnd (some (v0, H)) fun x3 H =>
  bnd (pS (slen x3) H) fun x4 H =>
  bnd (pS (abin Try.prog .lss 3 x2 x4) H) fun x5 H =>
  brB x5 (bnd (some (v0, H)) fun x6 H =>
  bnd (some (v3, H)) fun x7 H =>
  bnd (iadS 2 x6 x7 H) fun x8 H =>
  bnd (fadS 0 x8 H) fun x9 H =>
  bnd (pS (ld1 x9 H) H) fun x10 H =>
  bnd (some (v0, H)) fun x11 H =>
  bnd (some (v3, H)) fun x12 H =>
  bnd (pS (abin Try.prog .sub 3 x12 (Value.int .i64 (1))) H) fun x13 H =>
  bnd (iadS 2 x11 x13 H) fun x14 H =>
  bnd (fadS 0 x14 H) fun x15 H =>
  bnd (pS (ld1 x15 H) H) fun x16 H =>
  bnd (pS (abin Try.prog .leq 2 x10 x16) H) fun x17 H =>
  brB x17 (bnd (some ((Value.bool false), H)) fun x18 H =>
  fin .ret [v0, x18, v3, x5, x17] H) (
  bnd (some (v3, H)) fun x19 H =>
  bnd (pS (abin Try.prog .add 3 x19 (Value.int .i64 (1))) H) fun x20 H =>
  bnd (some (x20, H)) fun x21 H =>
  fin .normal [v0, v2, x21, x5, x17] H)) (
  fin (.exit 0) [v0, v2, v3, x5, v21] H)

theorem F25_b0_v (C : Oracle) (n : Nat) (v0 v2 v3 v7 v21 : Value) (H : Heap) : F25_b0 C n [v0, v2, v3, v7, v21] H = F25_b0v C n v0 v2 v3 v7 v21 H := by
  kernel_rfl

noncomputable def F25_j1 (C : Oracle) (n : Nat) (vs : List Value) (H : Heap) : Option (Value × Heap) :=
  bnd (some ((Value.bool true), H)) fun x22 H =>
  some (x22, H)

noncomputable def F25_j1v (C : Oracle) (n : Nat) (v0 v2 v3 v7 v21 : Value) (H : Heap) : Option (Value × Heap) :=
  bnd (some ((Value.bool true), H)) fun x22 H =>
  some (x22, H)

theorem F25_j1_v (C : Oracle) (n : Nat) (v0 v2 v3 v7 v21 : Value) (H : Heap) : F25_j1 C n [v0, v2, v3, v7, v21] H = F25_j1v C n v0 v2 v3 v7 v21 H := by
  kernel_rfl

noncomputable def F25 (C : Oracle) (n : Nat) (a0 : Value) (H : Heap) : Option (Value × Heap) :=
  bnd (some ((Value.bool false), H)) fun x0 H =>
  bnd (some ((Value.int .i64 (1)), H)) fun x1 H =>
  onOut (iter n (F25_b0 C n) [a0, x0, x1, undef, undef] H) (kBlk 0 (kSeq (F25_j1 C n) (kRet Try.prog [.tmp 2] [0, 2, 3, 7, 21])))

theorem F25_eq (G : Oracle) (n : Nat) (a0 : Value) (H : Heap) : run G (n + 1) 25 [a0] H = F25 (run G n) n a0 H := by
  unfold run; rw [acall_k (fn := Try.f25) (keep := [0, 2, 3, 7, 21]) (notBad 25 rfl) (by kernel_rfl) (by kernel_rfl)]
  kernel_rfl

abbrev F29_st (v0 : Value := undef) (v1 : Value := undef) (v2 : Value := undef) (v6 : Value := undef) (v7 : Value := undef) (v8 : Value := undef) (v35 : Value := undef) : List Value := [v0, v1, v2, v6, v7, v8, v35]

noncomputable def F29_j0 (C : Oracle) (n : Nat) (vs : List Value) (H : Heap) : Option (Value × Heap) :=
  bnd (some ((sl [0, 1, 2, 6, 7, 8, 35] vs 8), H)) fun x18 H =>
  bnd (some ((sl [0, 1, 2, 6, 7, 8, 35] vs 0), H)) fun x19 H =>
  bnd (some ((sl [0, 1, 2, 6, 7, 8, 35] vs 7), H)) fun x20 H =>
  bnd (pS (scut 2 H x19 (some x20) none) H) fun x21 H =>
  bnd (appS 53 2 16 x18 x21 H) fun x22 H =>
  bnd (some (x22, H)) fun x23 H =>
  some (x23, H)

noncomputable def F29_j0v (C : Oracle) (n : Nat) (v0 v1 v2 v6 v7 v8 v35 : Value) (H : Heap) : Option (Value × Heap) :=
  bnd (some (v8, H)) fun x18 H =>
  bnd (some (v0, H)) fun x19 H =>
  bnd (some (v7, H)) fun x20 H =>
  bnd (pS (scut 2 H x19 (some x20) none) H) fun x21 H =>
  bnd (appS 53 2 16 x18 x21 H) fun x22 H =>
  bnd (some (x22, H)) fun x23 H =>
  some (x23, H)

theorem F29_j0_v (C : Oracle) (n : Nat) (v0 v1 v2 v6 v7 v8 v35 : Value) (H : Heap) : F29_j0 C n [v0, v1, v2, v6, v7, v8, v35] H = F29_j0v C n v0 v1 v2 v6 v7 v8 v35 H := by
  kernel_rfl

noncomputable def F29 (C : Oracle) (n : Nat) (a0 a1 a2 : Value) (H : Heap) : Option (Value × Heap) :=
  bnd (some ((Value.slice none 0 0), H)) fun x0 H =>
  bnd (some (a0, H)) fun x1 H =>
  bnd (some (a1, H)) fun x2 H =>
  bnd (C 47 [x1, x2] H) fun x3 H =>
  bnd (some (x3, H)) fun x4 H =>
  bnd (abuildSlice Try.prog 51 0 [] H) fun x5 H =>
  bnd (some (a0, H)) fun x6 H =>
  bnd (some (x4, H)) fun x7 H =>
  bnd (pS (scut 2 H x6 none (some x7)) H) fun x8 H =>
  bnd (appS 53 2 16 x5 x8 H) fun x9 H =>
  bnd (some (x9, H)) fun x10 H =>
  bnd (some (x10, H)) fun x11 H =>
  bnd (some (a1, H)) fun x12 H =>
  bnd (some (a2, H)) fun x13 H =>
  bnd (pS (abuild Try.prog 53 [(0, x12), (1, x13)]) H) fun x14 H =>
  bnd (abuildSlice Try.prog 51 1 [(0, x14)] H) fun x15 H =>
  bnd (appS 53 2 16 x11 x15 H) fun x16 H =>
  bnd (some (x16, H)) fun x17 H =>
  bnd (some (x4, H)) fun x24 H =>
  bnd (some (a0, H)) fun x25 H =>
  bnd (pS (slen x25) H) fun x26 H =>
  bnd (pS (abin Try.prog .lss 3 x24 x26) H) fun x27 H =>
  bnd (some (x27, H)) fun x28 H =>
  bnd (gd (wantV x28 true) (some (a0, H)) H) fun x29 H =>
  bnd (gd (wantV x28 true) (some (x4, H)) H) fun x30 H =>
  bnd (gd (wantV x28 true) (iadS 2 x29 x30 H) H) fun x31 H =>
  bnd (gd (wantV x28 true) (fadS 0 x31 H) H) fun x32 H =>
  bnd (gd (wantV x28 true) (pS (ld1 x32 H) H) H) fun x33 H =>
  bnd (gd (wantV x28 true) (some (a1, H)) H) fun x34 H =>
  bnd (gd (wantV x28 true) (pS (abin Try.prog .eql 2 x33 x34) H) H) fun x35 H =>
  bnd (pickS x28 x35 (Value.bool false) H) fun x36 H =>
  brB x36 (bnd (some (x4, H)) fun x37 H =>
  bnd (pS (abin Try.prog .add 3 x37 (Value.int .i64 (1))) H) fun x38 H =>
  bnd (some (x38, H)) fun x39 H =>
  F29_j0 C n [a0, a1, a2, x0, x39, x17, x36] H) (
  F29_j0 C n [a0, a1, a2, x0, x4, x17, x36] H)

theorem F29_eq (G : Oracle) (n : Nat) (a0 a1 a2 : Value) (H : Heap) : run G (n + 1) 29 [a0, a1, a2] H = F29 (run G n) n a0 a1 a2 H := by
  unfold run; rw [acall_k (fn := Try.f29) (keep := [0, 1, 2, 6, 7, 8, 35]) (notBad 29 rfl) (by kernel_rfl) (by kernel_rfl)]
  kernel_rfl

noncomputable def F30 (C : Oracle) (n : Nat) (a0 a1 : Value) (H : Heap) : Option (Value × Heap) :=
  bnd (some (newBlk H 53 1 [(Value.int .i64 (0)), (Value.int .i64 (0))])) fun x0 H =>
  bnd (some ((Value.bool false), H)) fun x1 H =>
  bnd (some (a0, H)) fun x2 H =>
  bnd (some (a1, H)) fun x3 H =>
  bnd (C 47 [x2, x3] H) fun x4 H =>
  bnd (some (x4, H)) fun x5 H =>
  bnd (some (x5, H)) fun x6 H =>
  bnd (some (a0, H)) fun x7 H =>
  bnd (pS (slen x7) H) fun x8 H =>
  bnd (pS (abin Try.prog .lss 3 x6 x8) H) fun x9 H =>
  bnd (some (x9, H)) fun x10 H =>
  bnd (gd (wantV x10 true) (some (a0, H)) H) fun x11 H =>
  bnd (gd (wantV x10 true) (some (x5, H)) H) fun x12 H =>
  bnd (gd (wantV x10 true) (iadS 2 x11 x12 H) H) fun x13 H =>
  bnd (gd (wantV x10 true) (fadS 0 x13 H) H) fun x14 H =>
  bnd (gd (wantV x10 true) (pS (ld1 x14 H) H) H) fun x15 H =>
  bnd (gd (wantV x10 true) (some (a1, H)) H) fun x16 H =>
  bnd (gd (wantV x10 true) (pS (abin Try.prog .eql 2 x15 x16) H) H) fun x17 H =>
  bnd (pickS x10 x17 (Value.bool false) H) fun x18 H =>
  brB x18 (bnd (some (a0, H)) fun x19 H =>
  bnd (some (x5, H)) fun x20 H =>
  bnd (iadS 2 x19 x20 H) fun x21 H =>
  bnd (pS (ldn 2 x21 H) H) fun x22 H =>
  bnd (stS 2 x0 x22 H) fun x23 H =>
  bnd (some ((Value.bool true), H)) fun x24 H =>
  bnd (pS (ldn 2 x0 H) H) fun r0 _ =>
  some (Value.tuple #[r0, x24], H)) (
  bnd (some (x5, H)) fun x25 H =>
  bnd (pS (abin Try.prog .eql 3 x25 (Value.int .i64 (0))) H) fun x26 H =>
  brB x26 (bnd (pS (abuild Try.prog 53 []) H) fun x27 H =>
  bnd (stS 2 x0 x27 H) fun x28 H =>
  bnd (some ((Value.bool false), H)) fun x29 H =>
  bnd (pS (ldn 2 x0 H) H) fun r0 _ =>
  some (Value.tuple #[r0, x29], H)) (
  bnd (some (a0, H)) fun x30 H =>
  bnd (some (x5, H)) fun x31 H =>
  bnd (pS (abin Try.prog .sub 3 x31 (Value.int .i64 (1))) H) fun x32 H =>
  bnd (iadS 2 x30 x32 H) fun x33 H =>
  bnd (pS (ldn 2 x33 H) H) fun x34 H =>
  bnd (stS 2 x0 x34 H) fun x35 H =>
  bnd (some ((Value.bool true), H)) fun x36 H =>
  bnd (pS (ldn 2 x0 H) H) fun r0 _ =>
  some (Value.tuple #[r0, x36], H)))

theorem F30_eq (G : Oracle) (n : Nat) (a0 a1 : Value) (H : Heap) : run G (n + 1) 30 [a0, a1] H = F30 (run G n) n a0 a1 H := by
  unfold run; rw [acall_k (fn := Try.f30) (keep := [0, 1, 4, 5, 6, 22, 28]) (notBad 30 rfl) (by kernel_rfl) (by kernel_rfl)]
  kernel_rfl

abbrev F32_st (v0 : Value := undef) (v1 : Value := undef) (v4 : Value := undef) (v11 : Value := undef) (v12 : Value := undef) (v13 : Value := undef) (v5 : Value := undef) (v3 : Value := undef) (v6 : Value := undef) (v7 : Value := undef) (v35 : Value := undef) (v39 : Value := undef) (v40 : Value := undef) (v41 : Value := undef) (v8 : Value := undef) (v9 : Value := undef) (v63 : Value := undef) : List Value := [v0, v1, v4, v11, v12, v13, v5, v3, v6, v7, v35, v39, v40, v41, v8, v9, v63]

noncomputable def F32_j1 (C : Oracle) (n : Nat) (vs : List Value) (H : Heap) : Option (Value × Heap) :=
  bnd (pS (ld1 (sl [0, 1, 4, 11, 12, 13, 5, 3, 6, 7, 35, 39, 40, 41, 8, 9, 63] vs 5) H) H) fun x4 Hx4 =>
  bnd (pS (abin Try.prog .eql 3 x4 (Value.int .i64 (0))) Hx4) fun x5 Hx5 =>
  bnd (some (x5, Hx5)) fun x6 Hx6 =>
  bnd (gd (wantV x6 true) (some ((sl [0, 1, 4, 11, 12, 13, 5, 3, 6, 7, 35, 39, 40, 41, 8, 9, 63] vs 0), Hx6)) Hx6) fun x7 Hx7 =>
  bnd (gd (wantV x6 true) (C 22 [x7] Hx7) Hx7) fun x8 Hx8 =>
  bnd (gd (wantV x6 true) (pS (ld1 (sl [0, 1, 4, 11, 12, 13, 5, 3, 6, 7, 35, 39, 40, 41, 8, 9, 63] vs 3) Hx8) Hx8) Hx8) fun x9 Hx9 =>
  bnd (gd (wantV x6 true) (pS (slen x9) Hx9) Hx9) fun x10 Hx10 =>
  bnd (gd (wantV x6 true) (pS (abin Try.prog .eql 3 x8 x10) Hx10) Hx10) fun x11 Hx11 =>
  bnd (pickS x6 x11 (Value.bool false) Hx11) fun x12 Hx12 =>
  bnd (stS 1 (sl [0, 1, 4, 11, 12, 13, 5, 3, 6, 7, 35, 39, 40, 41, 8, 9, 63] vs 4) x12 Hx12) fun x13 Hx13 =>
  (fun H => if (cfS (wantV x6 true) (wantV x6 true) (pS (ld1 (sl [0, 1, 4, 11, 12, 13, 5, 3, 6, 7, 35, 39, 40, 41, 8, 9, 63] vs 3) Hx8) Hx8) (pS (ld1 (sl [0, 1, 4, 11, 12, 13, 5, 3, 6, 7, 35, 39, 40, 41, 8, 9, 63] vs 3) Hx7) Hx7) (pS (ld1 (sl [0, 1, 4, 11, 12, 13, 5, 3, 6, 7, 35, 39, 40, 41, 8, 9, 63] vs 3) Hx8) Hx8) && true) = true then
  bnd (pS (ld1 (sl [0, 1, 4, 11, 12, 13, 5, 3, 6, 7, 35, 39, 40, 41, 8, 9, 63] vs 4) H) H) fun r0 _ =>
  some (r0, H) else none) Hx13

noncomputable def F32_j1v (C : Oracle) (n : Nat) (v0 v1 v4 v11 v12 v13 v5 v3 v6 v7 v35 v39 v40 v41 v8 v9 v63 : Value) (H : Heap) : Option (Value × Heap) :=
  bnd (pS (ld1 v5 H) H) fun x4 Hx4 =>
  bnd (pS (abin Try.prog .eql 3 x4 (Value.int .i64 (0))) Hx4) fun x5 Hx5 =>
  bnd (some (x5, Hx5)) fun x6 Hx6 =>
  bnd (gd (wantV x6 true) (some (v0, Hx6)) Hx6) fun x7 Hx7 =>
  bnd (gd (wantV x6 true) (C 22 [x7] Hx7) Hx7) fun x8 Hx8 =>
  bnd (gd (wantV x6 true) (pS (ld1 v3 Hx8) Hx8) Hx8) fun x9 Hx9 =>
  bnd (gd (wantV x6 true) (pS (slen x9) Hx9) Hx9) fun x10 Hx10 =>
  bnd (gd (wantV x6 true) (pS (abin Try.prog .eql 3 x8 x10) Hx10) Hx10) fun x11 Hx11 =>
  bnd (pickS x6 x11 (Value.bool false) Hx11) fun x12 Hx12 =>
  bnd (stS 1 v4 x12 Hx12) fun x13 Hx13 =>
  (fun H => if (cfS (wantV x6 true) (wantV x6 true) (pS (ld1 v3 Hx8) Hx8) (pS (ld1 v3 Hx7) Hx7) (pS (ld1 v3 Hx8) Hx8) && true) = true then
  bnd (pS (ld1 v4 H) H) fun r0 _ =>
  some (r0, H) else none) Hx13

theorem F32_j1_v (C : Oracle) (n : Nat) (v0 v1 v4 v11 v12 v13 v5 v3 v6 v7 v35 v39 v40 v41 v8 v9 v63 : Value) (H : Heap) : F32_j1 C n [v0, v1, v4, v11, v12, v13, v5, v3, v6, v7, v35, v39, v40, v41, v8, v9, v63] H = F32_j1v C n v0 v1 v4 v11 v12 v13 v5 v3 v6 v7 v35 v39 v40 v41 v8 v9 v63 H := by
  kernel_rfl

noncomputable def F32_L1 (vs : List Value) : ALoop := ⟨[0, 1, 4, 11, 12, 13, 5, 3, 6, 7, 35, 39, 40, 41, 8, 9, 63], vs, (lpAt Try.prog 32 1).1, (lpAt Try.prog 32 1).2.1, (lpAt Try.prog 32 1).2.2⟩

noncomputable def F32_R1 (C : Oracle) (n i : Nat) (v0 v1 v4 v11 v12 v13 v5 v3 v6 v7 v35 v39 v40 v41 v8 v9 v63 : Value) (a0 a1 : Value) (H : Heap) : Option (Value × Heap) :=
  bnd (some (a0, H)) fun x16 H =>
  bnd (some (a1, H)) fun x17 H =>
  begR i H fun H =>
  bnd (pS (ld1 v5 H) H) fun x18 H =>
  bnd (pS (abin Try.prog .sub 3 x18 (Value.int .i64 (1))) H) fun x19 H =>
  bnd (stS 1 v5 x19 H) fun x20 H =>
  bnd (pS (ld1 v5 H) H) fun x21 H =>
  bnd (pS (abin Try.prog .lss 3 x21 (Value.int .i64 (0))) H) fun x22 H =>
  bnd (some (x22, H)) fun x23 H =>
  bnd (gd (wantV x23 false) (pS (ld1 v3 H) H) H) fun x24 H =>
  bnd (gd (wantV x23 false) (pS (ld1 v5 H) H) H) fun x25 H =>
  bnd (gd (wantV x23 false) (iadS 2 x24 x25 H) H) fun x26 H =>
  bnd (gd (wantV x23 false) (fadS 0 x26 H) H) fun x27 H =>
  bnd (gd (wantV x23 false) (pS (ld1 x27 H) H) H) fun x28 H =>
  bnd (gd (wantV x23 false) (some (x16, H)) H) fun x29 H =>
  bnd (gd (wantV x23 false) (pS (abin Try.prog .neq 2 x28 x29) H) H) fun x30 H =>
  bnd (pickS x23 (Value.bool true) x30 H) fun x31 H =>
  bnd (some (x31, H)) fun x32 H =>
  bnd (gd (wantV x32 false) (pS (ld1 v3 H) H) H) fun x33 H =>
  bnd (gd (wantV x32 false) (pS (ld1 v5 H) H) H) fun x34 H =>
  bnd (gd (wantV x32 false) (iadS 2 x33 x34 H) H) fun x35 H =>
  bnd (gd (wantV x32 false) (fadS 1 x35 H) H) fun x36 H =>
  bnd (gd (wantV x32 false) (pS (ld1 x36 H) H) H) fun x37 H =>
  bnd (gd (wantV x32 false) (some (x17, H)) H) fun x38 H =>
  bnd (gd (wantV x32 false) (pS (abin Try.prog .neq 2 x37 x38) H) H) fun x39 H =>
  bnd (pickS x32 (Value.bool true) x39 H) fun x40 H =>
  brB x40 (bnd (stS 1 v4 (Value.bool false) H) fun x41 H =>
  endR i .ret H) (
  endR i .normal H)

theorem F32_R1_eq (G : Oracle) (n i : Nat) (v0 v1 v4 v11 v12 v13 v5 v3 v6 v7 v35 v39 v40 v41 v8 v9 v63 : Value) (a0 a1 : Value) (H : Heap) (h : H.oth i = some (.loop (F32_L1 [v0, v1, v4, v11, v12, v13, v5, v3, v6, v7, v35, v39, v40, v41, v8, v9, v63]) .ready)) : run G (n + 1) (Try.prog.funcs.size + i) [a0, a1] H = F32_R1 (run G n) n i v0 v1 v4 v11 v12 v13 v5 v3 v6 v7 v35 v39 v40 v41 v8 v9 v63 a0 a1 H := by
  unfold run; rw [acall_r (by kernel_rfl) h (by kernel_rfl)]
  kernel_rfl

noncomputable def F32_j0 (C : Oracle) (n : Nat) (vs : List Value) (H : Heap) : Option (Value × Heap) :=
  bnd (some ((sl [0, 1, 4, 11, 12, 13, 5, 3, 6, 7, 35, 39, 40, 41, 8, 9, 63] vs 0), H)) fun x14 H =>
  bnd (C 49 [x14] H) fun x15 H =>
  onRng (rngC Try.prog.funcs.size C x15 (F32_L1 [(sl [0, 1, 4, 11, 12, 13, 5, 3, 6, 7, 35, 39, 40, 41, 8, 9, 63] vs 0), (sl [0, 1, 4, 11, 12, 13, 5, 3, 6, 7, 35, 39, 40, 41, 8, 9, 63] vs 1), (sl [0, 1, 4, 11, 12, 13, 5, 3, 6, 7, 35, 39, 40, 41, 8, 9, 63] vs 4), (sl [0, 1, 4, 11, 12, 13, 5, 3, 6, 7, 35, 39, 40, 41, 8, 9, 63] vs 11), (sl [0, 1, 4, 11, 12, 13, 5, 3, 6, 7, 35, 39, 40, 41, 8, 9, 63] vs 12), (sl [0, 1, 4, 11, 12, 13, 5, 3, 6, 7, 35, 39, 40, 41, 8, 9, 63] vs 13), (sl [0, 1, 4, 11, 12, 13, 5, 3, 6, 7, 35, 39, 40, 41, 8, 9, 63] vs 5), (sl [0, 1, 4, 11, 12, 13, 5, 3, 6, 7, 35, 39, 40, 41, 8, 9, 63] vs 3), (sl [0, 1, 4, 11, 12, 13, 5, 3, 6, 7, 35, 39, 40, 41, 8, 9, 63] vs 6), (sl [0, 1, 4, 11, 12, 13, 5, 3, 6, 7, 35, 39, 40, 41, 8, 9, 63] vs 7), (sl [0, 1, 4, 11, 12, 13, 5, 3, 6, 7, 35, 39, 40, 41, 8, 9, 63] vs 35), x15, (sl [0, 1, 4, 11, 12, 13, 5, 3, 6, 7, 35, 39, 40, 41, 8, 9, 63] vs 40), (sl [0, 1, 4, 11, 12, 13, 5, 3, 6, 7, 35, 39, 40, 41, 8, 9, 63] vs 41), (sl [0, 1, 4, 11, 12, 13, 5, 3, 6, 7, 35, 39, 40, 41, 8, 9, 63] vs 8), (sl [0, 1, 4, 11, 12, 13, 5, 3, 6, 7, 35, 39, 40, 41, 8, 9, 63] vs 9), (sl [0, 1, 4, 11, 12, 13, 5, 3, 6, 7, 35, 39, 40, 41, 8, 9, 63] vs 63)]) H) fun e H => (kBlk 2 (kSeq (F32_j1 C n) (kRet Try.prog [.cell 4 4] [0, 1, 4, 11, 12, 13, 5, 3, 6, 7, 35, 39, 40, 41, 8, 9, 63]))) e [(sl [0, 1, 4, 11, 12, 13, 5, 3, 6, 7, 35, 39, 40, 41, 8, 9, 63] vs 0), (sl [0, 1, 4, 11, 12, 13, 5, 3, 6, 7, 35, 39, 40, 41, 8, 9, 63] vs 1), (sl [0, 1, 4, 11, 12, 13, 5, 3, 6, 7, 35, 39, 40, 41, 8, 9, 63] vs 4), (sl [0, 1, 4, 11, 12, 13, 5, 3, 6, 7, 35, 39, 40, 41, 8, 9, 63] vs 11), (sl [0, 1, 4, 11, 12, 13, 5, 3, 6, 7, 35, 39, 40, 41, 8, 9, 63] vs 12), (sl [0, 1, 4, 11, 12, 13, 5, 3, 6, 7, 35, 39, 40, 41, 8, 9, 63] vs 13), (sl [0, 1, 4, 11, 12, 13, 5, 3, 6, 7, 35, 39, 40, 41, 8, 9, 63] vs 5), (sl [0, 1, 4, 11, 12, 13, 5, 3, 6, 7, 35, 39, 40, 41, 8, 9, 63] vs 3), (sl [0, 1, 4, 11, 12, 13, 5, 3, 6, 7, 35, 39, 40, 41, 8, 9, 63] vs 6), (sl [0, 1, 4, 11, 12, 13, 5, 3, 6, 7, 35, 39, 40, 41, 8, 9, 63] vs 7), (sl [0, 1, 4, 11, 12, 13, 5, 3, 6, 7, 35, 39, 40, 41, 8, 9, 63] vs 35), x15, (sl [0, 1, 4, 11, 12, 13, 5, 3, 6, 7, 35, 39, 40, 41, 8, 9, 63] vs 40), (sl [0, 1, 4, 11, 12, 13, 5, 3, 6, 7, 35, 39, 40, 41, 8, 9, 63] vs 41), (sl [0, 1, 4, 11, 12, 13, 5, 3, 6, 7, 35, 39, 40, 41, 8, 9, 63] vs 8), (sl [0, 1, 4, 11, 12, 13, 5, 3, 6, 7, 35, 39, 40, 41, 8, 9, 63] vs 9), (sl [0, 1, 4, 11, 12, 13, 5, 3, 6, 7, 35, 39, 40, 41, 8, 9, 63] vs 63)] H

noncomputable def F32_j0v (C : Oracle) (n : Nat) (v0 v1 v4 v11 v12 v13 v5 v3 v6 v7 v35 v39 v40 v41 v8 v9 v63 : Value) (H : Heap) : Option (Value × Heap) :=
  bnd (some (v0, H)) fun x14 H =>
  bnd (C 49 [x14] H) fun x15 H =>
  onRng (rngC Try.prog.funcs.size C x15 (F32_L1 [v0, v1, v4, v11, v12, v13, v5, v3, v6, v7, v35, x15, v40, v41, v8, v9, v63]) H) fun e H => (kBlk 2 (kSeq (F32_j1 C n) (kRet Try.prog [.cell 4 4] [0, 1, 4, 11, 12, 13, 5, 3, 6, 7, 35, 39, 40, 41, 8, 9, 63]))) e [v0, v1, v4, v11, v12, v13, v5, v3, v6, v7, v35, x15, v40, v41, v8, v9, v63] H

theorem F32_j0_v (C : Oracle) (n : Nat) (v0 v1 v4 v11 v12 v13 v5 v3 v6 v7 v35 v39 v40 v41 v8 v9 v63 : Value) (H : Heap) : F32_j0 C n [v0, v1, v4, v11, v12, v13, v5, v3, v6, v7, v35, v39, v40, v41, v8, v9, v63] H = F32_j0v C n v0 v1 v4 v11 v12 v13 v5 v3 v6 v7 v35 v39 v40 v41 v8 v9 v63 H := by
  kernel_rfl

noncomputable def F32_L0 (vs : List Value) : ALoop := ⟨[0, 1, 4, 11, 12, 13, 5, 3, 6, 7, 35, 39, 40, 41, 8, 9, 63], vs, (lpAt Try.prog 32 0).1, (lpAt Try.prog 32 0).2.1, (lpAt Try.prog 32 0).2.2⟩

noncomputable def F32_R0 (C : Oracle) (n i : Nat) (v0 v1 v4 v11 v12 v13 v5 v3 v6 v7 v35 v39 v40 v41 v8 v9 v63 : Value) (a0 a1 : Value) (H : Heap) : Option (Value × Heap) :=
  bnd (some (a0, H)) fun x44 H =>
  bnd (some (a1, H)) fun x45 H =>
  begR i H fun H =>
  bnd (pS (ld1 v5 H) H) fun x46 H =>
  bnd (pS (ld1 v3 H) H) fun x47 H =>
  bnd (pS (slen x47) H) fun x48 H =>
  bnd (pS (abin Try.prog .geq 3 x46 x48) H) fun x49 H =>
  bnd (some (x49, H)) fun x50 H =>
  bnd (gd (wantV x50 false) (pS (ld1 v3 H) H) H) fun x51 H =>
  bnd (gd (wantV x50 false) (pS (ld1 v5 H) H) H) fun x52 H =>
  bnd (gd (wantV x50 false) (iadS 2 x51 x52 H) H) fun x53 H =>
  bnd (gd (wantV x50 false) (fadS 0 x53 H) H) fun x54 H =>
  bnd (gd (wantV x50 false) (pS (ld1 x54 H) H) H) fun x55 H =>
  bnd (gd (wantV x50 false) (some (x44, H)) H) fun x56 H =>
  bnd (gd (wantV x50 false) (pS (abin Try.prog .neq 2 x55 x56) H) H) fun x57 H =>
  bnd (pickS x50 (Value.bool true) x57 H) fun x58 H =>
  bnd (some (x58, H)) fun x59 H =>
  bnd (gd (wantV x59 false) (pS (ld1 v3 H) H) H) fun x60 H =>
  bnd (gd (wantV x59 false) (pS (ld1 v5 H) H) H) fun x61 H =>
  bnd (gd (wantV x59 false) (iadS 2 x60 x61 H) H) fun x62 H =>
  bnd (gd (wantV x59 false) (fadS 1 x62 H) H) fun x63 H =>
  bnd (gd (wantV x59 false) (pS (ld1 x63 H) H) H) fun x64 H =>
  bnd (gd (wantV x59 false) (some (x45, H)) H) fun x65 H =>
  bnd (gd (wantV x59 false) (pS (abin Try.prog .neq 2 x64 x65) H) H) fun x66 H =>
  bnd (pickS x59 (Value.bool true) x66 H) fun x67 H =>
  brB x67 (bnd (stS 1 v4 (Value.bool false) H) fun x68 H =>
  endR i .ret H) (
  bnd (pS (ld1 v5 H) H) fun x69 H =>
  bnd (pS (abin Try.prog .add 3 x69 (Value.int .i64 (1))) H) fun x70 H =>
  bnd (stS 1 v5 x70 H) fun x71 H =>
  endR i .normal H)

theorem F32_R0_eq (G : Oracle) (n i : Nat) (v0 v1 v4 v11 v12 v13 v5 v3 v6 v7 v35 v39 v40 v41 v8 v9 v63 : Value) (a0 a1 : Value) (H : Heap) (h : H.oth i = some (.loop (F32_L0 [v0, v1, v4, v11, v12, v13, v5, v3, v6, v7, v35, v39, v40, v41, v8, v9, v63]) .ready)) : run G (n + 1) (Try.prog.funcs.size + i) [a0, a1] H = F32_R0 (run G n) n i v0 v1 v4 v11 v12 v13 v5 v3 v6 v7 v35 v39 v40 v41 v8 v9 v63 a0 a1 H := by
  unfold run; rw [acall_r (by kernel_rfl) h (by kernel_rfl)]
  kernel_rfl

noncomputable def F32 (C : Oracle) (n : Nat) (a0 a1 : Value) (H : Heap) : Option (Value × Heap) :=
  bnd (boxS 51 a1 H) fun x0 H =>
  bnd (some (newBlk H 4 1 [(Value.bool false)])) fun x1 H =>
  bnd (some (newBlk H 3 1 [(Value.int .i64 (0))])) fun x2 H =>
  bnd (stS 1 x2 (Value.int .i64 (0)) H) fun x3 H =>
  bnd (some (a0, H)) fun x42 H =>
  bnd (C 15 [x42] H) fun x43 H =>
  onRng (rngC Try.prog.funcs.size C x43 (F32_L0 [a0, a1, x1, x43, undef, undef, x2, x0, undef, undef, undef, undef, undef, undef, undef, undef, undef]) H) fun e H => (kBlk 0 (kSeq (F32_j0 C n) (kRet Try.prog [.cell 4 4] [0, 1, 4, 11, 12, 13, 5, 3, 6, 7, 35, 39, 40, 41, 8, 9, 63]))) e [a0, a1, x1, x43, undef, undef, x2, x0, undef, undef, undef, undef, undef, undef, undef, undef, undef] H

theorem F32_eq (G : Oracle) (n : Nat) (a0 a1 : Value) (H : Heap) : run G (n + 1) 32 [a0, a1] H = F32 (run G n) n a0 a1 H := by
  unfold run; rw [acall_k (fn := Try.f32) (keep := [0, 1, 4, 11, 12, 13, 5, 3, 6, 7, 35, 39, 40, 41, 8, 9, 63]) (notBad 32 rfl) (by kernel_rfl) (by kernel_rfl)]
  kernel_rfl

noncomputable def F41 (C : Oracle) (n : Nat) (a0 a1 a2 : Value) (H : Heap) : Option (Value × Heap) :=
  bnd (boxS 35 a0 H) fun x0 H =>
  bnd (boxS 3 a1 H) fun x1 H =>
  bnd (boxS 78 a2 H) fun x2 H =>
  bnd (some (Value.nilFunc, H)) fun x3 H =>
  bnd (some (Value.func (.func 58) #[] #[x1, x0, x2], H)) fun x4 H =>
  bnd (some (x4, H)) fun x5 H =>
  some (x5, H)

theorem F41_eq (G : Oracle) (n : Nat) (a0 a1 a2 : Value) (H : Heap) : run G (n + 1) 41 [a0, a1, a2] H = F41 (run G n) n a0 a1 a2 H := by
  unfold run; rw [acall_k (fn := Try.f41) (keep := [0, 1, 2, 6, 4, 3, 5]) (notBad 41 rfl) (by kernel_rfl) (by kernel_rfl)]
  kernel_rfl

noncomputable def F43 (C : Oracle) (n : Nat) (a0 a1 : Value) (H : Heap) : Option (Value × Heap) :=
  bnd (some ((Value.int .i64 (0)), H)) fun x0 H =>
  bnd (some ((Value.bool false), H)) fun x1 H =>
  bnd (some ((Value.bool false), H)) fun x2 H =>
  bnd (some (a0, H)) fun x3 H =>
  bnd (nckS x3 H) fun x4 H =>
  bnd (fadS 0 x4 H) fun x5 H =>
  bnd (pS (ld1 x5 H) H) fun x6 H =>
  bnd (some (a1, H)) fun x7 H =>
  bnd (C 38 [x6, x7] H) fun x8 H =>
  bnd (some (x8, H)) fun x9 H =>
  bnd (extS 0 x9 H) fun x10 H =>
  bnd (extS 1 x9 H) fun x11 H =>
  bnd (some (x10, H)) fun x12 H =>
  bnd (some (x11, H)) fun x13 H =>
  bnd (some (x13, H)) fun x14 H =>
  bnd (pS (aun .not x14) H) fun x15 H =>
  brB x15 (bnd (some ((Value.bool false), H)) fun x16 H =>
  bnd (some (x12, H)) fun x17 H =>
  bnd (some (x16, H)) fun x18 H =>
  bnd (some (x17, H)) fun x19 H =>
  bnd (some (x18, H)) fun x20 H =>
  bnd (some ((Value.bool false), H)) fun x21 H =>
  some (Value.tuple #[x19, x20, x21], H)) (
  bnd (some (x12, H)) fun x22 H =>
  bnd (some (a0, H)) fun x23 H =>
  bnd (nckS x23 H) fun x24 H =>
  bnd (fadS 1 x24 H) fun x25 H =>
  bnd (pS (ld1 x25 H) H) fun x26 H =>
  bnd (some (x12, H)) fun x27 H =>
  bnd (iadS 1 x26 x27 H) fun x28 H =>
  bnd (pS (ld1 x28 H) H) fun x29 H =>
  bnd (some (x22, H)) fun x30 H =>
  bnd (some (x29, H)) fun x31 H =>
  bnd (some ((Value.bool true), H)) fun x32 H =>
  some (Value.tuple #[x30, x31, x32], H))

theorem F43_eq (G : Oracle) (n : Nat) (a0 a1 : Value) (H : Heap) : run G (n + 1) 43 [a0, a1] H = F43 (run G n) n a0 a1 H := by
  unfold run; rw [acall_k (fn := Try.f43) (keep := [0, 1, 4, 5, 6, 8, 20, 7, 9]) (notBad 43 rfl) (by kernel_rfl) (by kernel_rfl)]
  kernel_rfl

noncomputable def F57 (C : Oracle) (n : Nat) (a0 a1 : Value) (H : Heap) : Option (Value × Heap) :=
  bnd (some (a0, H)) fun x0 H =>
  bnd (some (a0, H)) fun x1 H =>
  bnd (pS (slen x1) H) fun x2 H =>
  bnd (some (a1, H)) fun x3 H =>
  bnd (pS (abin Try.prog .sub 3 x2 x3) H) fun x4 H =>
  bnd (C 66 [x0, x4] H) fun x5 H =>
  some (Value.tuple #[], H)

theorem F57_eq (G : Oracle) (n : Nat) (a0 a1 : Value) (H : Heap) : run G (n + 1) 57 [a0, a1] H = F57 (run G n) n a0 a1 H := by
  unfold run; rw [acall_k (fn := Try.f57) (keep := [0, 1]) (notBad 57 rfl) (by kernel_rfl) (by kernel_rfl)]
  kernel_rfl

noncomputable def F60 (C : Oracle) (n : Nat) (a0 : Value) (H : Heap) : Option (Value × Heap) :=
  bnd (some ((Value.bool false), H)) fun x0 H =>
  bnd (some (a0, H)) fun x1 H =>
  bnd (some (a0, H)) fun x2 H =>
  bnd (pS (abin Try.prog .neq 2 x1 x2) H) fun x3 H =>
  bnd (some (x3, H)) fun x4 H =>
  some (x4, H)

theorem F60_eq (G : Oracle) (n : Nat) (a0 : Value) (H : Heap) : run G (n + 1) 60 [a0] H = F60 (run G n) n a0 H := by
  unfold run; rw [acall_k (fn := Try.f60) (keep := [0, 2]) (notBad 60 rfl) (by kernel_rfl) (by kernel_rfl)]
  kernel_rfl

noncomputable def F65 (C : Oracle) (n : Nat) (a0 a1 : Value) (H : Heap) : Option (Value × Heap) :=
  bnd (some (a0, H)) fun x0 H =>
  bnd (some (a1, H)) fun x1 H =>
  bnd (pS (scut 1 H x0 none (some x1)) H) fun x2 H =>
  bnd (C 69 [x2] H) fun x3 H =>
  bnd (some (a0, H)) fun x4 H =>
  bnd (some (a1, H)) fun x5 H =>
  bnd (pS (scut 1 H x4 (some x5) none) H) fun x6 H =>
  bnd (C 69 [x6] H) fun x7 H =>
  bnd (some (a0, H)) fun x8 H =>
  bnd (C 69 [x8] H) fun x9 H =>
  some (Value.tuple #[], H)

theorem F65_eq (G : Oracle) (n : Nat) (a0 a1 : Value) (H : Heap) : run G (n + 1) 65 [a0, a1] H = F65 (run G n) n a0 a1 H := by
  unfold run; rw [acall_k (fn := Try.f65) (keep := [0, 1]) (notBad 65 rfl) (by kernel_rfl) (by kernel_rfl)]
  kernel_rfl

abbrev F69_st (v0 : Value := undef) (v2 : Value := undef) (v3 : Value := undef) (v9 : Value := undef) : List Value := [v0, v2, v3, v9]

noncomputable def F69_b0 (C : Oracle) (n : Nat) (vs : List Value) (H : Heap) : AOut :=
  bnd (some ((sl [0, 2, 3, 9] vs 2), H)) fun x5 H =>
  bnd (some ((sl [0, 2, 3, 9] vs 3), H)) fun x6 H =>
  bnd (pS (abin Try.prog .lss 3 x5 x6) H) fun x7 H =>
  brB x7 (bnd (some ((sl [0, 2, 3, 9] vs 0), H)) fun x8 H =>
  bnd (some ((sl [0, 2, 3, 9] vs 2), H)) fun x9 H =>
  bnd (some ((sl [0, 2, 3, 9] vs 0), H)) fun x10 H =>
  bnd (some ((sl [0, 2, 3, 9] vs 3), H)) fun x11 H =>
  bnd (some ((sl [0, 2, 3, 9] vs 0), H)) fun x12 H =>
  bnd (some ((sl [0, 2, 3, 9] vs 3), H)) fun x13 H =>
  bnd (iadS 1 x12 x13 H) fun x14 H =>
  bnd (pS (ld1 x14 H) H) fun x15 H =>
  bnd (some ((sl [0, 2, 3, 9] vs 0), H)) fun x16 H =>
  bnd (some ((sl [0, 2, 3, 9] vs 2), H)) fun x17 H =>
  bnd (iadS 1 x16 x17 H) fun x18 H =>
  bnd (pS (ld1 x18 H) H) fun x19 H =>
  bnd (iadS 1 x8 x9 H) fun x20 H =>
  bnd (stS 1 x20 x15 H) fun x21 H =>
  bnd (iadS 1 x10 x11 H) fun x22 H =>
  bnd (stS 1 x22 x19 H) fun x23 H =>
  bnd (some ((sl [0, 2, 3, 9] vs 2), H)) fun x24 H =>
  bnd (pS (abin Try.prog .add 3 x24 (Value.int .i64 (1))) H) fun x25 H =>
  bnd (some ((sl [0, 2, 3, 9] vs 3), H)) fun x26 H =>
  bnd (pS (abin Try.prog .sub 3 x26 (Value.int .i64 (1))) H) fun x27 H =>
  bnd (some (x25, H)) fun x28 H =>
  bnd (some (x27, H)) fun x29 H =>
  fin .normal [(sl [0, 2, 3, 9] vs 0), x28, x29, x7] H) (
  fin (.exit 0) [(sl [0, 2, 3, 9] vs 0), (sl [0, 2, 3, 9] vs 2), (sl [0, 2, 3, 9] vs 3), x7] H)

noncomputable def F69_b0v (C : Oracle) (n : Nat) (v0 v2 v3 v9 : Value) (H : Heap) : AOut :=
  bnd (some (v2, H)) fun x5 H =>
  bnd (some (v3, H)) fun x6 H =>
  bnd (pS (abin Try.prog .lss 3 x5 x6) H) fun x7 H =>
  brB x7 (bnd (some (v0, H)) fun x8 H =>
  bnd (some (v2, H)) fun x9 H =>
  bnd (some (v0, H)) fun x10 H =>
  bnd (some (v3, H)) fun x11 H =>
  bnd (some (v0, H)) fun x12 H =>
  bnd (some (v3, H)) fun x13 H =>
  bnd (iadS 1 x12 x13 H) fun x14 H =>
  bnd (pS (ld1 x14 H) H) fun x15 H =>
  bnd (some (v0, H)) fun x16 H =>
  bnd (some (v2, H)) fun x17 H =>
  bnd (iadS 1 x16 x17 H) fun x18 H =>
  bnd (pS (ld1 x18 H) H) fun x19 H =>
  bnd (iadS 1 x8 x9 H) fun x20 H =>
  bnd (stS 1 x20 x15 H) fun x21 H =>
  bnd (iadS 1 x10 x11 H) fun x22 H =>
  bnd (stS 1 x22 x19 H) fun x23 H =>
  bnd (some (v2, H)) fun x24 H =>
  bnd (pS (abin Try.prog .add 3 x24 (Value.int .i64 (1))) H) fun x25 H =>
  bnd (some (v3, H)) fun x26 H =>
  bnd (pS (abin Try.prog .sub 3 x26 (Value.int .i64 (1))) H) fun x27 H =>
  bnd (some (x25, H)) fun x28 H =>
  bnd (some (x27, H)) fun x29 H =>
  fin .normal [v0, x28, x29, x7] H) (
  fin (.exit 0) [v0, v2, v3, x7] H)

theorem F69_b0_v (C : Oracle) (n : Nat) (v0 v2 v3 v9 : Value) (H : Heap) : F69_b0 C n [v0, v2, v3, v9] H = F69_b0v C n v0 v2 v3 v9 H := by
  kernel_rfl

noncomputable def F69 (C : Oracle) (n : Nat) (a0 : Value) (H : Heap) : Option (Value × Heap) :=
  bnd (some (a0, H)) fun x0 H =>
  bnd (pS (slen x0) H) fun x1 H =>
  bnd (pS (abin Try.prog .sub 3 x1 (Value.int .i64 (1))) H) fun x2 H =>
  bnd (some ((Value.int .i64 (0)), H)) fun x3 H =>
  bnd (some (x2, H)) fun x4 H =>
  onOut (iter n (F69_b0 C n) [a0, x3, x4, undef] H) (kBlk 0 (kRet Try.prog [] [0, 2, 3, 9]))

theorem F69_eq (G : Oracle) (n : Nat) (a0 : Value) (H : Heap) : run G (n + 1) 69 [a0] H = F69 (run G n) n a0 H := by
  unfold run; rw [acall_k (fn := Try.f69) (keep := [0, 2, 3, 9]) (notBad 69 rfl) (by kernel_rfl) (by kernel_rfl)]
  kernel_rfl

end Go.Proofs.Ytdgolnenpnkjbaa.Fun
