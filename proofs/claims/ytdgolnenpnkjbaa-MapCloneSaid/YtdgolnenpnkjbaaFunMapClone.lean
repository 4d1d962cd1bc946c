/- The program's functions as plain terms, each with its equation; printed by wip/am/fun.py. -/
import Derived.Test.YtdgolnenpnkjbaaFunK
namespace Go.Proofs.Ytdgolnenpnkjbaa.Fun
open Go.RowKit Go.Proofs.YtdgolnenpnkjbaaA.Am
set_option linter.unusedVariables false
set_option maxRecDepth 10000
abbrev F9_st (v0 : Value := undef) (v1 : Value := undef) (v4 : Value := undef) (v5 : Value := undef) (v6 : Value := undef) (v17 : Value := undef) (v19 : Value := undef) (v20 : Value := undef) (v21 : Value := undef) (v7 : Value := undef) (v8 : Value := undef) (v9 : Value := undef) (v10 : Value := undef) (v35 : Value := undef) (v54 : Value := undef) (v57 : Value := undef) (v58 : Value := undef) (v11 : Value := undef) : List Value := [v0, v1, v4, v5, v6, v17, v19, v20, v21, v7, v8, v9, v10, v35, v54, v57, v58, v11]

noncomputable def F9_b1 (C : Oracle) (n : Nat) (vs : List Value) (H : Heap) : AOut :=
  bnd (some ((sl [0, 1, 4, 5, 6, 17, 19, 20, 21, 7, 8, 9, 10, 35, 54, 57, 58, 11] vs 10), H)) fun x13 H =>
  bnd (some ((sl [0, 1, 4, 5, 6, 17, 19, 20, 21, 7, 8, 9, 10, 35, 54, 57, 58, 11] vs 1), H)) fun x14 H =>
  bnd (pS (slen x14) H) fun x15 H =>
  bnd (pS (abin Try.prog .lss 3 x13 x15) H) fun x16 H =>
  bnd (some (x16, H)) fun x17 H =>
  bnd (gd (wantV x17 true) (some ((sl [0, 1, 4, 5, 6, 17, 19, 20, 21, 7, 8, 9, 10, 35, 54, 57, 58, 11] vs 10), H)) H) fun x18 H =>
  bnd (gd (wantV x17 true) (pS (abin Try.prog .lss 3 x18 (Value.int .i64 (200))) H) H) fun x19 H =>
  bnd (pickS x17 x19 (Value.bool false) H) fun x20 H =>
  brB x20 (bnd (some ((sl [0, 1, 4, 5, 6, 17, 19, 20, 21, 7, 8, 9, 10, 35, 54, 57, 58, 11] vs 5), H)) fun x21 H =>
  bnd (some ((sl [0, 1, 4, 5, 6, 17, 19, 20, 21, 7, 8, 9, 10, 35, 54, 57, 58, 11] vs 1), H)) fun x22 H =>
  bnd (some ((sl [0, 1, 4, 5, 6, 17, 19, 20, 21, 7, 8, 9, 10, 35, 54, 57, 58, 11] vs 10), H)) fun x23 H =>
  bnd (iadS 1 x22 x23 H) fun x24 H =>
  bnd (pS (ld1 x24 H) H) fun x25 H =>
  bnd (C 20 [x21, x25, (Value.int .i64 (-7))] H) fun x26 H =>
  bnd (some ((sl [0, 1, 4, 5, 6, 17, 19, 20, 21, 7, 8, 9, 10, 35, 54, 57, 58, 11] vs 5), H)) fun x27 H =>
  bnd (some ((sl [0, 1, 4, 5, 6, 17, 19, 20, 21, 7, 8, 9, 10, 35, 54, 57, 58, 11] vs 1), H)) fun x28 H =>
  bnd (some ((sl [0, 1, 4, 5, 6, 17, 19, 20, 21, 7, 8, 9, 10, 35, 54, 57, 58, 11] vs 10), H)) fun x29 H =>
  bnd (iadS 1 x28 x29 H) fun x30 H =>
  bnd (pS (ld1 x30 H) H) fun x31 H =>
  bnd (pS (abin Try.prog .quo 2 x31 (Value.int .i64 (2))) H) fun x32 H =>
  bnd (C 27 [x27, x32] H) fun x33 H =>
  bnd (some ((sl [0, 1, 4, 5, 6, 17, 19, 20, 21, 7, 8, 9, 10, 35, 54, 57, 58, 11] vs 10), H)) fun x34 H =>
  bnd (pS (abin Try.prog .add 3 x34 (Value.int .i64 (1))) H) fun x35 H =>
  bnd (some (x35, H)) fun x36 H =>
  fin .normal [(sl [0, 1, 4, 5, 6, 17, 19, 20, 21, 7, 8, 9, 10, 35, 54, 57, 58, 11] vs 0), (sl [0, 1, 4, 5, 6, 17, 19, 20, 21, 7, 8, 9, 10, 35, 54, 57, 58, 11] vs 1), (sl [0, 1, 4, 5, 6, 17, 19, 20, 21, 7, 8, 9, 10, 35, 54, 57, 58, 11] vs 4), (sl [0, 1, 4, 5, 6, 17, 19, 20, 21, 7, 8, 9, 10, 35, 54, 57, 58, 11] vs 5), (sl [0, 1, 4, 5, 6, 17, 19, 20, 21, 7, 8, 9, 10, 35, 54, 57, 58, 11] vs 6), (sl [0, 1, 4, 5, 6, 17, 19, 20, 21, 7, 8, 9, 10, 35, 54, 57, 58, 11] vs 17), (sl [0, 1, 4, 5, 6, 17, 19, 20, 21, 7, 8, 9, 10, 35, 54, 57, 58, 11] vs 19), (sl [0, 1, 4, 5, 6, 17, 19, 20, 21, 7, 8, 9, 10, 35, 54, 57, 58, 11] vs 20), (sl [0, 1, 4, 5, 6, 17, 19, 20, 21, 7, 8, 9, 10, 35, 54, 57, 58, 11] vs 21), (sl [0, 1, 4, 5, 6, 17, 19, 20, 21, 7, 8, 9, 10, 35, 54, 57, 58, 11] vs 7), (sl [0, 1, 4, 5, 6, 17, 19, 20, 21, 7, 8, 9, 10, 35, 54, 57, 58, 11] vs 8), (sl [0, 1, 4, 5, 6, 17, 19, 20, 21, 7, 8, 9, 10, 35, 54, 57, 58, 11] vs 9), x36, x20, (sl [0, 1, 4, 5, 6, 17, 19, 20, 21, 7, 8, 9, 10, 35, 54, 57, 58, 11] vs 54), (sl [0, 1, 4, 5, 6, 17, 19, 20, 21, 7, 8, 9, 10, 35, 54, 57, 58, 11] vs 57), (sl [0, 1, 4, 5, 6, 17, 19, 20, 21, 7, 8, 9, 10, 35, 54, 57, 58, 11] vs 58), (sl [0, 1, 4, 5, 6, 17, 19, 20, 21, 7, 8, 9, 10, 35, 54, 57, 58, 11] vs 11)] H) (
  fin (.exit 2) [(sl [0, 1, 4, 5, 6, 17, 19, 20, 21, 7, 8, 9, 10, 35, 54, 57, 58, 11] vs 0), (sl [0, 1, 4, 5, 6, 17, 19, 20, 21, 7, 8, 9, 10, 35, 54, 57, 58, 11] vs 1), (sl [0, 1, 4, 5, 6, 17, 19, 20, 21, 7, 8, 9, 10, 35, 54, 57, 58, 11] vs 4), (sl [0, 1, 4, 5, 6, 17, 19, 20, 21, 7, 8, 9, 10, 35, 54, 57, 58, 11] vs 5), (sl [0, 1, 4, 5, 6, 17, 19, 20, 21, 7, 8, 9, 10, 35, 54, 57, 58, 11] vs 6), (sl [0, 1, 4, 5, 6, 17, 19, 20, 21, 7, 8, 9, 10, 35, 54, 57, 58, 11] vs 17), (sl [0, 1, 4, 5, 6, 17, 19, 20, 21, 7, 8, 9, 10, 35, 54, 57, 58, 11] vs 19), (sl [0, 1, 4, 5, 6, 17, 19, 20, 21, 7, 8, 9, 10, 35, 54, 57, 58, 11] vs 20), (sl [0, 1, 4, 5, 6, 17, 19, 20, 21, 7, 8, 9, 10, 35, 54, 57, 58, 11] vs 21), (sl [0, 1, 4, 5, 6, 17, 19, 20, 21, 7, 8, 9, 10, 35, 54, 57, 58, 11] vs 7), (sl [0, 1, 4, 5, 6, 17, 19, 20, 21, 7, 8, 9, 10, 35, 54, 57, 58, 11] vs 8), (sl [0, 1, 4, 5, 6, 17, 19, 20, 21, 7, 8, 9, 10, 35, 54, 57, 58, 11] vs 9), (sl [0, 1, 4, 5, 6, 17, 19, 20, 21, 7, 8, 9, 10, 35, 54, 57, 58, 11] vs 10), x20, (sl [0, 1, 4, 5, 6, 17, 19, 20, 21, 7, 8, 9, 10, 35, 54, 57, 58, 11] vs 54), (sl [0, 1, 4, 5, 6, 17, 19, 20, 21, 7, 8, 9, 10, 35, 54, 57, 58, 11] vs 57), (sl [0, 1, 4, 5, 6, 17, 19, 20, 21, 7, 8, 9, 10, 35, 54, 57, 58, 11] vs 58), (sl [0, 1, 4, 5, 6, 17, 19, 20, 21, 7, 8, 9, 10, 35, 54, 57, 58, 11] vs 11)] H)

noncomputable def F9_b1v (C : Oracle) (n : Nat) (v0 v1 v4 v5 v6 v17 v19 v20 v21 v7 v8 v9 v10 v35 v54 v57 v58 v11 : Value) (H : Heap) : AOut :=
  bnd (some (v10, H)) fun x13 H =>
  bnd (some (v1, H)) fun x14 H =>
  bnd (pS (slen x14) H) fun x15 H =>
  bnd (pS (abin Try.prog .lss 3 x13 x15) H) fun x16 H =>
  bnd (some (x16, H)) fun x17 H =>
  bnd (gd (wantV x17 true) (some (v10, H)) H) fun x18 H =>
  bnd (gd (wantV x17 true) (pS (abin Try.prog .lss 3 x18 (Value.int .i64 (200))) H) H) fun x19 H =>
  bnd (pickS x17 x19 (Value.bool false) H) fun x20 H =>
  brB x20 (bnd (some (v5, H)) fun x21 H =>
  bnd (some (v1, H)) fun x22 H =>
  bnd (some (v10, H)) fun x23 H =>
  bnd (iadS 1 x22 x23 H) fun x24 H =>
  bnd (pS (ld1 x24 H) H) fun x25 H =>
  bnd (C 20 [x21, x25, (Value.int .i64 (-7))] H) fun x26 H =>
  bnd (some (v5, H)) fun x27 H =>
  bnd (some (v1, H)) fun x28 H =>
  bnd (some (v10, H)) fun x29 H =>
  bnd (iadS 1 x28 x29 H) fun x30 H =>
  bnd (pS (ld1 x30 H) H) fun x31 H =>
  bnd (pS (abin Try.prog .quo 2 x31 (Value.int .i64 (2))) H) fun x32 H =>
  bnd (C 27 [x27, x32] H) fun x33 H =>
  bnd (some (v10, H)) fun x34 H =>
  bnd (pS (abin Try.prog .add 3 x34 (Value.int .i64 (1))) H) fun x35 H =>
  bnd (some (x35, H)) fun x36 H =>
  fin .normal [v0, v1, v4, v5, v6, v17, v19, v20, v21, v7, v8, v9, x36, x20, v54, v57, v58, v11] H) (
  fin (.exit 2) [v0, v1, v4, v5, v6, v17, v19, v20, v21, v7, v8, v9, v10, x20, v54, v57, v58, v11] H)

theorem F9_b1_v (C : Oracle) (n : Nat) (v0 v1 v4 v5 v6 v17 v19 v20 v21 v7 v8 v9 v10 v35 v54 v57 v58 v11 : Value) (H : Heap) : F9_b1 C n [v0, v1, v4, v5, v6, v17, v19, v20, v21, v7, v8, v9, v10, v35, v54, v57, v58, v11] H = F9_b1v C n v0 v1 v4 v5 v6 v17 v19 v20 v21 v7 v8 v9 v10 v35 v54 v57 v58 v11 H := by
  kernel_rfl

noncomputable def F9_j3 (C : Oracle) (n : Nat) (vs : List Value) (H : Heap) : Option (Value × Heap) :=
  bnd (C 10 [] H) fun x42 H =>
  bnd (some (x42, H)) fun x43 H =>
  bnd (gd (wantV x43 true) (pS (ld1 (sl [0, 1, 4, 5, 6, 17, 19, 20, 21, 7, 8, 9, 10, 35, 54, 57, 58, 11] vs 6) H) H) H) fun x44 H =>
  bnd (gd (wantV x43 true) (C 22 [x44] H) H) fun x45 H =>
  bnd (gd (wantV x43 true) (pS (abin Try.prog .eql 3 x45 (Value.int .i64 (0))) H) H) fun x46 H =>
  bnd (pickS x43 x46 (Value.bool false) H) fun x47 H =>
  bnd (some (x47, H)) fun x48 H =>
  bnd (gd (wantV x48 true) (some ((sl [0, 1, 4, 5, 6, 17, 19, 20, 21, 7, 8, 9, 10, 35, 54, 57, 58, 11] vs 1), H)) H) fun x49 H =>
  bnd (gd (wantV x48 true) (pS (slen x49) H) H) fun x50 H =>
  bnd (gd (wantV x48 true) (pS (abin Try.prog .gtr 3 x50 (Value.int .i64 (0))) H) H) fun x51 H =>
  bnd (gd (wantV x48 true) (some (x51, H)) H) fun x52 H =>
  bnd (gd (wantV x52 false) (some ((sl [0, 1, 4, 5, 6, 17, 19, 20, 21, 7, 8, 9, 10, 35, 54, 57, 58, 11] vs 5), H)) H) fun x53 H =>
  bnd (gd (wantV x52 false) (pS (ld1 (sl [0, 1, 4, 5, 6, 17, 19, 20, 21, 7, 8, 9, 10, 35, 54, 57, 58, 11] vs 7) H) H) H) fun x54 H =>
  bnd (gd (wantV x52 false) (C 32 [x53, x54] H) H) fun x55 H =>
  bnd (gd (wantV x48 true) (pickS x52 (Value.bool true) x55 H) H) fun x56 H =>
  bnd (pickS x48 x56 (Value.bool false) H) fun x57 H =>
  bnd (some (x57, H)) fun x58 H =>
  some (x58, H)

noncomputable def F9_j3v (C : Oracle) (n : Nat) (v0 v1 v4 v5 v6 v17 v19 v20 v21 v7 v8 v9 v10 v35 v54 v57 v58 v11 : Value) (H : Heap) : Option (Value × Heap) :=
  bnd (C 10 [] H) fun x42 H =>
  bnd (some (x42, H)) fun x43 H =>
  bnd (gd (wantV x43 true) (pS (ld1 v6 H) H) H) fun x44 H =>
  bnd (gd (wantV x43 true) (C 22 [x44] H) H) fun x45 H =>
  bnd (gd (wantV x43 true) (pS (abin Try.prog .eql 3 x45 (Value.int .i64 (0))) H) H) fun x46 H =>
  bnd (pickS x43 x46 (Value.bool false) H) fun x47 H =>
  bnd (some (x47, H)) fun x48 H =>
  bnd (gd (wantV x48 true) (some (v1, H)) H) fun x49 H =>
  bnd (gd (wantV x48 true) (pS (slen x49) H) H) fun x50 H =>
  bnd (gd (wantV x48 true) (pS (abin Try.prog .gtr 3 x50 (Value.int .i64 (0))) H) H) fun x51 H =>
  bnd (gd (wantV x48 true) (some (x51, H)) H) fun x52 H =>
  bnd (gd (wantV x52 false) (some (v5, H)) H) fun x53 H =>
  bnd (gd (wantV x52 false) (pS (ld1 v7 H) H) H) fun x54 H =>
  bnd (gd (wantV x52 false) (C 32 [x53, x54] H) H) fun x55 H =>
  bnd (gd (wantV x48 true) (pickS x52 (Value.bool true) x55 H) H) fun x56 H =>
  bnd (pickS x48 x56 (Value.bool false) H) fun x57 H =>
  bnd (some (x57, H)) fun x58 H =>
  some (x58, H)

theorem F9_j3_v (C : Oracle) (n : Nat) (v0 v1 v4 v5 v6 v17 v19 v20 v21 v7 v8 v9 v10 v35 v54 v57 v58 v11 : Value) (H : Heap) : F9_j3 C n [v0, v1, v4, v5, v6, v17, v19, v20, v21, v7, v8, v9, v10, v35, v54, v57, v58, v11] H = F9_j3v C n v0 v1 v4 v5 v6 v17 v19 v20 v21 v7 v8 v9 v10 v35 v54 v57 v58 v11 H := by
  kernel_rfl

noncomputable def F9_L1 (vs : List Value) : ALoop := ⟨[0, 1, 4, 5, 6, 17, 19, 20, 21, 7, 8, 9, 10, 35, 54, 57, 58, 11], vs, (lpAt Try.prog 9 1).1, (lpAt Try.prog 9 1).2.1, (lpAt Try.prog 9 1).2.2⟩

noncomputable def F9_R1 (C : Oracle) (n i : Nat) (v0 v1 v4 v5 v6 v17 v19 v20 v21 v7 v8 v9 v10 v35 v54 v57 v58 v11 : Value) (a0 a1 : Value) (H : Heap) : Option (Value × Heap) :=
  bnd (some (a0, H)) fun x62 H =>
  begR i H fun H =>
  bnd (pS (ld1 v6 H) H) fun x63 H =>
  bnd (some (x62, H)) fun x64 H =>
  bnd (C 27 [x63, x64] H) fun x65 H =>
  endR i .normal H

theorem F9_R1_eq (G : Oracle) (n i : Nat) (v0 v1 v4 v5 v6 v17 v19 v20 v21 v7 v8 v9 v10 v35 v54 v57 v58 v11 : Value) (a0 a1 : Value) (H : Heap) (h : H.oth i = some (.loop (F9_L1 [v0, v1, v4, v5, v6, v17, v19, v20, v21, v7, v8, v9, v10, v35, v54, v57, v58, v11]) .ready)) : run G (n + 1) (Try.prog.funcs.size + i) [a0, a1] H = F9_R1 (run G n) n i v0 v1 v4 v5 v6 v17 v19 v20 v21 v7 v8 v9 v10 v35 v54 v57 v58 v11 a0 a1 H := by
  unfold run; rw [acall_r (by kernel_rfl) h (by kernel_rfl)]
  kernel_rfl

noncomputable def F9_j2 (C : Oracle) (n : Nat) (vs : List Value) (H : Heap) : Option (Value × Heap) :=
  bnd (pS (ld1 (sl [0, 1, 4, 5, 6, 17, 19, 20, 21, 7, 8, 9, 10, 35, 54, 57, 58, 11] vs 6) H) H) fun x37 H =>
  bnd (pS (ld1 (sl [0, 1, 4, 5, 6, 17, 19, 20, 21, 7, 8, 9, 10, 35, 54, 57, 58, 11] vs 7) H) H) fun x38 H =>
  bnd (C 32 [x37, x38] H) fun x39 H =>
  bnd (pS (aun .not x39) H) fun x40 H =>
  brB x40 (bnd (some ((Value.bool false), H)) fun x41 H =>
  some (x41, H)) (
  bnd (some ((sl [0, 1, 4, 5, 6, 17, 19, 20, 21, 7, 8, 9, 10, 35, 54, 57, 58, 11] vs 0), H)) fun x59 H =>
  bnd (C 11 [x59] H) fun x60 H =>
  bnd (C 15 [x60] H) fun x61 H =>
  onRng (rngC Try.prog.funcs.size C x61 (F9_L1 [(sl [0, 1, 4, 5, 6, 17, 19, 20, 21, 7, 8, 9, 10, 35, 54, 57, 58, 11] vs 0), (sl [0, 1, 4, 5, 6, 17, 19, 20, 21, 7, 8, 9, 10, 35, 54, 57, 58, 11] vs 1), (sl [0, 1, 4, 5, 6, 17, 19, 20, 21, 7, 8, 9, 10, 35, 54, 57, 58, 11] vs 4), (sl [0, 1, 4, 5, 6, 17, 19, 20, 21, 7, 8, 9, 10, 35, 54, 57, 58, 11] vs 5), (sl [0, 1, 4, 5, 6, 17, 19, 20, 21, 7, 8, 9, 10, 35, 54, 57, 58, 11] vs 6), (sl [0, 1, 4, 5, 6, 17, 19, 20, 21, 7, 8, 9, 10, 35, 54, 57, 58, 11] vs 17), (sl [0, 1, 4, 5, 6, 17, 19, 20, 21, 7, 8, 9, 10, 35, 54, 57, 58, 11] vs 19), (sl [0, 1, 4, 5, 6, 17, 19, 20, 21, 7, 8, 9, 10, 35, 54, 57, 58, 11] vs 20), (sl [0, 1, 4, 5, 6, 17, 19, 20, 21, 7, 8, 9, 10, 35, 54, 57, 58, 11] vs 21), (sl [0, 1, 4, 5, 6, 17, 19, 20, 21, 7, 8, 9, 10, 35, 54, 57, 58, 11] vs 7), (sl [0, 1, 4, 5, 6, 17, 19, 20, 21, 7, 8, 9, 10, 35, 54, 57, 58, 11] vs 8), (sl [0, 1, 4, 5, 6, 17, 19, 20, 21, 7, 8, 9, 10, 35, 54, 57, 58, 11] vs 9), (sl [0, 1, 4, 5, 6, 17, 19, 20, 21, 7, 8, 9, 10, 35, 54, 57, 58, 11] vs 10), (sl [0, 1, 4, 5, 6, 17, 19, 20, 21, 7, 8, 9, 10, 35, 54, 57, 58, 11] vs 35), x40, x61, (sl [0, 1, 4, 5, 6, 17, 19, 20, 21, 7, 8, 9, 10, 35, 54, 57, 58, 11] vs 58), (sl [0, 1, 4, 5, 6, 17, 19, 20, 21, 7, 8, 9, 10, 35, 54, 57, 58, 11] vs 11)]) H) fun e H => (kBlk 4 (kSeq (F9_j3 C n) (kRet Try.prog [.tmp 4] [0, 1, 4, 5, 6, 17, 19, 20, 21, 7, 8, 9, 10, 35, 54, 57, 58, 11]))) e [(sl [0, 1, 4, 5, 6, 17, 19, 20, 21, 7, 8, 9, 10, 35, 54, 57, 58, 11] vs 0), (sl [0, 1, 4, 5, 6, 17, 19, 20, 21, 7, 8, 9, 10, 35, 54, 57, 58, 11] vs 1), (sl [0, 1, 4, 5, 6, 17, 19, 20, 21, 7, 8, 9, 10, 35, 54, 57, 58, 11] vs 4), (sl [0, 1, 4, 5, 6, 17, 19, 20, 21, 7, 8, 9, 10, 35, 54, 57, 58, 11] vs 5), (sl [0, 1, 4, 5, 6, 17, 19, 20, 21, 7, 8, 9, 10, 35, 54, 57, 58, 11] vs 6), (sl [0, 1, 4, 5, 6, 17, 19, 20, 21, 7, 8, 9, 10, 35, 54, 57, 58, 11] vs 17), (sl [0, 1, 4, 5, 6, 17, 19, 20, 21, 7, 8, 9, 10, 35, 54, 57, 58, 11] vs 19), (sl [0, 1, 4, 5, 6, 17, 19, 20, 21, 7, 8, 9, 10, 35, 54, 57, 58, 11] vs 20), (sl [0, 1, 4, 5, 6, 17, 19, 20, 21, 7, 8, 9, 10, 35, 54, 57, 58, 11] vs 21), (sl [0, 1, 4, 5, 6, 17, 19, 20, 21, 7, 8, 9, 10, 35, 54, 57, 58, 11] vs 7), (sl [0, 1, 4, 5, 6, 17, 19, 20, 21, 7, 8, 9, 10, 35, 54, 57, 58, 11] vs 8), (sl [0, 1, 4, 5, 6, 17, 19, 20, 21, 7, 8, 9, 10, 35, 54, 57, 58, 11] vs 9), (sl [0, 1, 4, 5, 6, 17, 19, 20, 21, 7, 8, 9, 10, 35, 54, 57, 58, 11] vs 10), (sl [0, 1, 4, 5, 6, 17, 19, 20, 21, 7, 8, 9, 10, 35, 54, 57, 58, 11] vs 35), x40, x61, (sl [0, 1, 4, 5, 6, 17, 19, 20, 21, 7, 8, 9, 10, 35, 54, 57, 58, 11] vs 58), (sl [0, 1, 4, 5, 6, 17, 19, 20, 21, 7, 8, 9, 10, 35, 54, 57, 58, 11] vs 11)] H)

noncomputable def F9_j2v (C : Oracle) (n : Nat) (v0 v1 v4 v5 v6 v17 v19 v20 v21 v7 v8 v9 v10 v35 v54 v57 v58 v11 : Value) (H : Heap) : Option (Value × Heap) :=
  bnd (pS (ld1 v6 H) H) fun x37 H =>
  bnd (pS (ld1 v7 H) H) fun x38 H =>
  bnd (C 32 [x37, x38] H) fun x39 H =>
  bnd (pS (aun .not x39) H) fun x40 H =>
  brB x40 (bnd (some ((Value.bool false), H)) fun x41 H =>
  some (x41, H)) (
  bnd (some (v0, H)) fun x59 H =>
  bnd (C 11 [x59] H) fun x60 H =>
  bnd (C 15 [x60] H) fun x61 H =>
  onRng (rngC Try.prog.funcs.size C x61 (F9_L1 [v0, v1, v4, v5, v6, v17, v19, v20, v21, v7, v8, v9, v10, v35, x40, x61, v58, v11]) H) fun e H => (kBlk 4 (kSeq (F9_j3 C n) (kRet Try.prog [.tmp 4] [0, 1, 4, 5, 6, 17, 19, 20, 21, 7, 8, 9, 10, 35, 54, 57, 58, 11]))) e [v0, v1, v4, v5, v6, v17, v19, v20, v21, v7, v8, v9, v10, v35, x40, x61, v58, v11] H)

theorem F9_j2_v (C : Oracle) (n : Nat) (v0 v1 v4 v5 v6 v17 v19 v20 v21 v7 v8 v9 v10 v35 v54 v57 v58 v11 : Value) (H : Heap) : F9_j2 C n [v0, v1, v4, v5, v6, v17, v19, v20, v21, v7, v8, v9, v10, v35, v54, v57, v58, v11] H = F9_j2v C n v0 v1 v4 v5 v6 v17 v19 v20 v21 v7 v8 v9 v10 v35 v54 v57 v58 v11 H := by
  kernel_rfl

noncomputable def F9_j0 (C : Oracle) (n : Nat) (vs : List Value) (H : Heap) : Option (Value × Heap) :=
  bnd (some ((Value.int .i64 (0)), H)) fun x12 H =>
  onOut (iter n (F9_b1 C n) [(sl [0, 1, 4, 5, 6, 17, 19, 20, 21, 7, 8, 9, 10, 35, 54, 57, 58, 11] vs 0), (sl [0, 1, 4, 5, 6, 17, 19, 20, 21, 7, 8, 9, 10, 35, 54, 57, 58, 11] vs 1), (sl [0, 1, 4, 5, 6, 17, 19, 20, 21, 7, 8, 9, 10, 35, 54, 57, 58, 11] vs 4), (sl [0, 1, 4, 5, 6, 17, 19, 20, 21, 7, 8, 9, 10, 35, 54, 57, 58, 11] vs 5), (sl [0, 1, 4, 5, 6, 17, 19, 20, 21, 7, 8, 9, 10, 35, 54, 57, 58, 11] vs 6), (sl [0, 1, 4, 5, 6, 17, 19, 20, 21, 7, 8, 9, 10, 35, 54, 57, 58, 11] vs 17), (sl [0, 1, 4, 5, 6, 17, 19, 20, 21, 7, 8, 9, 10, 35, 54, 57, 58, 11] vs 19), (sl [0, 1, 4, 5, 6, 17, 19, 20, 21, 7, 8, 9, 10, 35, 54, 57, 58, 11] vs 20), (sl [0, 1, 4, 5, 6, 17, 19, 20, 21, 7, 8, 9, 10, 35, 54, 57, 58, 11] vs 21), (sl [0, 1, 4, 5, 6, 17, 19, 20, 21, 7, 8, 9, 10, 35, 54, 57, 58, 11] vs 7), (sl [0, 1, 4, 5, 6, 17, 19, 20, 21, 7, 8, 9, 10, 35, 54, 57, 58, 11] vs 8), (sl [0, 1, 4, 5, 6, 17, 19, 20, 21, 7, 8, 9, 10, 35, 54, 57, 58, 11] vs 9), x12, (sl [0, 1, 4, 5, 6, 17, 19, 20, 21, 7, 8, 9, 10, 35, 54, 57, 58, 11] vs 35), (sl [0, 1, 4, 5, 6, 17, 19, 20, 21, 7, 8, 9, 10, 35, 54, 57, 58, 11] vs 54), (sl [0, 1, 4, 5, 6, 17, 19, 20, 21, 7, 8, 9, 10, 35, 54, 57, 58, 11] vs 57), (sl [0, 1, 4, 5, 6, 17, 19, 20, 21, 7, 8, 9, 10, 35, 54, 57, 58, 11] vs 58), (sl [0, 1, 4, 5, 6, 17, 19, 20, 21, 7, 8, 9, 10, 35, 54, 57, 58, 11] vs 11)] H) (kBlk 2 (kSeq (F9_j2 C n) (kRet Try.prog [.tmp 4] [0, 1, 4, 5, 6, 17, 19, 20, 21, 7, 8, 9, 10, 35, 54, 57, 58, 11])))

noncomputable def F9_j0v (C : Oracle) (n : Nat) (v0 v1 v4 v5 v6 v17 v19 v20 v21 v7 v8 v9 v10 v35 v54 v57 v58 v11 : Value) (H : Heap) : Option (Value × Heap) :=
  bnd (some ((Value.int .i64 (0)), H)) fun x12 H =>
  onOut (iter n (F9_b1 C n) [v0, v1, v4, v5, v6, v17, v19, v20, v21, v7, v8, v9, x12, v35, v54, v57, v58, v11] H) (kBlk 2 (kSeq (F9_j2 C n) (kRet Try.prog [.tmp 4] [0, 1, 4, 5, 6, 17, 19, 20, 21, 7, 8, 9, 10, 35, 54, 57, 58, 11])))

theorem F9_j0_v (C : Oracle) (n : Nat) (v0 v1 v4 v5 v6 v17 v19 v20 v21 v7 v8 v9 v10 v35 v54 v57 v58 v11 : Value) (H : Heap) : F9_j0 C n [v0, v1, v4, v5, v6, v17, v19, v20, v21, v7, v8, v9, v10, v35, v54, v57, v58, v11] H = F9_j0v C n v0 v1 v4 v5 v6 v17 v19 v20 v21 v7 v8 v9 v10 v35 v54 v57 v58 v11 H := by
  kernel_rfl

noncomputable def F9_L0 (vs : List Value) : ALoop := ⟨[0, 1, 4, 5, 6, 17, 19, 20, 21, 7, 8, 9, 10, 35, 54, 57, 58, 11], vs, (lpAt Try.prog 9 0).1, (lpAt Try.prog 9 0).2.1, (lpAt Try.prog 9 0).2.2⟩

noncomputable def F9_R0 (C : Oracle) (n i : Nat) (v0 v1 v4 v5 v6 v17 v19 v20 v21 v7 v8 v9 v10 v35 v54 v57 v58 v11 : Value) (a0 a1 : Value) (H : Heap) : Option (Value × Heap) :=
  bnd (some (a0, H)) fun x68 H =>
  bnd (some (a1, H)) fun x69 H =>
  begR i H fun H =>
  bnd (pS (ld1 v7 H) H) fun x70 H =>
  bnd (some (x68, H)) fun x71 H =>
  bnd (some (x69, H)) fun x72 H =>
  bnd (pS (abuild Try.prog 53 [(0, x71), (1, x72)]) H) fun x73 H =>
  bnd (abuildSlice Try.prog 51 1 [(0, x73)] H) fun x74 H =>
  bnd (appS 53 2 16 x70 x74 H) fun x75 H =>
  bnd (stS 1 v7 x75 H) fun x76 H =>
  endR i .normal H

theorem F9_R0_eq (G : Oracle) (n i : Nat) (v0 v1 v4 v5 v6 v17 v19 v20 v21 v7 v8 v9 v10 v35 v54 v57 v58 v11 : Value) (a0 a1 : Value) (H : Heap) (h : H.oth i = some (.loop (F9_L0 [v0, v1, v4, v5, v6, v17, v19, v20, v21, v7, v8, v9, v10, v35, v54, v57, v58, v11]) .ready)) : run G (n + 1) (Try.prog.funcs.size + i) [a0, a1] H = F9_R0 (run G n) n i v0 v1 v4 v5 v6 v17 v19 v20 v21 v7 v8 v9 v10 v35 v54 v57 v58 v11 a0 a1 H := by
  unfold run; rw [acall_r (by kernel_rfl) h (by kernel_rfl)]
  kernel_rfl

noncomputable def F9 (C : Oracle) (n : Nat) (a0 a1 : Value) (H : Heap) : Option (Value × Heap) :=
  bnd (some ((Value.bool false), H)) fun x0 H =>
  bnd (some (a0, H)) fun x1 H =>
  bnd (C 11 [x1] H) fun x2 H =>
  bnd (some (x2, H)) fun x3 H =>
  bnd (some (x3, H)) fun x4 H =>
  bnd (C 33 [x4] H) fun x5 H =>
  bnd (some (newBlk H 24 1 [(Value.pointer none)])) fun x6 H =>
  bnd (stS 1 x6 x5 H) fun x7 H =>
  bnd (pS (ld1 x6 H) H) fun x8 H =>
  bnd (pS (abin Try.prog .eql 24 x8 (Value.pointer none)) H) fun x9 H =>
  brB x9 (bnd (some ((Value.bool false), H)) fun x10 H =>
  some (x10, H)) (
  bnd (some (newBlk H 51 1 [(Value.slice none 0 0)])) fun x11 H =>
  bnd (some (x3, H)) fun x66 H =>
  bnd (C 15 [x66] H) fun x67 H =>
  onRng (rngC Try.prog.funcs.size C x67 (F9_L0 [a0, a1, x0, x3, x6, x9, x67, undef, undef, x11, undef, undef, undef, undef, undef, undef, undef, undef]) H) fun e H => (kBlk 0 (kSeq (F9_j0 C n) (kRet Try.prog [.tmp 4] [0, 1, 4, 5, 6, 17, 19, 20, 21, 7, 8, 9, 10, 35, 54, 57, 58, 11]))) e [a0, a1, x0, x3, x6, x9, x67, undef, undef, x11, undef, undef, undef, undef, undef, undef, undef, undef] H)

theorem F9_eq (G : Oracle) (n : Nat) (a0 a1 : Value) (H : Heap) : run G (n + 1) 9 [a0, a1] H = F9 (run G n) n a0 a1 H := by
  unfold run; rw [acall_k (fn := Try.f9) (keep := [0, 1, 4, 5, 6, 17, 19, 20, 21, 7, 8, 9, 10, 35, 54, 57, 58, 11]) (notBad 9 rfl) (by kernel_rfl) (by kernel_rfl)]
  kernel_rfl

end Go.Proofs.Ytdgolnenpnkjbaa.Fun
