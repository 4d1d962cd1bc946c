/- The program's functions as plain terms, each with its equation; printed by wip/am/fun.py. -/
import Derived.Test.YtdgolnenpnkjbaaFunK
namespace Go.Proofs.Ytdgolnenpnkjbaa.Fun
open Go.RowKit Go.Proofs.YtdgolnenpnkjbaaA.Am
set_option linter.unusedVariables false
set_option maxRecDepth 10000
abbrev F8_st (v0 : Value := undef) (v1 : Value := undef) (v4 : Value := undef) (v14 : Value := undef) (v8 : Value := undef) (v7 : Value := undef) (v24 : Value := undef) (v5 : Value := undef) (v6 : Value := undef) (v9 : Value := undef) (v55 : Value := undef) (v56 : Value := undef) (v57 : Value := undef) (v10 : Value := undef) (v11 : Value := undef) (v12 : Value := undef) : List Value := [v0, v1, v4, v14, v8, v7, v24, v5, v6, v9, v55, v56, v57, v10, v11, v12]

noncomputable def F8_b0 (C : Oracle) (n : Nat) (vs : List Value) (H : Heap) : AOut :=
  bnd (some ((sl [0, 1, 4, 14, 8, 7, 24, 5, 6, 9, 55, 56, 57, 10, 11, 12] vs 8), H)) fun x15 H =>
  bnd (some ((sl [0, 1, 4, 14, 8, 7, 24, 5, 6, 9, 55, 56, 57, 10, 11, 12] vs 7), H)) fun x16 H =>
  bnd (pS (abin Try.prog .lss 3 x15 x16) H) fun x17 H =>
  brB x17 (bnd (some ((sl [0, 1, 4, 14, 8, 7, 24, 5, 6, 9, 55, 56, 57, 10, 11, 12] vs 5), H)) fun x18 H =>
  bnd (some ((sl [0, 1, 4, 14, 8, 7, 24, 5, 6, 9, 55, 56, 57, 10, 11, 12] vs 0), H)) fun x19 H =>
  bnd (some ((sl [0, 1, 4, 14, 8, 7, 24, 5, 6, 9, 55, 56, 57, 10, 11, 12] vs 8), H)) fun x20 H =>
  bnd (iadS 1 x19 x20 H) fun x21 H =>
  bnd (pS (ld1 x21 H) H) fun x22 H =>
  bnd (some ((sl [0, 1, 4, 14, 8, 7, 24, 5, 6, 9, 55, 56, 57, 10, 11, 12] vs 0), H)) fun x23 H =>
  bnd (some ((sl [0, 1, 4, 14, 8, 7, 24, 5, 6, 9, 55, 56, 57, 10, 11, 12] vs 8), H)) fun x24 H =>
  bnd (iadS 1 x23 x24 H) fun x25 H =>
  bnd (pS (ld1 x25 H) H) fun x26 H =>
  bnd (pS (abin Try.prog .quo 2 x26 (Value.int .i64 (3))) H) fun x27 H =>
  bnd (C 20 [x18, x22, x27] H) fun x28 H =>
  bnd (some ((sl [0, 1, 4, 14, 8, 7, 24, 5, 6, 9, 55, 56, 57, 10, 11, 12] vs 0), H)) fun x29 H =>
  bnd (some ((sl [0, 1, 4, 14, 8, 7, 24, 5, 6, 9, 55, 56, 57, 10, 11, 12] vs 1), H)) fun x30 H =>
  bnd (C 24 [x30, (Value.int .i64 (400))] H) fun x31 H =>
  bnd (some ((sl [0, 1, 4, 14, 8, 7, 24, 5, 6, 9, 55, 56, 57, 10, 11, 12] vs 7), H)) fun x32 H =>
  bnd (pS (abin Try.prog .add 3 x31 x32) H) fun x33 H =>
  bnd (some ((sl [0, 1, 4, 14, 8, 7, 24, 5, 6, 9, 55, 56, 57, 10, 11, 12] vs 8), H)) fun x34 H =>
  bnd (pS (abin Try.prog .sub 3 x33 x34) H) fun x35 H =>
  bnd (some ((sl [0, 1, 4, 14, 8, 7, 24, 5, 6, 9, 55, 56, 57, 10, 11, 12] vs 7), H)) fun x36 H =>
  bnd (C 24 [x35, x36] H) fun x37 H =>
  bnd (iadS 1 x29 x37 H) fun x38 H =>
  bnd (pS (ld1 x38 H) H) fun x39 H =>
  bnd (some (x39, H)) fun x40 H =>
  bnd (some ((sl [0, 1, 4, 14, 8, 7, 24, 5, 6, 9, 55, 56, 57, 10, 11, 12] vs 6), H)) fun x41 H =>
  bnd (some (x40, H)) fun x42 H =>
  bnd (some (x40, H)) fun x43 H =>
  bnd (pS (abin Try.prog .quo 2 x43 (Value.int .i64 (3))) H) fun x44 H =>
  bnd (C 20 [x41, x42, x44] H) fun x45 H =>
  bnd (some ((sl [0, 1, 4, 14, 8, 7, 24, 5, 6, 9, 55, 56, 57, 10, 11, 12] vs 8), H)) fun x46 H =>
  bnd (pS (abin Try.prog .add 3 x46 (Value.int .i64 (1))) H) fun x47 H =>
  bnd (some (x47, H)) fun x48 H =>
  fin .normal [(sl [0, 1, 4, 14, 8, 7, 24, 5, 6, 9, 55, 56, 57, 10, 11, 12] vs 0), (sl [0, 1, 4, 14, 8, 7, 24, 5, 6, 9, 55, 56, 57, 10, 11, 12] vs 1), (sl [0, 1, 4, 14, 8, 7, 24, 5, 6, 9, 55, 56, 57, 10, 11, 12] vs 4), (sl [0, 1, 4, 14, 8, 7, 24, 5, 6, 9, 55, 56, 57, 10, 11, 12] vs 14), x48, (sl [0, 1, 4, 14, 8, 7, 24, 5, 6, 9, 55, 56, 57, 10, 11, 12] vs 7), x17, (sl [0, 1, 4, 14, 8, 7, 24, 5, 6, 9, 55, 56, 57, 10, 11, 12] vs 5), (sl [0, 1, 4, 14, 8, 7, 24, 5, 6, 9, 55, 56, 57, 10, 11, 12] vs 6), x40, (sl [0, 1, 4, 14, 8, 7, 24, 5, 6, 9, 55, 56, 57, 10, 11, 12] vs 55), (sl [0, 1, 4, 14, 8, 7, 24, 5, 6, 9, 55, 56, 57, 10, 11, 12] vs 56), (sl [0, 1, 4, 14, 8, 7, 24, 5, 6, 9, 55, 56, 57, 10, 11, 12] vs 57), (sl [0, 1, 4, 14, 8, 7, 24, 5, 6, 9, 55, 56, 57, 10, 11, 12] vs 10), (sl [0, 1, 4, 14, 8, 7, 24, 5, 6, 9, 55, 56, 57, 10, 11, 12] vs 11), (sl [0, 1, 4, 14, 8, 7, 24, 5, 6, 9, 55, 56, 57, 10, 11, 12] vs 12)] H) (
  fin (.exit 0) [(sl [0, 1, 4, 14, 8, 7, 24, 5, 6, 9, 55, 56, 57, 10, 11, 12] vs 0), (sl [0, 1, 4, 14, 8, 7, 24, 5, 6, 9, 55, 56, 57, 10, 11, 12] vs 1), (sl [0, 1, 4, 14, 8, 7, 24, 5, 6, 9, 55, 56, 57, 10, 11, 12] vs 4), (sl [0, 1, 4, 14, 8, 7, 24, 5, 6, 9, 55, 56, 57, 10, 11, 12] vs 14), (sl [0, 1, 4, 14, 8, 7, 24, 5, 6, 9, 55, 56, 57, 10, 11, 12] vs 8), (sl [0, 1, 4, 14, 8, 7, 24, 5, 6, 9, 55, 56, 57, 10, 11, 12] vs 7), x17, (sl [0, 1, 4, 14, 8, 7, 24, 5, 6, 9, 55, 56, 57, 10, 11, 12] vs 5), (sl [0, 1, 4, 14, 8, 7, 24, 5, 6, 9, 55, 56, 57, 10, 11, 12] vs 6), (sl [0, 1, 4, 14, 8, 7, 24, 5, 6, 9, 55, 56, 57, 10, 11, 12] vs 9), (sl [0, 1, 4, 14, 8, 7, 24, 5, 6, 9, 55, 56, 57, 10, 11, 12] vs 55), (sl [0, 1, 4, 14, 8, 7, 24, 5, 6, 9, 55, 56, 57, 10, 11, 12] vs 56), (sl [0, 1, 4, 14, 8, 7, 24, 5, 6, 9, 55, 56, 57, 10, 11, 12] vs 57), (sl [0, 1, 4, 14, 8, 7, 24, 5, 6, 9, 55, 56, 57, 10, 11, 12] vs 10), (sl [0, 1, 4, 14, 8, 7, 24, 5, 6, 9, 55, 56, 57, 10, 11, 12] vs 11), (sl [0, 1, 4, 14, 8, 7, 24, 5, 6, 9, 55, 56, 57, 10, 11, 12] vs 12)] H)

noncomputable def F8_b0v (C : Oracle) (n : Nat) (v0 v1 v4 v14 v8 v7 v24 v5 v6 v9 v55 v56 v57 v10 v11 v12 : Value) (H : Heap) : AOut :=
  bnd (some (v8, H)) fun x15 H =>
  bnd (some (v7, H)) fun x16 H =>
  bnd (pS (abin Try.prog .lss 3 x15 x16) H) fun x17 H =>
  brB x17 (bnd (some (v5, H)) fun x18 H =>
  bnd (some (v0, H)) fun x19 H =>
  bnd (some (v8, H)) fun x20 H =>
  bnd (iadS 1 x19 x20 H) fun x21 H =>
  bnd (pS (ld1 x21 H) H) fun x22 H =>
  bnd (some (v0, H)) fun x23 H =>
  bnd (some (v8, H)) fun x24 H =>
  bnd (iadS 1 x23 x24 H) fun x25 H =>
  bnd (pS (ld1 x25 H) H) fun x26 H =>
  bnd (pS (abin Try.prog .quo 2 x26 (Value.int .i64 (3))) H) fun x27 H =>
  bnd (C 20 [x18, x22, x27] H) fun x28 H =>
  bnd (some (v0, H)) fun x29 H =>
  bnd (some (v1, H)) fun x30 H =>
  bnd (C 24 [x30, (Value.int .i64 (400))] H) fun x31 H =>
  bnd (some (v7, H)) fun x32 H =>
  bnd (pS (abin Try.prog .add 3 x31 x32) H) fun x33 H =>
  bnd (some (v8, H)) fun x34 H =>
  bnd (pS (abin Try.prog .sub 3 x33 x34) H) fun x35 H =>
  bnd (some (v7, H)) fun x36 H =>
  bnd (C 24 [x35, x36] H) fun x37 H =>
  bnd (iadS 1 x29 x37 H) fun x38 H =>
  bnd (pS (ld1 x38 H) H) fun x39 H =>
  bnd (some (x39, H)) fun x40 H =>
  bnd (some (v6, H)) fun x41 H =>
  bnd (some (x40, H)) fun x42 H =>
  bnd (some (x40, H)) fun x43 H =>
  bnd (pS (abin Try.prog .quo 2 x43 (Value.int .i64 (3))) H) fun x44 H =>
  bnd (C 20 [x41, x42, x44] H) fun x45 H =>
  bnd (some (v8, H)) fun x46 H =>
  bnd (pS (abin Try.prog .add 3 x46 (Value.int .i64 (1))) H) fun x47 H =>
  bnd (some (x47, H)) fun x48 H =>
  fin .normal [v0, v1, v4, v14, x48, v7, x17, v5, v6, x40, v55, v56, v57, v10, v11, v12] H) (
  fin (.exit 0) [v0, v1, v4, v14, v8, v7, x17, v5, v6, v9, v55, v56, v57, v10, v11, v12] H)

theorem F8_b0_v (C : Oracle) (n : Nat) (v0 v1 v4 v14 v8 v7 v24 v5 v6 v9 v55 v56 v57 v10 v11 v12 : Value) (H : Heap) : F8_b0 C n [v0, v1, v4, v14, v8, v7, v24, v5, v6, v9, v55, v56, v57, v10, v11, v12] H = F8_b0v C n v0 v1 v4 v14 v8 v7 v24 v5 v6 v9 v55 v56 v57 v10 v11 v12 H := by
  kernel_rfl

noncomputable def F8_j2 (C : Oracle) (n : Nat) (vs : List Value) (H : Heap) : Option (Value × Heap) :=
  bnd (C 10 [] H) fun x50 H =>
  bnd (some (x50, H)) fun x51 H =>
  bnd (gd (wantV x51 true) (some ((sl [0, 1, 4, 14, 8, 7, 24, 5, 6, 9, 55, 56, 57, 10, 11, 12] vs 6), H)) H) fun x52 H =>
  bnd (gd (wantV x51 true) (pS (ld1 (sl [0, 1, 4, 14, 8, 7, 24, 5, 6, 9, 55, 56, 57, 10, 11, 12] vs 10) H) H) H) fun x53 H =>
  bnd (gd (wantV x51 true) (C 32 [x52, x53] H) H) fun x54 H =>
  bnd (pickS x51 x54 (Value.bool false) H) fun x55 H =>
  bnd (some (x55, H)) fun x56 H =>
  bnd (gd (wantV x56 true) (some ((sl [0, 1, 4, 14, 8, 7, 24, 5, 6, 9, 55, 56, 57, 10, 11, 12] vs 5), H)) H) fun x57 H =>
  bnd (gd (wantV x56 true) (pS (ld1 (sl [0, 1, 4, 14, 8, 7, 24, 5, 6, 9, 55, 56, 57, 10, 11, 12] vs 10) H) H) H) fun x58 H =>
  bnd (gd (wantV x56 true) (C 32 [x57, x58] H) H) fun x59 H =>
  bnd (pickS x56 x59 (Value.bool false) H) fun x60 H =>
  bnd (some (x60, H)) fun x61 H =>
  some (x61, H)

noncomputable def F8_j2v (C : Oracle) (n : Nat) (v0 v1 v4 v14 v8 v7 v24 v5 v6 v9 v55 v56 v57 v10 v11 v12 : Value) (H : Heap) : Option (Value × Heap) :=
  bnd (C 10 [] H) fun x50 H =>
  bnd (some (x50, H)) fun x51 H =>
  bnd (gd (wantV x51 true) (some (v6, H)) H) fun x52 H =>
  bnd (gd (wantV x51 true) (pS (ld1 v10 H) H) H) fun x53 H =>
  bnd (gd (wantV x51 true) (C 32 [x52, x53] H) H) fun x54 H =>
  bnd (pickS x51 x54 (Value.bool false) H) fun x55 H =>
  bnd (some (x55, H)) fun x56 H =>
  bnd (gd (wantV x56 true) (some (v5, H)) H) fun x57 H =>
  bnd (gd (wantV x56 true) (pS (ld1 v10 H) H) H) fun x58 H =>
  bnd (gd (wantV x56 true) (C 32 [x57, x58] H) H) fun x59 H =>
  bnd (pickS x56 x59 (Value.bool false) H) fun x60 H =>
  bnd (some (x60, H)) fun x61 H =>
  some (x61, H)

theorem F8_j2_v (C : Oracle) (n : Nat) (v0 v1 v4 v14 v8 v7 v24 v5 v6 v9 v55 v56 v57 v10 v11 v12 : Value) (H : Heap) : F8_j2 C n [v0, v1, v4, v14, v8, v7, v24, v5, v6, v9, v55, v56, v57, v10, v11, v12] H = F8_j2v C n v0 v1 v4 v14 v8 v7 v24 v5 v6 v9 v55 v56 v57 v10 v11 v12 H := by
  kernel_rfl

noncomputable def F8_L0 (vs : List Value) : ALoop := ⟨[0, 1, 4, 14, 8, 7, 24, 5, 6, 9, 55, 56, 57, 10, 11, 12], vs, (lpAt Try.prog 8 0).1, (lpAt Try.prog 8 0).2.1, (lpAt Try.prog 8 0).2.2⟩

noncomputable def F8_R0 (C : Oracle) (n i : Nat) (v0 v1 v4 v14 v8 v7 v24 v5 v6 v9 v55 v56 v57 v10 v11 v12 : Value) (a0 a1 : Value) (H : Heap) : Option (Value × Heap) :=
  bnd (some (a0, H)) fun x64 H =>
  bnd (some (a1, H)) fun x65 H =>
  begR i H fun H =>
  bnd (pS (ld1 v10 H) H) fun x66 H =>
  bnd (some (x64, H)) fun x67 H =>
  bnd (some (x65, H)) fun x68 H =>
  bnd (pS (abuild Try.prog 53 [(0, x67), (1, x68)]) H) fun x69 H =>
  bnd (abuildSlice Try.prog 51 1 [(0, x69)] H) fun x70 H =>
  bnd (appS 53 2 16 x66 x70 H) fun x71 H =>
  bnd (stS 1 v10 x71 H) fun x72 H =>
  endR i .normal H

theorem F8_R0_eq (G : Oracle) (n i : Nat) (v0 v1 v4 v14 v8 v7 v24 v5 v6 v9 v55 v56 v57 v10 v11 v12 : Value) (a0 a1 : Value) (H : Heap) (h : H.oth i = some (.loop (F8_L0 [v0, v1, v4, v14, v8, v7, v24, v5, v6, v9, v55, v56, v57, v10, v11, v12]) .ready)) : run G (n + 1) (Try.prog.funcs.size + i) [a0, a1] H = F8_R0 (run G n) n i v0 v1 v4 v14 v8 v7 v24 v5 v6 v9 v55 v56 v57 v10 v11 v12 a0 a1 H := by
  unfold run; rw [acall_r (by kernel_rfl) h (by kernel_rfl)]
  kernel_rfl

noncomputable def F8_j1 (C : Oracle) (n : Nat) (vs : List Value) (H : Heap) : Option (Value × Heap) :=
  bnd (some (newBlk H 51 1 [(Value.slice none 0 0)])) fun x49 H =>
  bnd (some ((sl [0, 1, 4, 14, 8, 7, 24, 5, 6, 9, 55, 56, 57, 10, 11, 12] vs 5), H)) fun x62 H =>
  bnd (C 15 [x62] H) fun x63 H =>
  onRng (rngC Try.prog.funcs.size C x63 (F8_L0 [(sl [0, 1, 4, 14, 8, 7, 24, 5, 6, 9, 55, 56, 57, 10, 11, 12] vs 0), (sl [0, 1, 4, 14, 8, 7, 24, 5, 6, 9, 55, 56, 57, 10, 11, 12] vs 1), (sl [0, 1, 4, 14, 8, 7, 24, 5, 6, 9, 55, 56, 57, 10, 11, 12] vs 4), (sl [0, 1, 4, 14, 8, 7, 24, 5, 6, 9, 55, 56, 57, 10, 11, 12] vs 14), (sl [0, 1, 4, 14, 8, 7, 24, 5, 6, 9, 55, 56, 57, 10, 11, 12] vs 8), (sl [0, 1, 4, 14, 8, 7, 24, 5, 6, 9, 55, 56, 57, 10, 11, 12] vs 7), (sl [0, 1, 4, 14, 8, 7, 24, 5, 6, 9, 55, 56, 57, 10, 11, 12] vs 24), (sl [0, 1, 4, 14, 8, 7, 24, 5, 6, 9, 55, 56, 57, 10, 11, 12] vs 5), (sl [0, 1, 4, 14, 8, 7, 24, 5, 6, 9, 55, 56, 57, 10, 11, 12] vs 6), (sl [0, 1, 4, 14, 8, 7, 24, 5, 6, 9, 55, 56, 57, 10, 11, 12] vs 9), x63, (sl [0, 1, 4, 14, 8, 7, 24, 5, 6, 9, 55, 56, 57, 10, 11, 12] vs 56), (sl [0, 1, 4, 14, 8, 7, 24, 5, 6, 9, 55, 56, 57, 10, 11, 12] vs 57), x49, (sl [0, 1, 4, 14, 8, 7, 24, 5, 6, 9, 55, 56, 57, 10, 11, 12] vs 11), (sl [0, 1, 4, 14, 8, 7, 24, 5, 6, 9, 55, 56, 57, 10, 11, 12] vs 12)]) H) fun e H => (kBlk 2 (kSeq (F8_j2 C n) (kRet Try.prog [.tmp 4] [0, 1, 4, 14, 8, 7, 24, 5, 6, 9, 55, 56, 57, 10, 11, 12]))) e [(sl [0, 1, 4, 14, 8, 7, 24, 5, 6, 9, 55, 56, 57, 10, 11, 12] vs 0), (sl [0, 1, 4, 14, 8, 7, 24, 5, 6, 9, 55, 56, 57, 10, 11, 12] vs 1), (sl [0, 1, 4, 14, 8, 7, 24, 5, 6, 9, 55, 56, 57, 10, 11, 12] vs 4), (sl [0, 1, 4, 14, 8, 7, 24, 5, 6, 9, 55, 56, 57, 10, 11, 12] vs 14), (sl [0, 1, 4, 14, 8, 7, 24, 5, 6, 9, 55, 56, 57, 10, 11, 12] vs 8), (sl [0, 1, 4, 14, 8, 7, 24, 5, 6, 9, 55, 56, 57, 10, 11, 12] vs 7), (sl [0, 1, 4, 14, 8, 7, 24, 5, 6, 9, 55, 56, 57, 10, 11, 12] vs 24), (sl [0, 1, 4, 14, 8, 7, 24, 5, 6, 9, 55, 56, 57, 10, 11, 12] vs 5), (sl [0, 1, 4, 14, 8, 7, 24, 5, 6, 9, 55, 56, 57, 10, 11, 12] vs 6), (sl [0, 1, 4, 14, 8, 7, 24, 5, 6, 9, 55, 56, 57, 10, 11, 12] vs 9), x63, (sl [0, 1, 4, 14, 8, 7, 24, 5, 6, 9, 55, 56, 57, 10, 11, 12] vs 56), (sl [0, 1, 4, 14, 8, 7, 24, 5, 6, 9, 55, 56, 57, 10, 11, 12] vs 57), x49, (sl [0, 1, 4, 14, 8, 7, 24, 5, 6, 9, 55, 56, 57, 10, 11, 12] vs 11), (sl [0, 1, 4, 14, 8, 7, 24, 5, 6, 9, 55, 56, 57, 10, 11, 12] vs 12)] H

noncomputable def F8_j1v (C : Oracle) (n : Nat) (v0 v1 v4 v14 v8 v7 v24 v5 v6 v9 v55 v56 v57 v10 v11 v12 : Value) (H : Heap) : Option (Value × Heap) :=
  bnd (some (newBlk H 51 1 [(Value.slice none 0 0)])) fun x49 H =>
  bnd (some (v5, H)) fun x62 H =>
  bnd (C 15 [x62] H) fun x63 H =>
  onRng (rngC Try.prog.funcs.size C x63 (F8_L0 [v0, v1, v4, v14, v8, v7, v24, v5, v6, v9, x63, v56, v57, x49, v11, v12]) H) fun e H => (kBlk 2 (kSeq (F8_j2 C n) (kRet Try.prog [.tmp 4] [0, 1, 4, 14, 8, 7, 24, 5, 6, 9, 55, 56, 57, 10, 11, 12]))) e [v0, v1, v4, v14, v8, v7, v24, v5, v6, v9, x63, v56, v57, x49, v11, v12] H

theorem F8_j1_v (C : Oracle) (n : Nat) (v0 v1 v4 v14 v8 v7 v24 v5 v6 v9 v55 v56 v57 v10 v11 v12 : Value) (H : Heap) : F8_j1 C n [v0, v1, v4, v14, v8, v7, v24, v5, v6, v9, v55, v56, v57, v10, v11, v12] H = F8_j1v C n v0 v1 v4 v14 v8 v7 v24 v5 v6 v9 v55 v56 v57 v10 v11 v12 H := by
  kernel_rfl

noncomputable def F8 (C : Oracle) (n : Nat) (a0 a1 : Value) (H : Heap) : Option (Value × Heap) :=
  bnd (some ((Value.bool false), H)) fun x0 H =>
  bnd (C 10 [] H) fun x1 H =>
  bnd (pS (aun .not x1) H) fun x2 H =>
  brB x2 (bnd (some ((Value.bool false), H)) fun x3 H =>
  some (x3, H)) (
  bnd (pS (abuild Try.prog 48 []) H) fun x4 H =>
  bnd (boxS 48 x4 H) fun x5 H =>
  bnd (pS (abuild Try.prog 48 []) H) fun x6 H =>
  bnd (boxS 48 x6 H) fun x7 H =>
  bnd (some (x5, H)) fun x8 H =>
  bnd (some (x7, H)) fun x9 H =>
  bnd (some (a0, H)) fun x10 H =>
  bnd (pS (slen x10) H) fun x11 H =>
  bnd (minS x11 (Value.int .i64 (200)) H) fun x12 H =>
  bnd (some (x12, H)) fun x13 H =>
  bnd (some ((Value.int .i64 (0)), H)) fun x14 H =>
  onOut (iter n (F8_b0 C n) [a0, a1, x0, x2, x14, x13, undef, x8, x9, undef, undef, undef, undef, undef, undef, undef] H) (kBlk 0 (kSeq (F8_j1 C n) (kRet Try.prog [.tmp 4] [0, 1, 4, 14, 8, 7, 24, 5, 6, 9, 55, 56, 57, 10, 11, 12]))))

theorem F8_eq (G : Oracle) (n : Nat) (a0 a1 : Value) (H : Heap) : run G (n + 1) 8 [a0, a1] H = F8 (run G n) n a0 a1 H := by
  unfold run; rw [acall_k (fn := Try.f8) (keep := [0, 1, 4, 14, 8, 7, 24, 5, 6, 9, 55, 56, 57, 10, 11, 12]) (notBad 8 rfl) (by kernel_rfl) (by kernel_rfl)]
  kernel_rfl

end Go.Proofs.Ytdgolnenpnkjbaa.Fun
