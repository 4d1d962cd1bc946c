/- The program's functions as plain terms, each with its equation; printed by wip/am/fun.py. -/
import Derived.Test.YtgakioiplkehgaaFunK
namespace Go.Proofs.Ytgakioiplkehgaa.Fun
open Go.RowKit Go.Proofs.YtgakioiplkehgaaA.Am
set_option linter.unusedVariables false
set_option maxRecDepth 10000
abbrev F6_st (v0 : Value := undef) (v1 : Value := undef) (v4 : Value := undef) (v8 : Value := undef) (v7 : Value := undef) (v17 : Value := undef) (v6 : Value := undef) (v9 : Value := undef) (v5 : Value := undef) (v10 : Value := undef) (v71 : Value := undef) (v96 : Value := undef) (v99 : Value := undef) (v11 : Value := undef) (v109 : Value := undef) : List Value := [v0, v1, v4, v8, v7, v17, v6, v9, v5, v10, v71, v96, v99, v11, v109]

noncomputable def F6_j1 (C : Oracle) (n : Nat) (vs : List Value) (H : Heap) : AOut :=
  bnd (some ((sl [0, 1, 4, 8, 7, 17, 6, 9, 5, 10, 71, 96, 99, 11, 109] vs 8), H)) fun x11 H =>
  bnd (pS (abin Try.prog .add 3 x11 (Value.int .i64 (1))) H) fun x12 H =>
  bnd (some (x12, H)) fun x13 H =>
  fin .normal [(sl [0, 1, 4, 8, 7, 17, 6, 9, 5, 10, 71, 96, 99, 11, 109] vs 0), (sl [0, 1, 4, 8, 7, 17, 6, 9, 5, 10, 71, 96, 99, 11, 109] vs 1), (sl [0, 1, 4, 8, 7, 17, 6, 9, 5, 10, 71, 96, 99, 11, 109] vs 4), x13, (sl [0, 1, 4, 8, 7, 17, 6, 9, 5, 10, 71, 96, 99, 11, 109] vs 7), (sl [0, 1, 4, 8, 7, 17, 6, 9, 5, 10, 71, 96, 99, 11, 109] vs 17), (sl [0, 1, 4, 8, 7, 17, 6, 9, 5, 10, 71, 96, 99, 11, 109] vs 6), (sl [0, 1, 4, 8, 7, 17, 6, 9, 5, 10, 71, 96, 99, 11, 109] vs 9), (sl [0, 1, 4, 8, 7, 17, 6, 9, 5, 10, 71, 96, 99, 11, 109] vs 5), (sl [0, 1, 4, 8, 7, 17, 6, 9, 5, 10, 71, 96, 99, 11, 109] vs 10), (sl [0, 1, 4, 8, 7, 17, 6, 9, 5, 10, 71, 96, 99, 11, 109] vs 71), (sl [0, 1, 4, 8, 7, 17, 6, 9, 5, 10, 71, 96, 99, 11, 109] vs 96), (sl [0, 1, 4, 8, 7, 17, 6, 9, 5, 10, 71, 96, 99, 11, 109] vs 99), (sl [0, 1, 4, 8, 7, 17, 6, 9, 5, 10, 71, 96, 99, 11, 109] vs 11), (sl [0, 1, 4, 8, 7, 17, 6, 9, 5, 10, 71, 96, 99, 11, 109] vs 109)] H

noncomputable def F6_j1v (C : Oracle) (n : Nat) (v0 v1 v4 v8 v7 v17 v6 v9 v5 v10 v71 v96 v99 v11 v109 : Value) (H : Heap) : AOut :=
  bnd (some (v8, H)) fun x11 H =>
  bnd (pS (abin Try.prog .add 3 x11 (Value.int .i64 (1))) H) fun x12 H =>
  bnd (some (x12, H)) fun x13 H =>
  fin .normal [v0, v1, v4, x13, v7, v17, v6, v9, v5, v10, v71, v96, v99, v11, v109] H

theorem F6_j1_v (C : Oracle) (n : Nat) (v0 v1 v4 v8 v7 v17 v6 v9 v5 v10 v71 v96 v99 v11 v109 : Value) (H : Heap) : F6_j1 C n [v0, v1, v4, v8, v7, v17, v6, v9, v5, v10, v71, v96, v99, v11, v109] H = F6_j1v C n v0 v1 v4 v8 v7 v17 v6 v9 v5 v10 v71 v96 v99 v11 v109 H := by
  kernel_rfl

noncomputable def F6_j2 (C : Oracle) (n : Nat) (vs : List Value) (H : Heap) : AOut :=
  bnd (some ((sl [0, 1, 4, 8, 7, 17, 6, 9, 5, 10, 71, 96, 99, 11, 109] vs 5), H)) fun x49 H =>
  bnd (some ((sl [0, 1, 4, 8, 7, 17, 6, 9, 5, 10, 71, 96, 99, 11, 109] vs 8), H)) fun x50 H =>
  bnd (pS (abin Try.prog .rem 3 x50 (Value.int .i64 (5))) H) fun x51 H =>
  bnd (some ((sl [0, 1, 4, 8, 7, 17, 6, 9, 5, 10, 71, 96, 99, 11, 109] vs 8), H)) fun x52 H =>
  bnd (pS (ldn 6 (sl [0, 1, 4, 8, 7, 17, 6, 9, 5, 10, 71, 96, 99, 11, 109] vs 10) H) H) fun x53 H =>
  bnd (pS (abuild Try.prog 31 [(0, (Value.int .i64 (3))), (1, x51), (2, x52), (4, x53)]) H) fun x54 H =>
  bnd (abuildSlice Try.prog 32 1 [(0, x54)] H) fun x55 H =>
  bnd (appS 31 13 120 x49 x55 H) fun x56 H =>
  bnd (some (x56, H)) fun x57 H =>
  F6_j1 C n [(sl [0, 1, 4, 8, 7, 17, 6, 9, 5, 10, 71, 96, 99, 11, 109] vs 0), (sl [0, 1, 4, 8, 7, 17, 6, 9, 5, 10, 71, 96, 99, 11, 109] vs 1), (sl [0, 1, 4, 8, 7, 17, 6, 9, 5, 10, 71, 96, 99, 11, 109] vs 4), (sl [0, 1, 4, 8, 7, 17, 6, 9, 5, 10, 71, 96, 99, 11, 109] vs 8), (sl [0, 1, 4, 8, 7, 17, 6, 9, 5, 10, 71, 96, 99, 11, 109] vs 7), (sl [0, 1, 4, 8, 7, 17, 6, 9, 5, 10, 71, 96, 99, 11, 109] vs 17), (sl [0, 1, 4, 8, 7, 17, 6, 9, 5, 10, 71, 96, 99, 11, 109] vs 6), (sl [0, 1, 4, 8, 7, 17, 6, 9, 5, 10, 71, 96, 99, 11, 109] vs 9), x57, (sl [0, 1, 4, 8, 7, 17, 6, 9, 5, 10, 71, 96, 99, 11, 109] vs 10), (sl [0, 1, 4, 8, 7, 17, 6, 9, 5, 10, 71, 96, 99, 11, 109] vs 71), (sl [0, 1, 4, 8, 7, 17, 6, 9, 5, 10, 71, 96, 99, 11, 109] vs 96), (sl [0, 1, 4, 8, 7, 17, 6, 9, 5, 10, 71, 96, 99, 11, 109] vs 99), (sl [0, 1, 4, 8, 7, 17, 6, 9, 5, 10, 71, 96, 99, 11, 109] vs 11), (sl [0, 1, 4, 8, 7, 17, 6, 9, 5, 10, 71, 96, 99, 11, 109] vs 109)] H

noncomputable def F6_j2v (C : Oracle) (n : Nat) (v0 v1 v4 v8 v7 v17 v6 v9 v5 v10 v71 v96 v99 v11 v109 : Value) (H : Heap) : AOut :=
  bnd (some (v5, H)) fun x49 H =>
  bnd (some (v8, H)) fun x50 H =>
  bnd (pS (abin Try.prog .rem 3 x50 (Value.int .i64 (5))) H) fun x51 H =>
  bnd (some (v8, H)) fun x52 H =>
  bnd (pS (ldn 6 v10 H) H) fun x53 H =>
  bnd (pS (abuild Try.prog 31 [(0, (Value.int .i64 (3))), (1, x51), (2, x52), (4, x53)]) H) fun x54 H =>
  bnd (abuildSlice Try.prog 32 1 [(0, x54)] H) fun x55 H =>
  bnd (appS 31 13 120 x49 x55 H) fun x56 H =>
  bnd (some (x56, H)) fun x57 H =>
  F6_j1 C n [v0, v1, v4, v8, v7, v17, v6, v9, x57, v10, v71, v96, v99, v11, v109] H

theorem F6_j2_v (C : Oracle) (n : Nat) (v0 v1 v4 v8 v7 v17 v6 v9 v5 v10 v71 v96 v99 v11 v109 : Value) (H : Heap) : F6_j2 C n [v0, v1, v4, v8, v7, v17, v6, v9, v5, v10, v71, v96, v99, v11, v109] H = F6_j2v C n v0 v1 v4 v8 v7 v17 v6 v9 v5 v10 v71 v96 v99 v11 v109 H := by
  kernel_rfl

noncomputable def F6_b0 (C : Oracle) (n : Nat) (vs : List Value) (H : Heap) : AOut :=
  bnd (some ((sl [0, 1, 4, 8, 7, 17, 6, 9, 5, 10, 71, 96, 99, 11, 109] vs 8), H)) fun x8 H =>
  bnd (some ((sl [0, 1, 4, 8, 7, 17, 6, 9, 5, 10, 71, 96, 99, 11, 109] vs 7), H)) fun x9 H =>
  bnd (pS (abin Try.prog .lss 3 x8 x9) H) fun x10 H =>
  brB x10 (holesK 1 H fun hb H =>
  bnd (some ((sl [0, 1, 4, 8, 7, 17, 6, 9, 5, 10, 71, 96, 99, 11, 109] vs 0), H)) fun x14 Hx14 =>
  bnd (some ((sl [0, 1, 4, 8, 7, 17, 6, 9, 5, 10, 71, 96, 99, 11, 109] vs 8), Hx14)) fun x15 Hx15 =>
  bnd (iadS 1 x14 x15 Hx15) fun x16 Hx16 =>
  bnd (pS (ld1 x16 Hx16) Hx16) fun x17 Hx17 =>
  bnd (C 9 [x17, (Value.int .i64 (10))] Hx17) fun x18 Hx18 =>
  bnd (pS (abin Try.prog .add 3 (Value.int .i64 (1)) x18) Hx18) fun x19 Hx19 =>
  bnd (some ((sl [0, 1, 4, 8, 7, 17, 6, 9, 5, 10, 71, 96, 99, 11, 109] vs 0), Hx19)) fun x20 Hx20 =>
  bnd (some ((sl [0, 1, 4, 8, 7, 17, 6, 9, 5, 10, 71, 96, 99, 11, 109] vs 8), Hx20)) fun x21 Hx21 =>
  bnd (iadS 1 x20 x21 Hx21) fun x22 Hx22 =>
  bnd (pS (ld1 x22 Hx22) Hx22) fun x23 Hx23 =>
  bnd (pS (abin Try.prog .quo 3 x23 (Value.int .i64 (10))) Hx23) fun x24 Hx24 =>
  bnd (C 9 [x24, (Value.int .i64 (12))] Hx24) fun x25 Hx25 =>
  bnd (some ((sl [0, 1, 4, 8, 7, 17, 6, 9, 5, 10, 71, 96, 99, 11, 109] vs 0), Hx25)) fun x26 Hx26 =>
  bnd (some ((sl [0, 1, 4, 8, 7, 17, 6, 9, 5, 10, 71, 96, 99, 11, 109] vs 8), Hx26)) fun x27 Hx27 =>
  bnd (iadS 1 x26 x27 Hx27) fun x28 Hx28 =>
  bnd (pS (ld1 x28 Hx28) Hx28) fun x29 Hx29 =>
  bnd (pS (abin Try.prog .quo 3 x29 (Value.int .i64 (120))) Hx29) fun x30 Hx30 =>
  bnd (C 9 [x30, (Value.int .i64 (20))] Hx30) fun x31 Hx31 =>
  bnd (pS (abuild Try.prog 23 [(0, x19), (1, x25), (2, x31)]) Hx31) fun x32 Hx32 =>
  bnd (layV (hb + 0) (some (fun i => Value.pointer (some ⟨i, 0, none⟩), (⟨[(Value.int .i64 (0)), (Value.int .i64 (0)), (Value.int .i64 (0))], 23, 1, false⟩ : Blk))) Hx32) fun x33 Hx33 =>
  bnd (stS 3 x33 x32 Hx33) fun x34 Hx34 =>
  if (cfS (some true) (some true) (pS (ld1 x16 Hx16) Hx16) (pS (ld1 x16 Hx32) Hx32) (pS (ld1 x16 Hx33) Hx33) && (cfS (some true) (some true) (pS (ld1 x22 Hx22) Hx22) (pS (ld1 x22 Hx17) Hx17) (pS (ld1 x22 Hx18) Hx18) && (cfS (some true) (some true) (pS (ld1 x22 Hx22) Hx22) (pS (ld1 x22 Hx32) Hx32) (pS (ld1 x22 Hx33) Hx33) && (cfS (some true) (some true) (pS (ld1 x28 Hx28) Hx28) (pS (ld1 x28 Hx17) Hx17) (pS (ld1 x28 Hx18) Hx18) && (cfS (some true) (some true) (pS (ld1 x28 Hx28) Hx28) (pS (ld1 x28 Hx24) Hx24) (pS (ld1 x28 Hx25) Hx25) && (cfS (some true) (some true) (pS (ld1 x28 Hx28) Hx28) (pS (ld1 x28 Hx32) Hx32) (pS (ld1 x28 Hx33) Hx33) && true)))))) = true then (fun H =>
  bnd (some ((sl [0, 1, 4, 8, 7, 17, 6, 9, 5, 10, 71, 96, 99, 11, 109] vs 6), H)) fun x35 H =>
  bnd (pS (ldn 3 x33 H) H) fun x36 H =>
  bnd (C 13 [x35, x36] H) fun x37 H =>
  bnd (some (newBlk H 29 1 [(Value.int .i64 (0)), (Value.bool false), (Value.int .i64 (0)), (Value.int .i64 (0)), (Value.int .i64 (0)), (Value.slice none 0 0)])) fun x38 H =>
  bnd (stS 6 x38 x37 H) fun x39 H =>
  bnd (some ((sl [0, 1, 4, 8, 7, 17, 6, 9, 5, 10, 71, 96, 99, 11, 109] vs 5), H)) fun x40 H =>
  bnd (some ((sl [0, 1, 4, 8, 7, 17, 6, 9, 5, 10, 71, 96, 99, 11, 109] vs 8), H)) fun x41 H =>
  bnd (pS (abin Try.prog .rem 3 x41 (Value.int .i64 (5))) H) fun x42 H =>
  bnd (some ((sl [0, 1, 4, 8, 7, 17, 6, 9, 5, 10, 71, 96, 99, 11, 109] vs 8), H)) fun x43 H =>
  bnd (pS (ldn 3 x33 H) H) fun x44 H =>
  bnd (pS (abuild Try.prog 31 [(0, (Value.int .i64 (1))), (1, x42), (2, x43), (3, x44)]) H) fun x45 H =>
  bnd (abuildSlice Try.prog 32 1 [(0, x45)] H) fun x46 H =>
  bnd (appS 31 13 120 x40 x46 H) fun x47 H =>
  bnd (some (x47, H)) fun x48 H =>
  bnd (fadS 0 x33 H) fun x58 H =>
  bnd (pS (ld1 x58 H) H) fun x59 H =>
  bnd (pS (abin Try.prog .eql 3 x59 (Value.int .i64 (2))) H) fun x60 H =>
  bnd (some (x60, H)) fun x61 H =>
  bnd (gd (wantV x61 false) (fadS 0 x33 H) H) fun x62 H =>
  bnd (gd (wantV x61 false) (pS (ld1 x62 H) H) H) fun x63 H =>
  bnd (gd (wantV x61 false) (pS (abin Try.prog .eql 3 x63 (Value.int .i64 (1))) H) H) fun x64 H =>
  bnd (gd (wantV x61 false) (some (x64, H)) H) fun x65 H =>
  bnd (gd (wantV x65 true) (fadS 1 x38 H) H) fun x66 H =>
  bnd (gd (wantV x65 true) (pS (ld1 x66 H) H) H) fun x67 H =>
  bnd (gd (wantV x65 true) (pS (aun .not x67) H) H) fun x68 H =>
  bnd (gd (wantV x61 false) (pickS x65 x68 (Value.bool false) H) H) fun x69 H =>
  bnd (pickS x61 (Value.bool true) x69 H) fun x70 H =>
  bnd (some (x70, H)) fun x71 H =>
  bnd (gd (wantV x71 false) (fadS 0 x33 H) H) fun x72 H =>
  bnd (gd (wantV x71 false) (pS (ld1 x72 H) H) H) fun x73 H =>
  bnd (gd (wantV x71 false) (pS (abin Try.prog .eql 3 x73 (Value.int .i64 (3))) H) H) fun x74 H =>
  bnd (gd (wantV x71 false) (some (x74, H)) H) fun x75 H =>
  bnd (gd (wantV x75 true) (fadS 1 x38 H) H) fun x76 H =>
  bnd (gd (wantV x75 true) (pS (ld1 x76 H) H) H) fun x77 H =>
  bnd (gd (wantV x71 false) (pickS x75 x77 (Value.bool false) H) H) fun x78 H =>
  bnd (pickS x71 (Value.bool true) x78 H) fun x79 H =>
  brB x79 (bnd (some (x48, H)) fun x80 H =>
  bnd (some ((sl [0, 1, 4, 8, 7, 17, 6, 9, 5, 10, 71, 96, 99, 11, 109] vs 8), H)) fun x81 H =>
  bnd (pS (abin Try.prog .rem 3 x81 (Value.int .i64 (5))) H) fun x82 H =>
  bnd (some ((sl [0, 1, 4, 8, 7, 17, 6, 9, 5, 10, 71, 96, 99, 11, 109] vs 8), H)) fun x83 H =>
  bnd (pS (abuild Try.prog 31 [(0, (Value.int .i64 (2))), (1, x82), (2, x83)]) H) fun x84 H =>
  bnd (abuildSlice Try.prog 32 1 [(0, x84)] H) fun x85 H =>
  bnd (appS 31 13 120 x80 x85 H) fun x86 H =>
  bnd (some (x86, H)) fun x87 H =>
  bnd (some ((sl [0, 1, 4, 8, 7, 17, 6, 9, 5, 10, 71, 96, 99, 11, 109] vs 6), H)) fun x88 H =>
  bnd (pS (ldn 3 x33 H) H) fun x89 H =>
  bnd (C 16 [x88, x89] H) fun x90 H =>
  bnd (some (x90, H)) fun x91 H =>
  F6_j2 C n [(sl [0, 1, 4, 8, 7, 17, 6, 9, 5, 10, 71, 96, 99, 11, 109] vs 0), (sl [0, 1, 4, 8, 7, 17, 6, 9, 5, 10, 71, 96, 99, 11, 109] vs 1), (sl [0, 1, 4, 8, 7, 17, 6, 9, 5, 10, 71, 96, 99, 11, 109] vs 4), (sl [0, 1, 4, 8, 7, 17, 6, 9, 5, 10, 71, 96, 99, 11, 109] vs 8), (sl [0, 1, 4, 8, 7, 17, 6, 9, 5, 10, 71, 96, 99, 11, 109] vs 7), x10, x91, x33, x87, x38, x79, (sl [0, 1, 4, 8, 7, 17, 6, 9, 5, 10, 71, 96, 99, 11, 109] vs 96), (sl [0, 1, 4, 8, 7, 17, 6, 9, 5, 10, 71, 96, 99, 11, 109] vs 99), (sl [0, 1, 4, 8, 7, 17, 6, 9, 5, 10, 71, 96, 99, 11, 109] vs 11), (sl [0, 1, 4, 8, 7, 17, 6, 9, 5, 10, 71, 96, 99, 11, 109] vs 109)] H) (
  F6_j2 C n [(sl [0, 1, 4, 8, 7, 17, 6, 9, 5, 10, 71, 96, 99, 11, 109] vs 0), (sl [0, 1, 4, 8, 7, 17, 6, 9, 5, 10, 71, 96, 99, 11, 109] vs 1), (sl [0, 1, 4, 8, 7, 17, 6, 9, 5, 10, 71, 96, 99, 11, 109] vs 4), (sl [0, 1, 4, 8, 7, 17, 6, 9, 5, 10, 71, 96, 99, 11, 109] vs 8), (sl [0, 1, 4, 8, 7, 17, 6, 9, 5, 10, 71, 96, 99, 11, 109] vs 7), x10, (sl [0, 1, 4, 8, 7, 17, 6, 9, 5, 10, 71, 96, 99, 11, 109] vs 6), x33, x48, x38, x79, (sl [0, 1, 4, 8, 7, 17, 6, 9, 5, 10, 71, 96, 99, 11, 109] vs 96), (sl [0, 1, 4, 8, 7, 17, 6, 9, 5, 10, 71, 96, 99, 11, 109] vs 99), (sl [0, 1, 4, 8, 7, 17, 6, 9, 5, 10, 71, 96, 99, 11, 109] vs 11), (sl [0, 1, 4, 8, 7, 17, 6, 9, 5, 10, 71, 96, 99, 11, 109] vs 109)] H)) Hx34 else none) (
  fin (.exit 0) [(sl [0, 1, 4, 8, 7, 17, 6, 9, 5, 10, 71, 96, 99, 11, 109] vs 0), (sl [0, 1, 4, 8, 7, 17, 6, 9, 5, 10, 71, 96, 99, 11, 109] vs 1), (sl [0, 1, 4, 8, 7, 17, 6, 9, 5, 10, 71, 96, 99, 11, 109] vs 4), (sl [0, 1, 4, 8, 7, 17, 6, 9, 5, 10, 71, 96, 99, 11, 109] vs 8), (sl [0, 1, 4, 8, 7, 17, 6, 9, 5, 10, 71, 96, 99, 11, 109] vs 7), x10, (sl [0, 1, 4, 8, 7, 17, 6, 9, 5, 10, 71, 96, 99, 11, 109] vs 6), (sl [0, 1, 4, 8, 7, 17, 6, 9, 5, 10, 71, 96, 99, 11, 109] vs 9), (sl [0, 1, 4, 8, 7, 17, 6, 9, 5, 10, 71, 96, 99, 11, 109] vs 5), (sl [0, 1, 4, 8, 7, 17, 6, 9, 5, 10, 71, 96, 99, 11, 109] vs 10), (sl [0, 1, 4, 8, 7, 17, 6, 9, 5, 10, 71, 96, 99, 11, 109] vs 71), (sl [0, 1, 4, 8, 7, 17, 6, 9, 5, 10, 71, 96, 99, 11, 109] vs 96), (sl [0, 1, 4, 8, 7, 17, 6, 9, 5, 10, 71, 96, 99, 11, 109] vs 99), (sl [0, 1, 4, 8, 7, 17, 6, 9, 5, 10, 71, 96, 99, 11, 109] vs 11), (sl [0, 1, 4, 8, 7, 17, 6, 9, 5, 10, 71, 96, 99, 11, 109] vs 109)] H)

noncomputable def F6_b0v (C : Oracle) (n : Nat) (v0 v1 v4 v8 v7 v17 v6 v9 v5 v10 v71 v96 v99 v11 v109 : Value) (H : Heap) : AOut :=
  bnd (some (v8, H)) fun x8 H =>
  bnd (some (v7, H)) fun x9 H =>
  bnd (pS (abin Try.prog .lss 3 x8 x9) H) fun x10 H =>
  brB x10 (holesK 1 H fun hb H =>
  bnd (some (v0, H)) fun x14 Hx14 =>
  bnd (some (v8, Hx14)) fun x15 Hx15 =>
  bnd (iadS 1 x14 x15 Hx15) fun x16 Hx16 =>
  bnd (pS (ld1 x16 Hx16) Hx16) fun x17 Hx17 =>
  bnd (C 9 [x17, (Value.int .i64 (10))] Hx17) fun x18 Hx18 =>
  bnd (pS (abin Try.prog .add 3 (Value.int .i64 (1)) x18) Hx18) fun x19 Hx19 =>
  bnd (some (v0, Hx19)) fun x20 Hx20 =>
  bnd (some (v8, Hx20)) fun x21 Hx21 =>
  bnd (iadS 1 x20 x21 Hx21) fun x22 Hx22 =>
  bnd (pS (ld1 x22 Hx22) Hx22) fun x23 Hx23 =>
  bnd (pS (abin Try.prog .quo 3 x23 (Value.int .i64 (10))) Hx23) fun x24 Hx24 =>
  bnd (C 9 [x24, (Value.int .i64 (12))] Hx24) fun x25 Hx25 =>
  bnd (some (v0, Hx25)) fun x26 Hx26 =>
  bnd (some (v8, Hx26)) fun x27 Hx27 =>
  bnd (iadS 1 x26 x27 Hx27) fun x28 Hx28 =>
  bnd (pS (ld1 x28 Hx28) Hx28) fun x29 Hx29 =>
  bnd (pS (abin Try.prog .quo 3 x29 (Value.int .i64 (120))) Hx29) fun x30 Hx30 =>
  bnd (C 9 [x30, (Value.int .i64 (20))] Hx30) fun x31 Hx31 =>
  bnd (pS (abuild Try.prog 23 [(0, x19), (1, x25), (2, x31)]) Hx31) fun x32 Hx32 =>
  bnd (layV (hb + 0) (some (fun i => Value.pointer (some ⟨i, 0, none⟩), (⟨[(Value.int .i64 (0)), (Value.int .i64 (0)), (Value.int .i64 (0))], 23, 1, false⟩ : Blk))) Hx32) fun x33 Hx33 =>
  bnd (stS 3 x33 x32 Hx33) fun x34 Hx34 =>
  if (cfS (some true) (some true) (pS (ld1 x16 Hx16) Hx16) (pS (ld1 x16 Hx32) Hx32) (pS (ld1 x16 Hx33) Hx33) && (cfS (some true) (some true) (pS (ld1 x22 Hx22) Hx22) (pS (ld1 x22 Hx17) Hx17) (pS (ld1 x22 Hx18) Hx18) && (cfS (some true) (some true) (pS (ld1 x22 Hx22) Hx22) (pS (ld1 x22 Hx32) Hx32) (pS (ld1 x22 Hx33) Hx33) && (cfS (some true) (some true) (pS (ld1 x28 Hx28) Hx28) (pS (ld1 x28 Hx17) Hx17) (pS (ld1 x28 Hx18) Hx18) && (cfS (some true) (some true) (pS (ld1 x28 Hx28) Hx28) (pS (ld1 x28 Hx24) Hx24) (pS (ld1 x28 Hx25) Hx25) && (cfS (some true) (some true) (pS (ld1 x28 Hx28) Hx28) (pS (ld1 x28 Hx32) Hx32) (pS (ld1 x28 Hx33) Hx33) && true)))))) = true then (fun H =>
  bnd (some (v6, H)) fun x35 H =>
  bnd (pS (ldn 3 x33 H) H) fun x36 H =>
  bnd (C 13 [x35, x36] H) fun x37 H =>
  bnd (some (newBlk H 29 1 [(Value.int .i64 (0)), (Value.bool false), (Value.int .i64 (0)), (Value.int .i64 (0)), (Value.int .i64 (0)), (Value.slice none 0 0)])) fun x38 H =>
  bnd (stS 6 x38 x37 H) fun x39 H =>
  bnd (some (v5, H)) fun x40 H =>
  bnd (some (v8, H)) fun x41 H =>
  bnd (pS (abin Try.prog .rem 3 x41 (Value.int .i64 (5))) H) fun x42 H =>
  bnd (some (v8, H)) fun x43 H =>
  bnd (pS (ldn 3 x33 H) H) fun x44 H =>
  bnd (pS (abuild Try.prog 31 [(0, (Value.int .i64 (1))), (1, x42), (2, x43), (3, x44)]) H) fun x45 H =>
  bnd (abuildSlice Try.prog 32 1 [(0, x45)] H) fun x46 H =>
  bnd (appS 31 13 120 x40 x46 H) fun x47 H =>
  bnd (some (x47, H)) fun x48 H =>
  bnd (fadS 0 x33 H) fun x58 H =>
  bnd (pS (ld1 x58 H) H) fun x59 H =>
  bnd (pS (abin Try.prog .eql 3 x59 (Value.int .i64 (2))) H) fun x60 H =>
  bnd (some (x60, H)) fun x61 H =>
  bnd (gd (wantV x61 false) (fadS 0 x33 H) H) fun x62 H =>
  bnd (gd (wantV x61 false) (pS (ld1 x62 H) H) H) fun x63 H =>
  bnd (gd (wantV x61 false) (pS (abin Try.prog .eql 3 x63 (Value.int .i64 (1))) H) H) fun x64 H =>
  bnd (gd (wantV x61 false) (some (x64, H)) H) fun x65 H =>
  bnd (gd (wantV x65 true) (fadS 1 x38 H) H) fun x66 H =>
  bnd (gd (wantV x65 true) (pS (ld1 x66 H) H) H) fun x67 H =>
  bnd (gd (wantV x65 true) (pS (aun .not x67) H) H) fun x68 H =>
  bnd (gd (wantV x61 false) (pickS x65 x68 (Value.bool false) H) H) fun x69 H =>
  bnd (pickS x61 (Value.bool true) x69 H) fun x70 H =>
  bnd (some (x70, H)) fun x71 H =>
  bnd (gd (wantV x71 false) (fadS 0 x33 H) H) fun x72 H =>
  bnd (gd (wantV x71 false) (pS (ld1 x72 H) H) H) fun x73 H =>
  bnd (gd (wantV x71 false) (pS (abin Try.prog .eql 3 x73 (Value.int .i64 (3))) H) H) fun x74 H =>
  bnd (gd (wantV x71 false) (some (x74, H)) H) fun x75 H =>
  bnd (gd (wantV x75 true) (fadS 1 x38 H) H) fun x76 H =>
  bnd (gd (wantV x75 true) (pS (ld1 x76 H) H) H) fun x77 H =>
  bnd (gd (wantV x71 false) (pickS x75 x77 (Value.bool false) H) H) fun x78 H =>
  bnd (pickS x71 (Value.bool true) x78 H) fun x79 H =>
  brB x79 (bnd (some (x48, H)) fun x80 H =>
  bnd (some (v8, H)) fun x81 H =>
  bnd (pS (abin Try.prog .rem 3 x81 (Value.int .i64 (5))) H) fun x82 H =>
  bnd (some (v8, H)) fun x83 H =>
  bnd (pS (abuild Try.prog 31 [(0, (Value.int .i64 (2))), (1, x82), (2, x83)]) H) fun x84 H =>
  bnd (abuildSlice Try.prog 32 1 [(0, x84)] H) fun x85 H =>
  bnd (appS 31 13 120 x80 x85 H) fun x86 H =>
  bnd (some (x86, H)) fun x87 H =>
  bnd (some (v6, H)) fun x88 H =>
  bnd (pS (ldn 3 x33 H) H) fun x89 H =>
  bnd (C 16 [x88, x89] H) fun x90 H =>
  bnd (some (x90, H)) fun x91 H =>
  F6_j2 C n [v0, v1, v4, v8, v7, x10, x91, x33, x87, x38, x79, v96, v99, v11, v109] H) (
  F6_j2 C n [v0, v1, v4, v8, v7, x10, v6, x33, x48, x38, x79, v96, v99, v11, v109] H)) Hx34 else none) (
  fin (.exit 0) [v0, v1, v4, v8, v7, x10, v6, v9, v5, v10, v71, v96, v99, v11, v109] H)

theorem F6_b0_v (C : Oracle) (n : Nat) (v0 v1 v4 v8 v7 v17 v6 v9 v5 v10 v71 v96 v99 v11 v109 : Value) (H : Heap) : F6_b0 C n [v0, v1, v4, v8, v7, v17, v6, v9, v5, v10, v71, v96, v99, v11, v109] H = F6_b0v C n v0 v1 v4 v8 v7 v17 v6 v9 v5 v10 v71 v96 v99 v11 v109 H := by
  kernel_rfl

noncomputable def F6_j3 (C : Oracle) (n : Nat) (vs : List Value) (H : Heap) : Option (Value × Heap) :=
  bnd (C 8 [] H) fun x92 H =>
  bnd (pS (aun .not x92) H) fun x93 H =>
  bnd (some (x93, H)) fun x94 H =>
  bnd (gd (wantV x94 false) (some ((sl [0, 1, 4, 8, 7, 17, 6, 9, 5, 10, 71, 96, 99, 11, 109] vs 5), H)) H) fun x95 H =>
  bnd (gd (wantV x94 false) (C 7 [x95] H) H) fun x96 H =>
  bnd (gd (wantV x94 false) (pS (abin Try.prog .neq 3 x96 (Value.int .i64 (-1))) H) H) fun x97 H =>
  bnd (pickS x94 (Value.bool true) x97 H) fun x98 H =>
  brB x98 (bnd (some ((Value.bool false), H)) fun x99 H =>
  some (x99, H)) (
  bnd (some ((sl [0, 1, 4, 8, 7, 17, 6, 9, 5, 10, 71, 96, 99, 11, 109] vs 5), H)) fun x100 H =>
  bnd (pS (slen x100) H) fun x101 H =>
  bnd (pS (abin Try.prog .eql 3 x101 (Value.int .i64 (0))) H) fun x102 H =>
  brB x102 (bnd (some ((Value.bool true), H)) fun x103 H =>
  some (x103, H)) (
  bnd (some ((sl [0, 1, 4, 8, 7, 17, 6, 9, 5, 10, 71, 96, 99, 11, 109] vs 1), H)) fun x104 H =>
  bnd (some ((sl [0, 1, 4, 8, 7, 17, 6, 9, 5, 10, 71, 96, 99, 11, 109] vs 5), H)) fun x105 H =>
  bnd (pS (slen x105) H) fun x106 H =>
  bnd (C 9 [x104, x106] H) fun x107 H =>
  bnd (some (x107, H)) fun x108 H =>
  bnd (some ((sl [0, 1, 4, 8, 7, 17, 6, 9, 5, 10, 71, 96, 99, 11, 109] vs 5), H)) fun x109 H =>
  bnd (some (x108, H)) fun x110 H =>
  bnd (iadS 13 x109 x110 H) fun x111 H =>
  bnd (fadS 0 x111 H) fun x112 H =>
  bnd (pS (ld1 x112 H) H) fun x113 H =>
  bnd (pS (abin Try.prog .neq 3 x113 (Value.int .i64 (3))) H) fun x114 H =>
  brB x114 (bnd (some ((Value.bool true), H)) fun x115 H =>
  some (x115, H)) (
  bnd (some ((sl [0, 1, 4, 8, 7, 17, 6, 9, 5, 10, 71, 96, 99, 11, 109] vs 5), H)) fun x116 H =>
  bnd (some (x108, H)) fun x117 H =>
  bnd (some ((sl [0, 1, 4, 8, 7, 17, 6, 9, 5, 10, 71, 96, 99, 11, 109] vs 5), H)) fun x118 H =>
  bnd (some (x108, H)) fun x119 H =>
  bnd (iadS 13 x118 x119 H) fun x120 H =>
  bnd (fadS 6 x120 H) fun x121 H =>
  bnd (fadS 4 x121 H) fun x122 H =>
  bnd (pS (ld1 x122 H) H) fun x123 H =>
  bnd (pS (abin Try.prog .add 3 x123 (Value.int .i64 (1))) H) fun x124 H =>
  bnd (iadS 13 x116 x117 H) fun x125 H =>
  bnd (fadS 6 x125 H) fun x126 H =>
  bnd (fadS 4 x126 H) fun x127 H =>
  bnd (stS 1 x127 x124 H) fun x128 H =>
  bnd (some ((sl [0, 1, 4, 8, 7, 17, 6, 9, 5, 10, 71, 96, 99, 11, 109] vs 5), H)) fun x129 H =>
  bnd (C 7 [x129] H) fun x130 H =>
  bnd (some (x108, H)) fun x131 H =>
  bnd (pS (abin Try.prog .eql 3 x130 x131) H) fun x132 H =>
  bnd (some (x132, H)) fun x133 H =>
  some (x133, H))))

noncomputable def F6_j3v (C : Oracle) (n : Nat) (v0 v1 v4 v8 v7 v17 v6 v9 v5 v10 v71 v96 v99 v11 v109 : Value) (H : Heap) : Option (Value × Heap) :=
  bnd (C 8 [] H) fun x92 H =>
  bnd (pS (aun .not x92) H) fun x93 H =>
  bnd (some (x93, H)) fun x94 H =>
  bnd (gd (wantV x94 false) (some (v5, H)) H) fun x95 H =>
  bnd (gd (wantV x94 false) (C 7 [x95] H) H) fun x96 H =>
  bnd (gd (wantV x94 false) (pS (abin Try.prog .neq 3 x96 (Value.int .i64 (-1))) H) H) fun x97 H =>
  bnd (pickS x94 (Value.bool true) x97 H) fun x98 H =>
  brB x98 (bnd (some ((Value.bool false), H)) fun x99 H =>
  some (x99, H)) (
  bnd (some (v5, H)) fun x100 H =>
  bnd (pS (slen x100) H) fun x101 H =>
  bnd (pS (abin Try.prog .eql 3 x101 (Value.int .i64 (0))) H) fun x102 H =>
  brB x102 (bnd (some ((Value.bool true), H)) fun x103 H =>
  some (x103, H)) (
  bnd (some (v1, H)) fun x104 H =>
  bnd (some (v5, H)) fun x105 H =>
  bnd (pS (slen x105) H) fun x106 H =>
  bnd (C 9 [x104, x106] H) fun x107 H =>
  bnd (some (x107, H)) fun x108 H =>
  bnd (some (v5, H)) fun x109 H =>
  bnd (some (x108, H)) fun x110 H =>
  bnd (iadS 13 x109 x110 H) fun x111 H =>
  bnd (fadS 0 x111 H) fun x112 H =>
  bnd (pS (ld1 x112 H) H) fun x113 H =>
  bnd (pS (abin Try.prog .neq 3 x113 (Value.int .i64 (3))) H) fun x114 H =>
  brB x114 (bnd (some ((Value.bool true), H)) fun x115 H =>
  some (x115, H)) (
  bnd (some (v5, H)) fun x116 H =>
  bnd (some (x108, H)) fun x117 H =>
  bnd (some (v5, H)) fun x118 H =>
  bnd (some (x108, H)) fun x119 H =>
  bnd (iadS 13 x118 x119 H) fun x120 H =>
  bnd (fadS 6 x120 H) fun x121 H =>
  bnd (fadS 4 x121 H) fun x122 H =>
  bnd (pS (ld1 x122 H) H) fun x123 H =>
  bnd (pS (abin Try.prog .add 3 x123 (Value.int .i64 (1))) H) fun x124 H =>
  bnd (iadS 13 x116 x117 H) fun x125 H =>
  bnd (fadS 6 x125 H) fun x126 H =>
  bnd (fadS 4 x126 H) fun x127 H =>
  bnd (stS 1 x127 x124 H) fun x128 H =>
  bnd (some (v5, H)) fun x129 H =>
  bnd (C 7 [x129] H) fun x130 H =>
  bnd (some (x108, H)) fun x131 H =>
  bnd (pS (abin Try.prog .eql 3 x130 x131) H) fun x132 H =>
  bnd (some (x132, H)) fun x133 H =>
  some (x133, H))))

theorem F6_j3_v (C : Oracle) (n : Nat) (v0 v1 v4 v8 v7 v17 v6 v9 v5 v10 v71 v96 v99 v11 v109 : Value) (H : Heap) : F6_j3 C n [v0, v1, v4, v8, v7, v17, v6, v9, v5, v10, v71, v96, v99, v11, v109] H = F6_j3v C n v0 v1 v4 v8 v7 v17 v6 v9 v5 v10 v71 v96 v99 v11 v109 H := by
  kernel_rfl

noncomputable def F6 (C : Oracle) (n : Nat) (a0 a1 : Value) (H : Heap) : Option (Value × Heap) :=
  bnd (some ((Value.bool false), H)) fun x0 H =>
  bnd (some ((Value.slice none 0 0), H)) fun x1 H =>
  bnd (some ((Value.slice none 0 0), H)) fun x2 H =>
  bnd (some (a0, H)) fun x3 H =>
  bnd (pS (slen x3) H) fun x4 H =>
  bnd (minS x4 (Value.int .i64 (40)) H) fun x5 H =>
  bnd (some (x5, H)) fun x6 H =>
  bnd (some ((Value.int .i64 (0)), H)) fun x7 H =>
  onOut (iter n (F6_b0 C n) [a0, a1, x0, x7, x6, undef, x2, undef, x1, undef, undef, undef, undef, undef, undef] H) (kBlk 0 (kSeq (F6_j3 C n) (kRet Try.prog [.tmp 4] [0, 1, 4, 8, 7, 17, 6, 9, 5, 10, 71, 96, 99, 11, 109])))

theorem F6_eq (G : Oracle) (n : Nat) (a0 a1 : Value) (H : Heap) : run G (n + 1) 6 [a0, a1] H = F6 (run G n) n a0 a1 H := by
  unfold run; rw [acall_k (fn := Try.f6) (keep := [0, 1, 4, 8, 7, 17, 6, 9, 5, 10, 71, 96, 99, 11, 109]) (notBad 6 rfl) (by kernel_rfl) (by kernel_rfl)]
  kernel_rfl

end Go.Proofs.Ytgakioiplkehgaa.Fun
