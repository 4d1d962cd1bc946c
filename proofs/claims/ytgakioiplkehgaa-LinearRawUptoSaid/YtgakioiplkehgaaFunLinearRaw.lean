/- The program's functions as plain terms, each with its equation; printed by wip/am/fun.py. -/
import Derived.Test.YtgakioiplkehgaaFunK
namespace Go.Proofs.Ytgakioiplkehgaa.Fun
open Go.RowKit Go.Proofs.YtgakioiplkehgaaA.Am
set_option linter.unusedVariables false
set_option maxRecDepth 10000
abbrev F4_st (v0 : Value := undef) (v1 : Value := undef) (v4 : Value := undef) (v11 : Value := undef) (v6 : Value := undef) (v23 : Value := undef) (v7 : Value := undef) (v50 : Value := undef) (v8 : Value := undef) (v56 : Value := undef) (v5 : Value := undef) : List Value := [v0, v1, v4, v11, v6, v23, v7, v50, v8, v56, v5]

noncomputable def F4_j1 (C : Oracle) (n : Nat) (vs : List Value) (H : Heap) : AOut :=
  bnd (some ((sl [0, 1, 4, 11, 6, 23, 7, 50, 8, 56, 5] vs 6), H)) fun x19 H =>
  bnd (pS (abin Try.prog .add 3 x19 (Value.int .i64 (1))) H) fun x20 H =>
  bnd (some (x20, H)) fun x21 H =>
  fin .normal [(sl [0, 1, 4, 11, 6, 23, 7, 50, 8, 56, 5] vs 0), (sl [0, 1, 4, 11, 6, 23, 7, 50, 8, 56, 5] vs 1), (sl [0, 1, 4, 11, 6, 23, 7, 50, 8, 56, 5] vs 4), (sl [0, 1, 4, 11, 6, 23, 7, 50, 8, 56, 5] vs 11), x21, (sl [0, 1, 4, 11, 6, 23, 7, 50, 8, 56, 5] vs 23), (sl [0, 1, 4, 11, 6, 23, 7, 50, 8, 56, 5] vs 7), (sl [0, 1, 4, 11, 6, 23, 7, 50, 8, 56, 5] vs 50), (sl [0, 1, 4, 11, 6, 23, 7, 50, 8, 56, 5] vs 8), (sl [0, 1, 4, 11, 6, 23, 7, 50, 8, 56, 5] vs 56), (sl [0, 1, 4, 11, 6, 23, 7, 50, 8, 56, 5] vs 5)] H

noncomputable def F4_j1v (C : Oracle) (n : Nat) (v0 v1 v4 v11 v6 v23 v7 v50 v8 v56 v5 : Value) (H : Heap) : AOut :=
  bnd (some (v6, H)) fun x19 H =>
  bnd (pS (abin Try.prog .add 3 x19 (Value.int .i64 (1))) H) fun x20 H =>
  bnd (some (x20, H)) fun x21 H =>
  fin .normal [v0, v1, v4, v11, x21, v23, v7, v50, v8, v56, v5] H

theorem F4_j1_v (C : Oracle) (n : Nat) (v0 v1 v4 v11 v6 v23 v7 v50 v8 v56 v5 : Value) (H : Heap) : F4_j1 C n [v0, v1, v4, v11, v6, v23, v7, v50, v8, v56, v5] H = F4_j1v C n v0 v1 v4 v11 v6 v23 v7 v50 v8 v56 v5 H := by
  kernel_rfl

noncomputable def F4_j3 (C : Oracle) (n : Nat) (vs : List Value) (H : Heap) : AOut :=
  bnd (some ((sl [0, 1, 4, 11, 6, 23, 7, 50, 8, 56, 5] vs 5), H)) fun x47 H =>
  bnd (pS (ldn 13 (sl [0, 1, 4, 11, 6, 23, 7, 50, 8, 56, 5] vs 8) H) H) fun x48 H =>
  bnd (abuildSlice Try.prog 32 1 [(0, x48)] H) fun x49 H =>
  bnd (appS 31 13 120 x47 x49 H) fun x50 H =>
  bnd (some (x50, H)) fun x51 H =>
  F4_j1 C n [(sl [0, 1, 4, 11, 6, 23, 7, 50, 8, 56, 5] vs 0), (sl [0, 1, 4, 11, 6, 23, 7, 50, 8, 56, 5] vs 1), (sl [0, 1, 4, 11, 6, 23, 7, 50, 8, 56, 5] vs 4), (sl [0, 1, 4, 11, 6, 23, 7, 50, 8, 56, 5] vs 11), (sl [0, 1, 4, 11, 6, 23, 7, 50, 8, 56, 5] vs 6), (sl [0, 1, 4, 11, 6, 23, 7, 50, 8, 56, 5] vs 23), (sl [0, 1, 4, 11, 6, 23, 7, 50, 8, 56, 5] vs 7), (sl [0, 1, 4, 11, 6, 23, 7, 50, 8, 56, 5] vs 50), (sl [0, 1, 4, 11, 6, 23, 7, 50, 8, 56, 5] vs 8), (sl [0, 1, 4, 11, 6, 23, 7, 50, 8, 56, 5] vs 56), x51] H

noncomputable def F4_j3v (C : Oracle) (n : Nat) (v0 v1 v4 v11 v6 v23 v7 v50 v8 v56 v5 : Value) (H : Heap) : AOut :=
  bnd (some (v5, H)) fun x47 H =>
  bnd (pS (ldn 13 v8 H) H) fun x48 H =>
  bnd (abuildSlice Try.prog 32 1 [(0, x48)] H) fun x49 H =>
  bnd (appS 31 13 120 x47 x49 H) fun x50 H =>
  bnd (some (x50, H)) fun x51 H =>
  F4_j1 C n [v0, v1, v4, v11, v6, v23, v7, v50, v8, v56, x51] H

theorem F4_j3_v (C : Oracle) (n : Nat) (v0 v1 v4 v11 v6 v23 v7 v50 v8 v56 v5 : Value) (H : Heap) : F4_j3 C n [v0, v1, v4, v11, v6, v23, v7, v50, v8, v56, v5] H = F4_j3v C n v0 v1 v4 v11 v6 v23 v7 v50 v8 v56 v5 H := by
  kernel_rfl

noncomputable def F4_j2 (C : Oracle) (n : Nat) (vs : List Value) (H : Heap) : AOut :=
  bnd (some ((sl [0, 1, 4, 11, 6, 23, 7, 50, 8, 56, 5] vs 7), H)) fun x52 H =>
  bnd (pS (abin Try.prog .rem 3 x52 (Value.int .i64 (7))) H) fun x53 H =>
  bnd (pS (abin Try.prog .eql 3 x53 (Value.int .i64 (0))) H) fun x54 H =>
  brB x54 (bnd (some ((sl [0, 1, 4, 11, 6, 23, 7, 50, 8, 56, 5] vs 7), H)) fun x55 H =>
  bnd (pS (abin Try.prog .quo 3 x55 (Value.int .i64 (320))) H) fun x56 H =>
  bnd (C 9 [x56, (Value.int .i64 (3))] H) fun x57 H =>
  bnd (pS (abuild Try.prog 26 [(0, x57), (1, (Value.int .i64 (1)))]) H) fun x58 H =>
  bnd (pS (abuild Try.prog 29 [(1, (Value.bool true)), (2, x58)]) H) fun x59 H =>
  bnd (fadS 6 (sl [0, 1, 4, 11, 6, 23, 7, 50, 8, 56, 5] vs 8) H) fun x60 H =>
  bnd (stS 6 x60 x59 H) fun x61 H =>
  F4_j3 C n [(sl [0, 1, 4, 11, 6, 23, 7, 50, 8, 56, 5] vs 0), (sl [0, 1, 4, 11, 6, 23, 7, 50, 8, 56, 5] vs 1), (sl [0, 1, 4, 11, 6, 23, 7, 50, 8, 56, 5] vs 4), (sl [0, 1, 4, 11, 6, 23, 7, 50, 8, 56, 5] vs 11), (sl [0, 1, 4, 11, 6, 23, 7, 50, 8, 56, 5] vs 6), (sl [0, 1, 4, 11, 6, 23, 7, 50, 8, 56, 5] vs 23), (sl [0, 1, 4, 11, 6, 23, 7, 50, 8, 56, 5] vs 7), (sl [0, 1, 4, 11, 6, 23, 7, 50, 8, 56, 5] vs 50), (sl [0, 1, 4, 11, 6, 23, 7, 50, 8, 56, 5] vs 8), x54, (sl [0, 1, 4, 11, 6, 23, 7, 50, 8, 56, 5] vs 5)] H) (
  F4_j3 C n [(sl [0, 1, 4, 11, 6, 23, 7, 50, 8, 56, 5] vs 0), (sl [0, 1, 4, 11, 6, 23, 7, 50, 8, 56, 5] vs 1), (sl [0, 1, 4, 11, 6, 23, 7, 50, 8, 56, 5] vs 4), (sl [0, 1, 4, 11, 6, 23, 7, 50, 8, 56, 5] vs 11), (sl [0, 1, 4, 11, 6, 23, 7, 50, 8, 56, 5] vs 6), (sl [0, 1, 4, 11, 6, 23, 7, 50, 8, 56, 5] vs 23), (sl [0, 1, 4, 11, 6, 23, 7, 50, 8, 56, 5] vs 7), (sl [0, 1, 4, 11, 6, 23, 7, 50, 8, 56, 5] vs 50), (sl [0, 1, 4, 11, 6, 23, 7, 50, 8, 56, 5] vs 8), x54, (sl [0, 1, 4, 11, 6, 23, 7, 50, 8, 56, 5] vs 5)] H)

noncomputable def F4_j2v (C : Oracle) (n : Nat) (v0 v1 v4 v11 v6 v23 v7 v50 v8 v56 v5 : Value) (H : Heap) : AOut :=
  bnd (some (v7, H)) fun x52 H =>
  bnd (pS (abin Try.prog .rem 3 x52 (Value.int .i64 (7))) H) fun x53 H =>
  bnd (pS (abin Try.prog .eql 3 x53 (Value.int .i64 (0))) H) fun x54 H =>
  brB x54 (bnd (some (v7, H)) fun x55 H =>
  bnd (pS (abin Try.prog .quo 3 x55 (Value.int .i64 (320))) H) fun x56 H =>
  bnd (C 9 [x56, (Value.int .i64 (3))] H) fun x57 H =>
  bnd (pS (abuild Try.prog 26 [(0, x57), (1, (Value.int .i64 (1)))]) H) fun x58 H =>
  bnd (pS (abuild Try.prog 29 [(1, (Value.bool true)), (2, x58)]) H) fun x59 H =>
  bnd (fadS 6 v8 H) fun x60 H =>
  bnd (stS 6 x60 x59 H) fun x61 H =>
  F4_j3 C n [v0, v1, v4, v11, v6, v23, v7, v50, v8, x54, v5] H) (
  F4_j3 C n [v0, v1, v4, v11, v6, v23, v7, v50, v8, x54, v5] H)

theorem F4_j2_v (C : Oracle) (n : Nat) (v0 v1 v4 v11 v6 v23 v7 v50 v8 v56 v5 : Value) (H : Heap) : F4_j2 C n [v0, v1, v4, v11, v6, v23, v7, v50, v8, v56, v5] H = F4_j2v C n v0 v1 v4 v11 v6 v23 v7 v50 v8 v56 v5 H := by
  kernel_rfl

noncomputable def F4_b0 (C : Oracle) (n : Nat) (vs : List Value) (H : Heap) : AOut :=
  bnd (some ((sl [0, 1, 4, 11, 6, 23, 7, 50, 8, 56, 5] vs 6), H)) fun x11 H =>
  bnd (some ((sl [0, 1, 4, 11, 6, 23, 7, 50, 8, 56, 5] vs 1), H)) fun x12 H =>
  bnd (pS (slen x12) H) fun x13 H =>
  bnd (pS (abin Try.prog .lss 3 x11 x13) H) fun x14 H =>
  bnd (some (x14, H)) fun x15 H =>
  bnd (gd (wantV x15 true) (some ((sl [0, 1, 4, 11, 6, 23, 7, 50, 8, 56, 5] vs 6), H)) H) fun x16 H =>
  bnd (gd (wantV x15 true) (pS (abin Try.prog .lss 3 x16 (Value.int .i64 (60))) H) H) fun x17 H =>
  bnd (pickS x15 x17 (Value.bool false) H) fun x18 H =>
  brB x18 (bnd (some ((sl [0, 1, 4, 11, 6, 23, 7, 50, 8, 56, 5] vs 1), H)) fun x22 H =>
  bnd (some ((sl [0, 1, 4, 11, 6, 23, 7, 50, 8, 56, 5] vs 6), H)) fun x23 H =>
  bnd (iadS 1 x22 x23 H) fun x24 H =>
  bnd (pS (ld1 x24 H) H) fun x25 H =>
  bnd (some (x25, H)) fun x26 H =>
  bnd (some (x26, H)) fun x27 H =>
  bnd (C 9 [x27, (Value.int .i64 (4))] H) fun x28 H =>
  bnd (pS (abin Try.prog .add 3 (Value.int .i64 (1)) x28) H) fun x29 H =>
  bnd (some (x26, H)) fun x30 H =>
  bnd (pS (abin Try.prog .quo 3 x30 (Value.int .i64 (4))) H) fun x31 H =>
  bnd (C 9 [x31, (Value.int .i64 (2))] H) fun x32 H =>
  bnd (some (x26, H)) fun x33 H =>
  bnd (pS (abin Try.prog .quo 3 x33 (Value.int .i64 (8))) H) fun x34 H =>
  bnd (C 9 [x34, (Value.int .i64 (4))] H) fun x35 H =>
  bnd (some (x26, H)) fun x36 H =>
  bnd (pS (abin Try.prog .quo 3 x36 (Value.int .i64 (32))) H) fun x37 H =>
  bnd (C 9 [x37, (Value.int .i64 (10))] H) fun x38 H =>
  bnd (pS (abin Try.prog .add 3 (Value.int .i64 (1)) x38) H) fun x39 H =>
  bnd (some (x26, H)) fun x40 H =>
  bnd (pS (abin Try.prog .quo 3 x40 (Value.int .i64 (320))) H) fun x41 H =>
  bnd (C 9 [x41, (Value.int .i64 (3))] H) fun x42 H =>
  bnd (pS (abuild Try.prog 23 [(0, x39), (1, x42), (2, (Value.int .i64 (1)))]) H) fun x43 H =>
  bnd (pS (abuild Try.prog 31 [(0, x29), (1, x32), (2, x35), (3, x43)]) H) fun x44 H =>
  bnd (some (newBlk H 31 1 [(Value.int .i64 (0)), (Value.int .i64 (0)), (Value.int .i64 (0)), (Value.int .i64 (0)), (Value.int .i64 (0)), (Value.int .i64 (0)), (Value.int .i64 (0)), (Value.bool false), (Value.int .i64 (0)), (Value.int .i64 (0)), (Value.int .i64 (0)), (Value.slice none 0 0), (Value.int .i64 (0))])) fun x45 H =>
  bnd (stS 13 x45 x44 H) fun x46 H =>
  bnd (some (x26, H)) fun x62 H =>
  bnd (pS (abin Try.prog .rem 3 x62 (Value.int .i64 (2))) H) fun x63 H =>
  bnd (pS (abin Try.prog .eql 3 x63 (Value.int .i64 (0))) H) fun x64 H =>
  brB x64 (bnd (some ((sl [0, 1, 4, 11, 6, 23, 7, 50, 8, 56, 5] vs 6), H)) fun x65 H =>
  bnd (pS (abin Try.prog .quo 3 x65 (Value.int .i64 (2))) H) fun x66 H =>
  bnd (fadS 2 x45 H) fun x67 H =>
  bnd (stS 1 x67 x66 H) fun x68 H =>
  F4_j2 C n [(sl [0, 1, 4, 11, 6, 23, 7, 50, 8, 56, 5] vs 0), (sl [0, 1, 4, 11, 6, 23, 7, 50, 8, 56, 5] vs 1), (sl [0, 1, 4, 11, 6, 23, 7, 50, 8, 56, 5] vs 4), (sl [0, 1, 4, 11, 6, 23, 7, 50, 8, 56, 5] vs 11), (sl [0, 1, 4, 11, 6, 23, 7, 50, 8, 56, 5] vs 6), x18, x26, x64, x45, (sl [0, 1, 4, 11, 6, 23, 7, 50, 8, 56, 5] vs 56), (sl [0, 1, 4, 11, 6, 23, 7, 50, 8, 56, 5] vs 5)] H) (
  F4_j2 C n [(sl [0, 1, 4, 11, 6, 23, 7, 50, 8, 56, 5] vs 0), (sl [0, 1, 4, 11, 6, 23, 7, 50, 8, 56, 5] vs 1), (sl [0, 1, 4, 11, 6, 23, 7, 50, 8, 56, 5] vs 4), (sl [0, 1, 4, 11, 6, 23, 7, 50, 8, 56, 5] vs 11), (sl [0, 1, 4, 11, 6, 23, 7, 50, 8, 56, 5] vs 6), x18, x26, x64, x45, (sl [0, 1, 4, 11, 6, 23, 7, 50, 8, 56, 5] vs 56), (sl [0, 1, 4, 11, 6, 23, 7, 50, 8, 56, 5] vs 5)] H)) (
  fin (.exit 0) [(sl [0, 1, 4, 11, 6, 23, 7, 50, 8, 56, 5] vs 0), (sl [0, 1, 4, 11, 6, 23, 7, 50, 8, 56, 5] vs 1), (sl [0, 1, 4, 11, 6, 23, 7, 50, 8, 56, 5] vs 4), (sl [0, 1, 4, 11, 6, 23, 7, 50, 8, 56, 5] vs 11), (sl [0, 1, 4, 11, 6, 23, 7, 50, 8, 56, 5] vs 6), x18, (sl [0, 1, 4, 11, 6, 23, 7, 50, 8, 56, 5] vs 7), (sl [0, 1, 4, 11, 6, 23, 7, 50, 8, 56, 5] vs 50), (sl [0, 1, 4, 11, 6, 23, 7, 50, 8, 56, 5] vs 8), (sl [0, 1, 4, 11, 6, 23, 7, 50, 8, 56, 5] vs 56), (sl [0, 1, 4, 11, 6, 23, 7, 50, 8, 56, 5] vs 5)] H)

noncomputable def F4_b0v (C : Oracle) (n : Nat) (v0 v1 v4 v11 v6 v23 v7 v50 v8 v56 v5 : Value) (H : Heap) : AOut :=
  bnd (some (v6, H)) fun x11 H =>
  bnd (some (v1, H)) fun x12 H =>
  bnd (pS (slen x12) H) fun x13 H =>
  bnd (pS (abin Try.prog .lss 3 x11 x13) H) fun x14 H =>
  bnd (some (x14, H)) fun x15 H =>
  bnd (gd (wantV x15 true) (some (v6, H)) H) fun x16 H =>
  bnd (gd (wantV x15 true) (pS (abin Try.prog .lss 3 x16 (Value.int .i64 (60))) H) H) fun x17 H =>
  bnd (pickS x15 x17 (Value.bool false) H) fun x18 H =>
  brB x18 (bnd (some (v1, H)) fun x22 H =>
  bnd (some (v6, H)) fun x23 H =>
  bnd (iadS 1 x22 x23 H) fun x24 H =>
  bnd (pS (ld1 x24 H) H) fun x25 H =>
  bnd (some (x25, H)) fun x26 H =>
  bnd (some (x26, H)) fun x27 H =>
  bnd (C 9 [x27, (Value.int .i64 (4))] H) fun x28 H =>
  bnd (pS (abin Try.prog .add 3 (Value.int .i64 (1)) x28) H) fun x29 H =>
  bnd (some (x26, H)) fun x30 H =>
  bnd (pS (abin Try.prog .quo 3 x30 (Value.int .i64 (4))) H) fun x31 H =>
  bnd (C 9 [x31, (Value.int .i64 (2))] H) fun x32 H =>
  bnd (some (x26, H)) fun x33 H =>
  bnd (pS (abin Try.prog .quo 3 x33 (Value.int .i64 (8))) H) fun x34 H =>
  bnd (C 9 [x34, (Value.int .i64 (4))] H) fun x35 H =>
  bnd (some (x26, H)) fun x36 H =>
  bnd (pS (abin Try.prog .quo 3 x36 (Value.int .i64 (32))) H) fun x37 H =>
  bnd (C 9 [x37, (Value.int .i64 (10))] H) fun x38 H =>
  bnd (pS (abin Try.prog .add 3 (Value.int .i64 (1)) x38) H) fun x39 H =>
  bnd (some (x26, H)) fun x40 H =>
  bnd (pS (abin Try.prog .quo 3 x40 (Value.int .i64 (320))) H) fun x41 H =>
  bnd (C 9 [x41, (Value.int .i64 (3))] H) fun x42 H =>
  bnd (pS (abuild Try.prog 23 [(0, x39), (1, x42), (2, (Value.int .i64 (1)))]) H) fun x43 H =>
  bnd (pS (abuild Try.prog 31 [(0, x29), (1, x32), (2, x35), (3, x43)]) H) fun x44 H =>
  bnd (some (newBlk H 31 1 [(Value.int .i64 (0)), (Value.int .i64 (0)), (Value.int .i64 (0)), (Value.int .i64 (0)), (Value.int .i64 (0)), (Value.int .i64 (0)), (Value.int .i64 (0)), (Value.bool false), (Value.int .i64 (0)), (Value.int .i64 (0)), (Value.int .i64 (0)), (Value.slice none 0 0), (Value.int .i64 (0))])) fun x45 H =>
  bnd (stS 13 x45 x44 H) fun x46 H =>
  bnd (some (x26, H)) fun x62 H =>
  bnd (pS (abin Try.prog .rem 3 x62 (Value.int .i64 (2))) H) fun x63 H =>
  bnd (pS (abin Try.prog .eql 3 x63 (Value.int .i64 (0))) H) fun x64 H =>
  brB x64 (bnd (some (v6, H)) fun x65 H =>
  bnd (pS (abin Try.prog .quo 3 x65 (Value.int .i64 (2))) H) fun x66 H =>
  bnd (fadS 2 x45 H) fun x67 H =>
  bnd (stS 1 x67 x66 H) fun x68 H =>
  F4_j2 C n [v0, v1, v4, v11, v6, x18, x26, x64, x45, v56, v5] H) (
  F4_j2 C n [v0, v1, v4, v11, v6, x18, x26, x64, x45, v56, v5] H)) (
  fin (.exit 0) [v0, v1, v4, v11, v6, x18, v7, v50, v8, v56, v5] H)

theorem F4_b0_v (C : Oracle) (n : Nat) (v0 v1 v4 v11 v6 v23 v7 v50 v8 v56 v5 : Value) (H : Heap) : F4_b0 C n [v0, v1, v4, v11, v6, v23, v7, v50, v8, v56, v5] H = F4_b0v C n v0 v1 v4 v11 v6 v23 v7 v50 v8 v56 v5 H := by
  kernel_rfl

noncomputable def F4_j4 (C : Oracle) (n : Nat) (vs : List Value) (H : Heap) : Option (Value × Heap) :=
  bnd (C 8 [] H) fun x69 H =>
  bnd (some (x69, H)) fun x70 H =>
  bnd (gd (wantV x70 true) (some ((sl [0, 1, 4, 11, 6, 23, 7, 50, 8, 56, 5] vs 0), H)) H) fun x71 H =>
  bnd (gd (wantV x70 true) (C 7 [x71] H) H) fun x72 H =>
  bnd (gd (wantV x70 true) (some ((sl [0, 1, 4, 11, 6, 23, 7, 50, 8, 56, 5] vs 0), H)) H) fun x73 H =>
  bnd (gd (wantV x70 true) (C 10 [x73] H) H) fun x74 H =>
  bnd (gd (wantV x70 true) (pS (abin Try.prog .eql 3 x72 x74) H) H) fun x75 H =>
  bnd (pickS x70 x75 (Value.bool false) H) fun x76 H =>
  bnd (some (x76, H)) fun x77 H =>
  bnd (gd (wantV x77 true) (some ((sl [0, 1, 4, 11, 6, 23, 7, 50, 8, 56, 5] vs 5), H)) H) fun x78 H =>
  bnd (gd (wantV x77 true) (C 7 [x78] H) H) fun x79 H =>
  bnd (gd (wantV x77 true) (some ((sl [0, 1, 4, 11, 6, 23, 7, 50, 8, 56, 5] vs 5), H)) H) fun x80 H =>
  bnd (gd (wantV x77 true) (C 10 [x80] H) H) fun x81 H =>
  bnd (gd (wantV x77 true) (pS (abin Try.prog .eql 3 x79 x81) H) H) fun x82 H =>
  bnd (pickS x77 x82 (Value.bool false) H) fun x83 H =>
  bnd (some (x83, H)) fun x84 H =>
  some (x84, H)

noncomputable def F4_j4v (C : Oracle) (n : Nat) (v0 v1 v4 v11 v6 v23 v7 v50 v8 v56 v5 : Value) (H : Heap) : Option (Value × Heap) :=
  bnd (C 8 [] H) fun x69 H =>
  bnd (some (x69, H)) fun x70 H =>
  bnd (gd (wantV x70 true) (some (v0, H)) H) fun x71 H =>
  bnd (gd (wantV x70 true) (C 7 [x71] H) H) fun x72 H =>
  bnd (gd (wantV x70 true) (some (v0, H)) H) fun x73 H =>
  bnd (gd (wantV x70 true) (C 10 [x73] H) H) fun x74 H =>
  bnd (gd (wantV x70 true) (pS (abin Try.prog .eql 3 x72 x74) H) H) fun x75 H =>
  bnd (pickS x70 x75 (Value.bool false) H) fun x76 H =>
  bnd (some (x76, H)) fun x77 H =>
  bnd (gd (wantV x77 true) (some (v5, H)) H) fun x78 H =>
  bnd (gd (wantV x77 true) (C 7 [x78] H) H) fun x79 H =>
  bnd (gd (wantV x77 true) (some (v5, H)) H) fun x80 H =>
  bnd (gd (wantV x77 true) (C 10 [x80] H) H) fun x81 H =>
  bnd (gd (wantV x77 true) (pS (abin Try.prog .eql 3 x79 x81) H) H) fun x82 H =>
  bnd (pickS x77 x82 (Value.bool false) H) fun x83 H =>
  bnd (some (x83, H)) fun x84 H =>
  some (x84, H)

theorem F4_j4_v (C : Oracle) (n : Nat) (v0 v1 v4 v11 v6 v23 v7 v50 v8 v56 v5 : Value) (H : Heap) : F4_j4 C n [v0, v1, v4, v11, v6, v23, v7, v50, v8, v56, v5] H = F4_j4v C n v0 v1 v4 v11 v6 v23 v7 v50 v8 v56 v5 H := by
  kernel_rfl

noncomputable def F4 (C : Oracle) (n : Nat) (a0 a1 : Value) (H : Heap) : Option (Value × Heap) :=
  bnd (some ((Value.bool false), H)) fun x0 H =>
  bnd (some (a0, H)) fun x1 H =>
  bnd (pS (slen x1) H) fun x2 H =>
  bnd (pS (abin Try.prog .gtr 3 x2 (Value.int .i64 (60))) H) fun x3 H =>
  brB x3 (bnd (C 8 [] H) fun x4 H =>
  bnd (some (x4, H)) fun x5 H =>
  some (x5, H)) (
  bnd (abuildSlice Try.prog 32 0 [] H) fun x6 H =>
  bnd (some (a0, H)) fun x7 H =>
  bnd (appS 31 13 120 x6 x7 H) fun x8 H =>
  bnd (some (x8, H)) fun x9 H =>
  bnd (some ((Value.int .i64 (0)), H)) fun x10 H =>
  onOut (iter n (F4_b0 C n) [a0, a1, x0, x3, x10, undef, undef, undef, undef, undef, x9] H) (kBlk 0 (kSeq (F4_j4 C n) (kRet Try.prog [.tmp 4] [0, 1, 4, 11, 6, 23, 7, 50, 8, 56, 5]))))

theorem F4_eq (G : Oracle) (n : Nat) (a0 a1 : Value) (H : Heap) : run G (n + 1) 4 [a0, a1] H = F4 (run G n) n a0 a1 H := by
  unfold run; rw [acall_k (fn := Try.f4) (keep := [0, 1, 4, 11, 6, 23, 7, 50, 8, 56, 5]) (notBad 4 rfl) (by kernel_rfl) (by kernel_rfl)]
  kernel_rfl

end Go.Proofs.Ytgakioiplkehgaa.Fun
