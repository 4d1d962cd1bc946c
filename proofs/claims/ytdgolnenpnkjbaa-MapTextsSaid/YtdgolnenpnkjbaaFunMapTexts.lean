/- The program's functions as plain terms, each with its equation; printed by wip/am/fun.py. -/
import Derived.Test.YtdgolnenpnkjbaaFunK
namespace Go.Proofs.Ytdgolnenpnkjbaa.Fun
open Go.RowKit Go.Proofs.YtdgolnenpnkjbaaA.Am
set_option linter.unusedVariables false
set_option maxRecDepth 10000
abbrev F4_st (v0 : Value := undef) (v2 : Value := undef) (v12 : Value := undef) (v4 : Value := undef) (v22 : Value := undef) (v3 : Value := undef) (v35 : Value := undef) (v36 : Value := undef) (v6 : Value := undef) (v7 : Value := undef) (v5 : Value := undef) (v44 : Value := undef) (v8 : Value := undef) (v55 : Value := undef) (v10 : Value := undef) (v68 : Value := undef) : List Value := [v0, v2, v12, v4, v22, v3, v35, v36, v6, v7, v5, v44, v8, v55, v10, v68]

noncomputable def F4_b0 (C : Oracle) (n : Nat) (vs : List Value) (H : Heap) : AOut :=
  bnd (some ((sl [0, 2, 12, 4, 22, 3, 35, 36, 6, 7, 5, 44, 8, 55, 10, 68] vs 4), H)) fun x8 H =>
  bnd (some ((sl [0, 2, 12, 4, 22, 3, 35, 36, 6, 7, 5, 44, 8, 55, 10, 68] vs 0), H)) fun x9 H =>
  bnd (pS (slen x9) H) fun x10 H =>
  bnd (pS (abin Try.prog .lss 3 x8 x10) H) fun x11 H =>
  bnd (some (x11, H)) fun x12 H =>
  bnd (gd (wantV x12 true) (some ((sl [0, 2, 12, 4, 22, 3, 35, 36, 6, 7, 5, 44, 8, 55, 10, 68] vs 4), H)) H) fun x13 H =>
  bnd (gd (wantV x12 true) (pS (abin Try.prog .lss 3 x13 (Value.int .i64 (100))) H) H) fun x14 H =>
  bnd (pickS x12 x14 (Value.bool false) H) fun x15 H =>
  brB x15 (bnd (some ((sl [0, 2, 12, 4, 22, 3, 35, 36, 6, 7, 5, 44, 8, 55, 10, 68] vs 3), H)) fun x16 H =>
  bnd (some ((sl [0, 2, 12, 4, 22, 3, 35, 36, 6, 7, 5, 44, 8, 55, 10, 68] vs 0), H)) fun x17 H =>
  bnd (some ((sl [0, 2, 12, 4, 22, 3, 35, 36, 6, 7, 5, 44, 8, 55, 10, 68] vs 4), H)) fun x18 H =>
  bnd (iadS 1 x17 x18 H) fun x19 H =>
  bnd (pS (ld1 x19 H) H) fun x20 H =>
  bnd (some ((sl [0, 2, 12, 4, 22, 3, 35, 36, 6, 7, 5, 44, 8, 55, 10, 68] vs 4), H)) fun x21 H =>
  bnd (pS (abin Try.prog .rem 3 x21 (Value.int .i64 (2))) H) fun x22 H =>
  bnd (pS (abin Try.prog .eql 3 x22 (Value.int .i64 (0))) H) fun x23 H =>
  bnd (C 16 [x16, x20, x23] H) fun x24 H =>
  bnd (some ((sl [0, 2, 12, 4, 22, 3, 35, 36, 6, 7, 5, 44, 8, 55, 10, 68] vs 4), H)) fun x25 H =>
  bnd (pS (abin Try.prog .add 3 x25 (Value.int .i64 (1))) H) fun x26 H =>
  bnd (some (x26, H)) fun x27 H =>
  fin .normal [(sl [0, 2, 12, 4, 22, 3, 35, 36, 6, 7, 5, 44, 8, 55, 10, 68] vs 0), (sl [0, 2, 12, 4, 22, 3, 35, 36, 6, 7, 5, 44, 8, 55, 10, 68] vs 2), (sl [0, 2, 12, 4, 22, 3, 35, 36, 6, 7, 5, 44, 8, 55, 10, 68] vs 12), x27, x15, (sl [0, 2, 12, 4, 22, 3, 35, 36, 6, 7, 5, 44, 8, 55, 10, 68] vs 3), (sl [0, 2, 12, 4, 22, 3, 35, 36, 6, 7, 5, 44, 8, 55, 10, 68] vs 35), (sl [0, 2, 12, 4, 22, 3, 35, 36, 6, 7, 5, 44, 8, 55, 10, 68] vs 36), (sl [0, 2, 12, 4, 22, 3, 35, 36, 6, 7, 5, 44, 8, 55, 10, 68] vs 6), (sl [0, 2, 12, 4, 22, 3, 35, 36, 6, 7, 5, 44, 8, 55, 10, 68] vs 7), (sl [0, 2, 12, 4, 22, 3, 35, 36, 6, 7, 5, 44, 8, 55, 10, 68] vs 5), (sl [0, 2, 12, 4, 22, 3, 35, 36, 6, 7, 5, 44, 8, 55, 10, 68] vs 44), (sl [0, 2, 12, 4, 22, 3, 35, 36, 6, 7, 5, 44, 8, 55, 10, 68] vs 8), (sl [0, 2, 12, 4, 22, 3, 35, 36, 6, 7, 5, 44, 8, 55, 10, 68] vs 55), (sl [0, 2, 12, 4, 22, 3, 35, 36, 6, 7, 5, 44, 8, 55, 10, 68] vs 10), (sl [0, 2, 12, 4, 22, 3, 35, 36, 6, 7, 5, 44, 8, 55, 10, 68] vs 68)] H) (
  fin (.exit 0) [(sl [0, 2, 12, 4, 22, 3, 35, 36, 6, 7, 5, 44, 8, 55, 10, 68] vs 0), (sl [0, 2, 12, 4, 22, 3, 35, 36, 6, 7, 5, 44, 8, 55, 10, 68] vs 2), (sl [0, 2, 12, 4, 22, 3, 35, 36, 6, 7, 5, 44, 8, 55, 10, 68] vs 12), (sl [0, 2, 12, 4, 22, 3, 35, 36, 6, 7, 5, 44, 8, 55, 10, 68] vs 4), x15, (sl [0, 2, 12, 4, 22, 3, 35, 36, 6, 7, 5, 44, 8, 55, 10, 68] vs 3), (sl [0, 2, 12, 4, 22, 3, 35, 36, 6, 7, 5, 44, 8, 55, 10, 68] vs 35), (sl [0, 2, 12, 4, 22, 3, 35, 36, 6, 7, 5, 44, 8, 55, 10, 68] vs 36), (sl [0, 2, 12, 4, 22, 3, 35, 36, 6, 7, 5, 44, 8, 55, 10, 68] vs 6), (sl [0, 2, 12, 4, 22, 3, 35, 36, 6, 7, 5, 44, 8, 55, 10, 68] vs 7), (sl [0, 2, 12, 4, 22, 3, 35, 36, 6, 7, 5, 44, 8, 55, 10, 68] vs 5), (sl [0, 2, 12, 4, 22, 3, 35, 36, 6, 7, 5, 44, 8, 55, 10, 68] vs 44), (sl [0, 2, 12, 4, 22, 3, 35, 36, 6, 7, 5, 44, 8, 55, 10, 68] vs 8), (sl [0, 2, 12, 4, 22, 3, 35, 36, 6, 7, 5, 44, 8, 55, 10, 68] vs 55), (sl [0, 2, 12, 4, 22, 3, 35, 36, 6, 7, 5, 44, 8, 55, 10, 68] vs 10), (sl [0, 2, 12, 4, 22, 3, 35, 36, 6, 7, 5, 44, 8, 55, 10, 68] vs 68)] H)

noncomputable def F4_b0v (C : Oracle) (n : Nat) (v0 v2 v12 v4 v22 v3 v35 v36 v6 v7 v5 v44 v8 v55 v10 v68 : Value) (H : Heap) : AOut :=
  bnd (some (v4, H)) fun x8 H =>
  bnd (some (v0, H)) fun x9 H =>
  bnd (pS (slen x9) H) fun x10 H =>
  bnd (pS (abin Try.prog .lss 3 x8 x10) H) fun x11 H =>
  bnd (some (x11, H)) fun x12 H =>
  bnd (gd (wantV x12 true) (some (v4, H)) H) fun x13 H =>
  bnd (gd (wantV x12 true) (pS (abin Try.prog .lss 3 x13 (Value.int .i64 (100))) H) H) fun x14 H =>
  bnd (pickS x12 x14 (Value.bool false) H) fun x15 H =>
  brB x15 (bnd (some (v3, H)) fun x16 H =>
  bnd (some (v0, H)) fun x17 H =>
  bnd (some (v4, H)) fun x18 H =>
  bnd (iadS 1 x17 x18 H) fun x19 H =>
  bnd (pS (ld1 x19 H) H) fun x20 H =>
  bnd (some (v4, H)) fun x21 H =>
  bnd (pS (abin Try.prog .rem 3 x21 (Value.int .i64 (2))) H) fun x22 H =>
  bnd (pS (abin Try.prog .eql 3 x22 (Value.int .i64 (0))) H) fun x23 H =>
  bnd (C 16 [x16, x20, x23] H) fun x24 H =>
  bnd (some (v4, H)) fun x25 H =>
  bnd (pS (abin Try.prog .add 3 x25 (Value.int .i64 (1))) H) fun x26 H =>
  bnd (some (x26, H)) fun x27 H =>
  fin .normal [v0, v2, v12, x27, x15, v3, v35, v36, v6, v7, v5, v44, v8, v55, v10, v68] H) (
  fin (.exit 0) [v0, v2, v12, v4, x15, v3, v35, v36, v6, v7, v5, v44, v8, v55, v10, v68] H)

theorem F4_b0_v (C : Oracle) (n : Nat) (v0 v2 v12 v4 v22 v3 v35 v36 v6 v7 v5 v44 v8 v55 v10 v68 : Value) (H : Heap) : F4_b0 C n [v0, v2, v12, v4, v22, v3, v35, v36, v6, v7, v5, v44, v8, v55, v10, v68] H = F4_b0v C n v0 v2 v12 v4 v22 v3 v35 v36 v6 v7 v5 v44 v8 v55 v10 v68 H := by
  kernel_rfl

noncomputable def F4_b3 (C : Oracle) (n : Nat) (vs : List Value) (H : Heap) : AOut :=
  bnd (some ((sl [0, 2, 12, 4, 22, 3, 35, 36, 6, 7, 5, 44, 8, 55, 10, 68] vs 8), H)) fun x33 H =>
  bnd (some ((sl [0, 2, 12, 4, 22, 3, 35, 36, 6, 7, 5, 44, 8, 55, 10, 68] vs 0), H)) fun x34 H =>
  bnd (pS (slen x34) H) fun x35 H =>
  bnd (pS (abin Try.prog .lss 3 x33 x35) H) fun x36 H =>
  bnd (some (x36, H)) fun x37 H =>
  bnd (gd (wantV x37 true) (some ((sl [0, 2, 12, 4, 22, 3, 35, 36, 6, 7, 5, 44, 8, 55, 10, 68] vs 8), H)) H) fun x38 H =>
  bnd (gd (wantV x37 true) (pS (abin Try.prog .lss 3 x38 (Value.int .i64 (100))) H) H) fun x39 H =>
  bnd (pickS x37 x39 (Value.bool false) H) fun x40 H =>
  brB x40 (bnd (some ((sl [0, 2, 12, 4, 22, 3, 35, 36, 6, 7, 5, 44, 8, 55, 10, 68] vs 3), H)) fun x41 H =>
  bnd (some ((sl [0, 2, 12, 4, 22, 3, 35, 36, 6, 7, 5, 44, 8, 55, 10, 68] vs 0), H)) fun x42 H =>
  bnd (some ((sl [0, 2, 12, 4, 22, 3, 35, 36, 6, 7, 5, 44, 8, 55, 10, 68] vs 8), H)) fun x43 H =>
  bnd (iadS 1 x42 x43 H) fun x44 H =>
  bnd (pS (ld1 x44 H) H) fun x45 H =>
  bnd (C 18 [x41, x45] H) fun x46 H =>
  bnd (some (x46, H)) fun x47 H =>
  bnd (extS 0 x47 H) fun x48 H =>
  bnd (extS 1 x47 H) fun x49 H =>
  bnd (some (x48, H)) fun x50 H =>
  bnd (some (x49, H)) fun x51 H =>
  bnd (some (x51, H)) fun x52 H =>
  bnd (pS (aun .not x52) H) fun x53 H =>
  brB x53 (bnd (stS 1 (sl [0, 2, 12, 4, 22, 3, 35, 36, 6, 7, 5, 44, 8, 55, 10, 68] vs 2) (Value.bool false) H) fun x54 H =>
  fin .ret [(sl [0, 2, 12, 4, 22, 3, 35, 36, 6, 7, 5, 44, 8, 55, 10, 68] vs 0), (sl [0, 2, 12, 4, 22, 3, 35, 36, 6, 7, 5, 44, 8, 55, 10, 68] vs 2), (sl [0, 2, 12, 4, 22, 3, 35, 36, 6, 7, 5, 44, 8, 55, 10, 68] vs 12), (sl [0, 2, 12, 4, 22, 3, 35, 36, 6, 7, 5, 44, 8, 55, 10, 68] vs 4), (sl [0, 2, 12, 4, 22, 3, 35, 36, 6, 7, 5, 44, 8, 55, 10, 68] vs 22), (sl [0, 2, 12, 4, 22, 3, 35, 36, 6, 7, 5, 44, 8, 55, 10, 68] vs 3), (sl [0, 2, 12, 4, 22, 3, 35, 36, 6, 7, 5, 44, 8, 55, 10, 68] vs 35), (sl [0, 2, 12, 4, 22, 3, 35, 36, 6, 7, 5, 44, 8, 55, 10, 68] vs 36), (sl [0, 2, 12, 4, 22, 3, 35, 36, 6, 7, 5, 44, 8, 55, 10, 68] vs 6), (sl [0, 2, 12, 4, 22, 3, 35, 36, 6, 7, 5, 44, 8, 55, 10, 68] vs 7), (sl [0, 2, 12, 4, 22, 3, 35, 36, 6, 7, 5, 44, 8, 55, 10, 68] vs 5), (sl [0, 2, 12, 4, 22, 3, 35, 36, 6, 7, 5, 44, 8, 55, 10, 68] vs 44), (sl [0, 2, 12, 4, 22, 3, 35, 36, 6, 7, 5, 44, 8, 55, 10, 68] vs 8), x40, x51, x53] H) (
  bnd (some ((sl [0, 2, 12, 4, 22, 3, 35, 36, 6, 7, 5, 44, 8, 55, 10, 68] vs 8), H)) fun x55 H =>
  bnd (pS (abin Try.prog .add 3 x55 (Value.int .i64 (1))) H) fun x56 H =>
  bnd (some (x56, H)) fun x57 H =>
  fin .normal [(sl [0, 2, 12, 4, 22, 3, 35, 36, 6, 7, 5, 44, 8, 55, 10, 68] vs 0), (sl [0, 2, 12, 4, 22, 3, 35, 36, 6, 7, 5, 44, 8, 55, 10, 68] vs 2), (sl [0, 2, 12, 4, 22, 3, 35, 36, 6, 7, 5, 44, 8, 55, 10, 68] vs 12), (sl [0, 2, 12, 4, 22, 3, 35, 36, 6, 7, 5, 44, 8, 55, 10, 68] vs 4), (sl [0, 2, 12, 4, 22, 3, 35, 36, 6, 7, 5, 44, 8, 55, 10, 68] vs 22), (sl [0, 2, 12, 4, 22, 3, 35, 36, 6, 7, 5, 44, 8, 55, 10, 68] vs 3), (sl [0, 2, 12, 4, 22, 3, 35, 36, 6, 7, 5, 44, 8, 55, 10, 68] vs 35), (sl [0, 2, 12, 4, 22, 3, 35, 36, 6, 7, 5, 44, 8, 55, 10, 68] vs 36), (sl [0, 2, 12, 4, 22, 3, 35, 36, 6, 7, 5, 44, 8, 55, 10, 68] vs 6), (sl [0, 2, 12, 4, 22, 3, 35, 36, 6, 7, 5, 44, 8, 55, 10, 68] vs 7), (sl [0, 2, 12, 4, 22, 3, 35, 36, 6, 7, 5, 44, 8, 55, 10, 68] vs 5), (sl [0, 2, 12, 4, 22, 3, 35, 36, 6, 7, 5, 44, 8, 55, 10, 68] vs 44), x57, x40, x51, x53] H)) (
  fin (.exit 4) [(sl [0, 2, 12, 4, 22, 3, 35, 36, 6, 7, 5, 44, 8, 55, 10, 68] vs 0), (sl [0, 2, 12, 4, 22, 3, 35, 36, 6, 7, 5, 44, 8, 55, 10, 68] vs 2), (sl [0, 2, 12, 4, 22, 3, 35, 36, 6, 7, 5, 44, 8, 55, 10, 68] vs 12), (sl [0, 2, 12, 4, 22, 3, 35, 36, 6, 7, 5, 44, 8, 55, 10, 68] vs 4), (sl [0, 2, 12, 4, 22, 3, 35, 36, 6, 7, 5, 44, 8, 55, 10, 68] vs 22), (sl [0, 2, 12, 4, 22, 3, 35, 36, 6, 7, 5, 44, 8, 55, 10, 68] vs 3), (sl [0, 2, 12, 4, 22, 3, 35, 36, 6, 7, 5, 44, 8, 55, 10, 68] vs 35), (sl [0, 2, 12, 4, 22, 3, 35, 36, 6, 7, 5, 44, 8, 55, 10, 68] vs 36), (sl [0, 2, 12, 4, 22, 3, 35, 36, 6, 7, 5, 44, 8, 55, 10, 68] vs 6), (sl [0, 2, 12, 4, 22, 3, 35, 36, 6, 7, 5, 44, 8, 55, 10, 68] vs 7), (sl [0, 2, 12, 4, 22, 3, 35, 36, 6, 7, 5, 44, 8, 55, 10, 68] vs 5), (sl [0, 2, 12, 4, 22, 3, 35, 36, 6, 7, 5, 44, 8, 55, 10, 68] vs 44), (sl [0, 2, 12, 4, 22, 3, 35, 36, 6, 7, 5, 44, 8, 55, 10, 68] vs 8), x40, (sl [0, 2, 12, 4, 22, 3, 35, 36, 6, 7, 5, 44, 8, 55, 10, 68] vs 10), (sl [0, 2, 12, 4, 22, 3, 35, 36, 6, 7, 5, 44, 8, 55, 10, 68] vs 68)] H)

noncomputable def F4_b3v (C : Oracle) (n : Nat) (v0 v2 v12 v4 v22 v3 v35 v36 v6 v7 v5 v44 v8 v55 v10 v68 : Value) (H : Heap) : AOut :=
  bnd (some (v8, H)) fun x33 H =>
  bnd (some (v0, H)) fun x34 H =>
  bnd (pS (slen x34) H) fun x35 H =>
  bnd (pS (abin Try.prog .lss 3 x33 x35) H) fun x36 H =>
  bnd (some (x36, H)) fun x37 H =>
  bnd (gd (wantV x37 true) (some (v8, H)) H) fun x38 H =>
  bnd (gd (wantV x37 true) (pS (abin Try.prog .lss 3 x38 (Value.int .i64 (100))) H) H) fun x39 H =>
  bnd (pickS x37 x39 (Value.bool false) H) fun x40 H =>
  brB x40 (bnd (some (v3, H)) fun x41 H =>
  bnd (some (v0, H)) fun x42 H =>
  bnd (some (v8, H)) fun x43 H =>
  bnd (iadS 1 x42 x43 H) fun x44 H =>
  bnd (pS (ld1 x44 H) H) fun x45 H =>
  bnd (C 18 [x41, x45] H) fun x46 H =>
  bnd (some (x46, H)) fun x47 H =>
  bnd (extS 0 x47 H) fun x48 H =>
  bnd (extS 1 x47 H) fun x49 H =>
  bnd (some (x48, H)) fun x50 H =>
  bnd (some (x49, H)) fun x51 H =>
  bnd (some (x51, H)) fun x52 H =>
  bnd (pS (aun .not x52) H) fun x53 H =>
  brB x53 (bnd (stS 1 v2 (Value.bool false) H) fun x54 H =>
  fin .ret [v0, v2, v12, v4, v22, v3, v35, v36, v6, v7, v5, v44, v8, x40, x51, x53] H) (
  bnd (some (v8, H)) fun x55 H =>
  bnd (pS (abin Try.prog .add 3 x55 (Value.int .i64 (1))) H) fun x56 H =>
  bnd (some (x56, H)) fun x57 H =>
  fin .normal [v0, v2, v12, v4, v22, v3, v35, v36, v6, v7, v5, v44, x57, x40, x51, x53] H)) (
  fin (.exit 4) [v0, v2, v12, v4, v22, v3, v35, v36, v6, v7, v5, v44, v8, x40, v10, v68] H)

theorem F4_b3_v (C : Oracle) (n : Nat) (v0 v2 v12 v4 v22 v3 v35 v36 v6 v7 v5 v44 v8 v55 v10 v68 : Value) (H : Heap) : F4_b3 C n [v0, v2, v12, v4, v22, v3, v35, v36, v6, v7, v5, v44, v8, v55, v10, v68] H = F4_b3v C n v0 v2 v12 v4 v22 v3 v35 v36 v6 v7 v5 v44 v8 v55 v10 v68 H := by
  kernel_rfl

noncomputable def F4_j4 (C : Oracle) (n : Nat) (vs : List Value) (H : Heap) : Option (Value × Heap) :=
  bnd (C 10 [] H) fun x58 Hx58 =>
  bnd (some (x58, Hx58)) fun x59 Hx59 =>
  bnd (gd (wantV x59 true) (pS (ld1 (sl [0, 2, 12, 4, 22, 3, 35, 36, 6, 7, 5, 44, 8, 55, 10, 68] vs 6) Hx59) Hx59) Hx59) fun x60 Hx60 =>
  bnd (gd (wantV x59 true) (some ((sl [0, 2, 12, 4, 22, 3, 35, 36, 6, 7, 5, 44, 8, 55, 10, 68] vs 3), Hx60)) Hx60) fun x61 Hx61 =>
  bnd (gd (wantV x59 true) (C 19 [x61] Hx61) Hx61) fun x62 Hx62 =>
  bnd (gd (wantV x59 true) (pS (abin Try.prog .eql 3 x60 x62) Hx62) Hx62) fun x63 Hx63 =>
  bnd (pickS x59 x63 (Value.bool false) Hx63) fun x64 Hx64 =>
  bnd (some (x64, Hx64)) fun x65 Hx65 =>
  bnd (gd (wantV x65 true) (pS (ld1 (sl [0, 2, 12, 4, 22, 3, 35, 36, 6, 7, 5, 44, 8, 55, 10, 68] vs 6) Hx65) Hx65) Hx65) fun x66 Hx66 =>
  bnd (gd (wantV x65 true) (some ((sl [0, 2, 12, 4, 22, 3, 35, 36, 6, 7, 5, 44, 8, 55, 10, 68] vs 0), Hx66)) Hx66) fun x67 Hx67 =>
  bnd (gd (wantV x65 true) (pS (slen x67) Hx67) Hx67) fun x68 Hx68 =>
  bnd (gd (wantV x65 true) (pS (abin Try.prog .leq 3 x66 x68) Hx68) Hx68) fun x69 Hx69 =>
  bnd (pickS x65 x69 (Value.bool false) Hx69) fun x70 Hx70 =>
  bnd (some (x70, Hx70)) fun x71 Hx71 =>
  bnd (gd (wantV x71 true) (pS (ld1 (sl [0, 2, 12, 4, 22, 3, 35, 36, 6, 7, 5, 44, 8, 55, 10, 68] vs 6) Hx71) Hx71) Hx71) fun x72 Hx72 =>
  bnd (gd (wantV x71 true) (pS (abin Try.prog .eql 3 x72 (Value.int .i64 (0))) Hx72) Hx72) fun x73 Hx73 =>
  bnd (gd (wantV x71 true) (some ((sl [0, 2, 12, 4, 22, 3, 35, 36, 6, 7, 5, 44, 8, 55, 10, 68] vs 0), Hx73)) Hx73) fun x74 Hx74 =>
  bnd (gd (wantV x71 true) (pS (slen x74) Hx74) Hx74) fun x75 Hx75 =>
  bnd (gd (wantV x71 true) (pS (abin Try.prog .eql 3 x75 (Value.int .i64 (0))) Hx75) Hx75) fun x76 Hx76 =>
  bnd (gd (wantV x71 true) (pS (abin Try.prog .eql 4 x73 x76) Hx76) Hx76) fun x77 Hx77 =>
  bnd (pickS x71 x77 (Value.bool false) Hx77) fun x78 Hx78 =>
  bnd (stS 1 (sl [0, 2, 12, 4, 22, 3, 35, 36, 6, 7, 5, 44, 8, 55, 10, 68] vs 2) x78 Hx78) fun x79 Hx79 =>
  (fun H => if (cfS (wantV x59 true) (wantV x59 true) (pS (ld1 (sl [0, 2, 12, 4, 22, 3, 35, 36, 6, 7, 5, 44, 8, 55, 10, 68] vs 6) Hx59) Hx59) (pS (ld1 (sl [0, 2, 12, 4, 22, 3, 35, 36, 6, 7, 5, 44, 8, 55, 10, 68] vs 6) Hx61) Hx61) (pS (ld1 (sl [0, 2, 12, 4, 22, 3, 35, 36, 6, 7, 5, 44, 8, 55, 10, 68] vs 6) Hx62) Hx62) && true) = true then
  bnd (pS (ld1 (sl [0, 2, 12, 4, 22, 3, 35, 36, 6, 7, 5, 44, 8, 55, 10, 68] vs 2) H) H) fun r0 _ =>
  some (r0, H) else none) Hx79

noncomputable def F4_j4v (C : Oracle) (n : Nat) (v0 v2 v12 v4 v22 v3 v35 v36 v6 v7 v5 v44 v8 v55 v10 v68 : Value) (H : Heap) : Option (Value × Heap) :=
  bnd (C 10 [] H) fun x58 Hx58 =>
  bnd (some (x58, Hx58)) fun x59 Hx59 =>
  bnd (gd (wantV x59 true) (pS (ld1 v6 Hx59) Hx59) Hx59) fun x60 Hx60 =>
  bnd (gd (wantV x59 true) (some (v3, Hx60)) Hx60) fun x61 Hx61 =>
  bnd (gd (wantV x59 true) (C 19 [x61] Hx61) Hx61) fun x62 Hx62 =>
  bnd (gd (wantV x59 true) (pS (abin Try.prog .eql 3 x60 x62) Hx62) Hx62) fun x63 Hx63 =>
  bnd (pickS x59 x63 (Value.bool false) Hx63) fun x64 Hx64 =>
  bnd (some (x64, Hx64)) fun x65 Hx65 =>
  bnd (gd (wantV x65 true) (pS (ld1 v6 Hx65) Hx65) Hx65) fun x66 Hx66 =>
  bnd (gd (wantV x65 true) (some (v0, Hx66)) Hx66) fun x67 Hx67 =>
  bnd (gd (wantV x65 true) (pS (slen x67) Hx67) Hx67) fun x68 Hx68 =>
  bnd (gd (wantV x65 true) (pS (abin Try.prog .leq 3 x66 x68) Hx68) Hx68) fun x69 Hx69 =>
  bnd (pickS x65 x69 (Value.bool false) Hx69) fun x70 Hx70 =>
  bnd (some (x70, Hx70)) fun x71 Hx71 =>
  bnd (gd (wantV x71 true) (pS (ld1 v6 Hx71) Hx71) Hx71) fun x72 Hx72 =>
  bnd (gd (wantV x71 true) (pS (abin Try.prog .eql 3 x72 (Value.int .i64 (0))) Hx72) Hx72) fun x73 Hx73 =>
  bnd (gd (wantV x71 true) (some (v0, Hx73)) Hx73) fun x74 Hx74 =>
  bnd (gd (wantV x71 true) (pS (slen x74) Hx74) Hx74) fun x75 Hx75 =>
  bnd (gd (wantV x71 true) (pS (abin Try.prog .eql 3 x75 (Value.int .i64 (0))) Hx75) Hx75) fun x76 Hx76 =>
  bnd (gd (wantV x71 true) (pS (abin Try.prog .eql 4 x73 x76) Hx76) Hx76) fun x77 Hx77 =>
  bnd (pickS x71 x77 (Value.bool false) Hx77) fun x78 Hx78 =>
  bnd (stS 1 v2 x78 Hx78) fun x79 Hx79 =>
  (fun H => if (cfS (wantV x59 true) (wantV x59 true) (pS (ld1 v6 Hx59) Hx59) (pS (ld1 v6 Hx61) Hx61) (pS (ld1 v6 Hx62) Hx62) && true) = true then
  bnd (pS (ld1 v2 H) H) fun r0 _ =>
  some (r0, H) else none) Hx79

theorem F4_j4_v (C : Oracle) (n : Nat) (v0 v2 v12 v4 v22 v3 v35 v36 v6 v7 v5 v44 v8 v55 v10 v68 : Value) (H : Heap) : F4_j4 C n [v0, v2, v12, v4, v22, v3, v35, v36, v6, v7, v5, v44, v8, v55, v10, v68] H = F4_j4v C n v0 v2 v12 v4 v22 v3 v35 v36 v6 v7 v5 v44 v8 v55 v10 v68 H := by
  kernel_rfl

noncomputable def F4_j2 (C : Oracle) (n : Nat) (vs : List Value) (H : Heap) : Option (Value × Heap) :=
  bnd (some ((Value.int .i64 (0)), H)) fun x32 H =>
  onOut (iter n (F4_b3 C n) [(sl [0, 2, 12, 4, 22, 3, 35, 36, 6, 7, 5, 44, 8, 55, 10, 68] vs 0), (sl [0, 2, 12, 4, 22, 3, 35, 36, 6, 7, 5, 44, 8, 55, 10, 68] vs 2), (sl [0, 2, 12, 4, 22, 3, 35, 36, 6, 7, 5, 44, 8, 55, 10, 68] vs 12), (sl [0, 2, 12, 4, 22, 3, 35, 36, 6, 7, 5, 44, 8, 55, 10, 68] vs 4), (sl [0, 2, 12, 4, 22, 3, 35, 36, 6, 7, 5, 44, 8, 55, 10, 68] vs 22), (sl [0, 2, 12, 4, 22, 3, 35, 36, 6, 7, 5, 44, 8, 55, 10, 68] vs 3), (sl [0, 2, 12, 4, 22, 3, 35, 36, 6, 7, 5, 44, 8, 55, 10, 68] vs 35), (sl [0, 2, 12, 4, 22, 3, 35, 36, 6, 7, 5, 44, 8, 55, 10, 68] vs 36), (sl [0, 2, 12, 4, 22, 3, 35, 36, 6, 7, 5, 44, 8, 55, 10, 68] vs 6), (sl [0, 2, 12, 4, 22, 3, 35, 36, 6, 7, 5, 44, 8, 55, 10, 68] vs 7), (sl [0, 2, 12, 4, 22, 3, 35, 36, 6, 7, 5, 44, 8, 55, 10, 68] vs 5), (sl [0, 2, 12, 4, 22, 3, 35, 36, 6, 7, 5, 44, 8, 55, 10, 68] vs 44), x32, (sl [0, 2, 12, 4, 22, 3, 35, 36, 6, 7, 5, 44, 8, 55, 10, 68] vs 55), (sl [0, 2, 12, 4, 22, 3, 35, 36, 6, 7, 5, 44, 8, 55, 10, 68] vs 10), (sl [0, 2, 12, 4, 22, 3, 35, 36, 6, 7, 5, 44, 8, 55, 10, 68] vs 68)] H) (kBlk 4 (kSeq (F4_j4 C n) (kRet Try.prog [.cell 2 4] [0, 2, 12, 4, 22, 3, 35, 36, 6, 7, 5, 44, 8, 55, 10, 68])))

noncomputable def F4_j2v (C : Oracle) (n : Nat) (v0 v2 v12 v4 v22 v3 v35 v36 v6 v7 v5 v44 v8 v55 v10 v68 : Value) (H : Heap) : Option (Value × Heap) :=
  bnd (some ((Value.int .i64 (0)), H)) fun x32 H =>
  onOut (iter n (F4_b3 C n) [v0, v2, v12, v4, v22, v3, v35, v36, v6, v7, v5, v44, x32, v55, v10, v68] H) (kBlk 4 (kSeq (F4_j4 C n) (kRet Try.prog [.cell 2 4] [0, 2, 12, 4, 22, 3, 35, 36, 6, 7, 5, 44, 8, 55, 10, 68])))

theorem F4_j2_v (C : Oracle) (n : Nat) (v0 v2 v12 v4 v22 v3 v35 v36 v6 v7 v5 v44 v8 v55 v10 v68 : Value) (H : Heap) : F4_j2 C n [v0, v2, v12, v4, v22, v3, v35, v36, v6, v7, v5, v44, v8, v55, v10, v68] H = F4_j2v C n v0 v2 v12 v4 v22 v3 v35 v36 v6 v7 v5 v44 v8 v55 v10 v68 H := by
  kernel_rfl

noncomputable def F4_L0 (vs : List Value) : ALoop := ⟨[0, 2, 12, 4, 22, 3, 35, 36, 6, 7, 5, 44, 8, 55, 10, 68], vs, (lpAt Try.prog 4 0).1, (lpAt Try.prog 4 0).2.1, (lpAt Try.prog 4 0).2.2⟩

noncomputable def F4_R0 (C : Oracle) (n i : Nat) (v0 v2 v12 v4 v22 v3 v35 v36 v6 v7 v5 v44 v8 v55 v10 v68 : Value) (a0 a1 : Value) (H : Heap) : Option (Value × Heap) :=
  bnd (some (a0, H)) fun x82 H =>
  begR i H fun H =>
  bnd (pS (ld1 v6 H) H) fun x83 H =>
  bnd (pS (abin Try.prog .gtr 3 x83 (Value.int .i64 (0))) H) fun x84 H =>
  bnd (some (x84, H)) fun x85 H =>
  bnd (gd (wantV x85 true) (some (x82, H)) H) fun x86 H =>
  bnd (gd (wantV x85 true) (pS (ld1 v5 H) H) H) fun x87 H =>
  bnd (gd (wantV x85 true) (pS (abin Try.prog .leq 9 x86 x87) H) H) fun x88 H =>
  bnd (pickS x85 x88 (Value.bool false) H) fun x89 H =>
  brB x89 (bnd (stS 1 v2 (Value.bool false) H) fun x90 H =>
  endR i .ret H) (
  bnd (some (x82, H)) fun x91 H =>
  bnd (stS 1 v5 x91 H) fun x92 H =>
  bnd (pS (ld1 v6 H) H) fun x93 H =>
  bnd (pS (abin Try.prog .add 3 x93 (Value.int .i64 (1))) H) fun x94 H =>
  bnd (stS 1 v6 x94 H) fun x95 H =>
  endR i .normal H)

theorem F4_R0_eq (G : Oracle) (n i : Nat) (v0 v2 v12 v4 v22 v3 v35 v36 v6 v7 v5 v44 v8 v55 v10 v68 : Value) (a0 a1 : Value) (H : Heap) (h : H.oth i = some (.loop (F4_L0 [v0, v2, v12, v4, v22, v3, v35, v36, v6, v7, v5, v44, v8, v55, v10, v68]) .ready)) : run G (n + 1) (Try.prog.funcs.size + i) [a0, a1] H = F4_R0 (run G n) n i v0 v2 v12 v4 v22 v3 v35 v36 v6 v7 v5 v44 v8 v55 v10 v68 a0 a1 H := by
  unfold run; rw [acall_r (by kernel_rfl) h (by kernel_rfl)]
  kernel_rfl

noncomputable def F4_j1 (C : Oracle) (n : Nat) (vs : List Value) (H : Heap) : Option (Value × Heap) :=
  bnd (some (newBlk H 9 1 [(Value.string ⟨#[]⟩)])) fun x28 H =>
  bnd (some (newBlk H 3 1 [(Value.int .i64 (0))])) fun x29 H =>
  bnd (stS 1 x28 (Value.string ⟨#[]⟩) H) fun x30 H =>
  bnd (stS 1 x29 (Value.int .i64 (0)) H) fun x31 H =>
  bnd (some ((sl [0, 2, 12, 4, 22, 3, 35, 36, 6, 7, 5, 44, 8, 55, 10, 68] vs 3), H)) fun x80 H =>
  bnd (C 17 [x80] H) fun x81 H =>
  onRng (rngC Try.prog.funcs.size C x81 (F4_L0 [(sl [0, 2, 12, 4, 22, 3, 35, 36, 6, 7, 5, 44, 8, 55, 10, 68] vs 0), (sl [0, 2, 12, 4, 22, 3, 35, 36, 6, 7, 5, 44, 8, 55, 10, 68] vs 2), (sl [0, 2, 12, 4, 22, 3, 35, 36, 6, 7, 5, 44, 8, 55, 10, 68] vs 12), (sl [0, 2, 12, 4, 22, 3, 35, 36, 6, 7, 5, 44, 8, 55, 10, 68] vs 4), (sl [0, 2, 12, 4, 22, 3, 35, 36, 6, 7, 5, 44, 8, 55, 10, 68] vs 22), (sl [0, 2, 12, 4, 22, 3, 35, 36, 6, 7, 5, 44, 8, 55, 10, 68] vs 3), x81, (sl [0, 2, 12, 4, 22, 3, 35, 36, 6, 7, 5, 44, 8, 55, 10, 68] vs 36), x29, (sl [0, 2, 12, 4, 22, 3, 35, 36, 6, 7, 5, 44, 8, 55, 10, 68] vs 7), x28, (sl [0, 2, 12, 4, 22, 3, 35, 36, 6, 7, 5, 44, 8, 55, 10, 68] vs 44), (sl [0, 2, 12, 4, 22, 3, 35, 36, 6, 7, 5, 44, 8, 55, 10, 68] vs 8), (sl [0, 2, 12, 4, 22, 3, 35, 36, 6, 7, 5, 44, 8, 55, 10, 68] vs 55), (sl [0, 2, 12, 4, 22, 3, 35, 36, 6, 7, 5, 44, 8, 55, 10, 68] vs 10), (sl [0, 2, 12, 4, 22, 3, 35, 36, 6, 7, 5, 44, 8, 55, 10, 68] vs 68)]) H) fun e H => (kBlk 2 (kSeq (F4_j2 C n) (kRet Try.prog [.cell 2 4] [0, 2, 12, 4, 22, 3, 35, 36, 6, 7, 5, 44, 8, 55, 10, 68]))) e [(sl [0, 2, 12, 4, 22, 3, 35, 36, 6, 7, 5, 44, 8, 55, 10, 68] vs 0), (sl [0, 2, 12, 4, 22, 3, 35, 36, 6, 7, 5, 44, 8, 55, 10, 68] vs 2), (sl [0, 2, 12, 4, 22, 3, 35, 36, 6, 7, 5, 44, 8, 55, 10, 68] vs 12), (sl [0, 2, 12, 4, 22, 3, 35, 36, 6, 7, 5, 44, 8, 55, 10, 68] vs 4), (sl [0, 2, 12, 4, 22, 3, 35, 36, 6, 7, 5, 44, 8, 55, 10, 68] vs 22), (sl [0, 2, 12, 4, 22, 3, 35, 36, 6, 7, 5, 44, 8, 55, 10, 68] vs 3), x81, (sl [0, 2, 12, 4, 22, 3, 35, 36, 6, 7, 5, 44, 8, 55, 10, 68] vs 36), x29, (sl [0, 2, 12, 4, 22, 3, 35, 36, 6, 7, 5, 44, 8, 55, 10, 68] vs 7), x28, (sl [0, 2, 12, 4, 22, 3, 35, 36, 6, 7, 5, 44, 8, 55, 10, 68] vs 44), (sl [0, 2, 12, 4, 22, 3, 35, 36, 6, 7, 5, 44, 8, 55, 10, 68] vs 8), (sl [0, 2, 12, 4, 22, 3, 35, 36, 6, 7, 5, 44, 8, 55, 10, 68] vs 55), (sl [0, 2, 12, 4, 22, 3, 35, 36, 6, 7, 5, 44, 8, 55, 10, 68] vs 10), (sl [0, 2, 12, 4, 22, 3, 35, 36, 6, 7, 5, 44, 8, 55, 10, 68] vs 68)] H

noncomputable def F4_j1v (C : Oracle) (n : Nat) (v0 v2 v12 v4 v22 v3 v35 v36 v6 v7 v5 v44 v8 v55 v10 v68 : Value) (H : Heap) : Option (Value × Heap) :=
  bnd (some (newBlk H 9 1 [(Value.string ⟨#[]⟩)])) fun x28 H =>
  bnd (some (newBlk H 3 1 [(Value.int .i64 (0))])) fun x29 H =>
  bnd (stS 1 x28 (Value.string ⟨#[]⟩) H) fun x30 H =>
  bnd (stS 1 x29 (Value.int .i64 (0)) H) fun x31 H =>
  bnd (some (v3, H)) fun x80 H =>
  bnd (C 17 [x80] H) fun x81 H =>
  onRng (rngC Try.prog.funcs.size C x81 (F4_L0 [v0, v2, v12, v4, v22, v3, x81, v36, x29, v7, x28, v44, v8, v55, v10, v68]) H) fun e H => (kBlk 2 (kSeq (F4_j2 C n) (kRet Try.prog [.cell 2 4] [0, 2, 12, 4, 22, 3, 35, 36, 6, 7, 5, 44, 8, 55, 10, 68]))) e [v0, v2, v12, v4, v22, v3, x81, v36, x29, v7, x28, v44, v8, v55, v10, v68] H

theorem F4_j1_v (C : Oracle) (n : Nat) (v0 v2 v12 v4 v22 v3 v35 v36 v6 v7 v5 v44 v8 v55 v10 v68 : Value) (H : Heap) : F4_j1 C n [v0, v2, v12, v4, v22, v3, v35, v36, v6, v7, v5, v44, v8, v55, v10, v68] H = F4_j1v C n v0 v2 v12 v4 v22 v3 v35 v36 v6 v7 v5 v44 v8 v55 v10 v68 H := by
  kernel_rfl

noncomputable def F4 (C : Oracle) (n : Nat) (a0 : Value) (H : Heap) : Option (Value × Heap) :=
  bnd (some (newBlk H 4 1 [(Value.bool false)])) fun x0 H =>
  bnd (C 10 [] H) fun x1 H =>
  bnd (pS (aun .not x1) H) fun x2 H =>
  brB x2 (bnd (stS 1 x0 (Value.bool false) H) fun x3 H =>
  bnd (pS (ld1 x0 H) H) fun r0 _ =>
  some (r0, H)) (
  bnd (pS (abuild Try.prog 38 []) H) fun x4 H =>
  bnd (boxS 38 x4 H) fun x5 H =>
  bnd (some (x5, H)) fun x6 H =>
  bnd (some ((Value.int .i64 (0)), H)) fun x7 H =>
  onOut (iter n (F4_b0 C n) [a0, x0, x2, x7, undef, x6, undef, undef, undef, undef, undef, undef, undef, undef, undef, undef] H) (kBlk 0 (kSeq (F4_j1 C n) (kRet Try.prog [.cell 2 4] [0, 2, 12, 4, 22, 3, 35, 36, 6, 7, 5, 44, 8, 55, 10, 68]))))

theorem F4_eq (G : Oracle) (n : Nat) (a0 : Value) (H : Heap) : run G (n + 1) 4 [a0] H = F4 (run G n) n a0 H := by
  unfold run; rw [acall_k (fn := Try.f4) (keep := [0, 2, 12, 4, 22, 3, 35, 36, 6, 7, 5, 44, 8, 55, 10, 68]) (notBad 4 rfl) (by kernel_rfl) (by kernel_rfl)]
  kernel_rfl

end Go.Proofs.Ytdgolnenpnkjbaa.Fun
