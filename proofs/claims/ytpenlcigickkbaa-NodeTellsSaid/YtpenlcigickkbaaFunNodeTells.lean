/- The program's functions as plain terms, each with its equation; printed by wip/am/fun.py. -/
import Derived.Test.YtpenlcigickkbaaFunK
namespace Go.Proofs.Ytpenlcigickkbaa.Fun
open Go.RowKit Go.Proofs.YtpenlcigickkbaaA.Am
set_option linter.unusedVariables false
set_option maxRecDepth 10000
abbrev F8_st (v0 : Value := undef) (v1 : Value := undef) (v2 : Value := undef) (v3 : Value := undef) (v4 : Value := undef) (v5 : Value := undef) (v6 : Value := undef) (v7 : Value := undef) (v16 : Value := undef) (v28 : Value := undef) (v17 : Value := undef) (v38 : Value := undef) (v18 : Value := undef) (v20 : Value := undef) (v57 : Value := undef) (v19 : Value := undef) : List Value := [v0, v1, v2, v3, v4, v5, v6, v7, v16, v28, v17, v38, v18, v20, v57, v19]

noncomputable def F8_b0 (C : Oracle) (n : Nat) (vs : List Value) (H : Heap) : AOut :=
  bnd (some ((sl [0, 1, 2, 3, 4, 5, 6, 7, 16, 28, 17, 38, 18, 20, 57, 19] vs 17), H)) fun x15 H =>
  bnd (pS (slen x15) H) fun x16 H =>
  bnd (some ((sl [0, 1, 2, 3, 4, 5, 6, 7, 16, 28, 17, 38, 18, 20, 57, 19] vs 3), H)) fun x17 H =>
  bnd (pS (slen x17) H) fun x18 H =>
  bnd (pS (abin Try.prog .add 3 x18 (Value.int .i64 (1))) H) fun x19 H =>
  bnd (pS (abin Try.prog .lss 3 x16 x19) H) fun x20 H =>
  brB x20 (bnd (some ((sl [0, 1, 2, 3, 4, 5, 6, 7, 16, 28, 17, 38, 18, 20, 57, 19] vs 17), H)) fun x21 H =>
  bnd (some ((sl [0, 1, 2, 3, 4, 5, 6, 7, 16, 28, 17, 38, 18, 20, 57, 19] vs 0), H)) fun x22 H =>
  bnd (abuildSlice Try.prog 28 1 [(0, x22)] H) fun x23 H =>
  bnd (appS 2 1 8 x21 x23 H) fun x24 H =>
  bnd (some (x24, H)) fun x25 H =>
  fin .normal [(sl [0, 1, 2, 3, 4, 5, 6, 7, 16, 28, 17, 38, 18, 20, 57, 19] vs 0), (sl [0, 1, 2, 3, 4, 5, 6, 7, 16, 28, 17, 38, 18, 20, 57, 19] vs 1), (sl [0, 1, 2, 3, 4, 5, 6, 7, 16, 28, 17, 38, 18, 20, 57, 19] vs 2), (sl [0, 1, 2, 3, 4, 5, 6, 7, 16, 28, 17, 38, 18, 20, 57, 19] vs 3), (sl [0, 1, 2, 3, 4, 5, 6, 7, 16, 28, 17, 38, 18, 20, 57, 19] vs 4), (sl [0, 1, 2, 3, 4, 5, 6, 7, 16, 28, 17, 38, 18, 20, 57, 19] vs 5), (sl [0, 1, 2, 3, 4, 5, 6, 7, 16, 28, 17, 38, 18, 20, 57, 19] vs 6), (sl [0, 1, 2, 3, 4, 5, 6, 7, 16, 28, 17, 38, 18, 20, 57, 19] vs 7), (sl [0, 1, 2, 3, 4, 5, 6, 7, 16, 28, 17, 38, 18, 20, 57, 19] vs 16), (sl [0, 1, 2, 3, 4, 5, 6, 7, 16, 28, 17, 38, 18, 20, 57, 19] vs 28), x25, x20, (sl [0, 1, 2, 3, 4, 5, 6, 7, 16, 28, 17, 38, 18, 20, 57, 19] vs 18), (sl [0, 1, 2, 3, 4, 5, 6, 7, 16, 28, 17, 38, 18, 20, 57, 19] vs 20), (sl [0, 1, 2, 3, 4, 5, 6, 7, 16, 28, 17, 38, 18, 20, 57, 19] vs 57), (sl [0, 1, 2, 3, 4, 5, 6, 7, 16, 28, 17, 38, 18, 20, 57, 19] vs 19)] H) (
  fin (.exit 0) [(sl [0, 1, 2, 3, 4, 5, 6, 7, 16, 28, 17, 38, 18, 20, 57, 19] vs 0), (sl [0, 1, 2, 3, 4, 5, 6, 7, 16, 28, 17, 38, 18, 20, 57, 19] vs 1), (sl [0, 1, 2, 3, 4, 5, 6, 7, 16, 28, 17, 38, 18, 20, 57, 19] vs 2), (sl [0, 1, 2, 3, 4, 5, 6, 7, 16, 28, 17, 38, 18, 20, 57, 19] vs 3), (sl [0, 1, 2, 3, 4, 5, 6, 7, 16, 28, 17, 38, 18, 20, 57, 19] vs 4), (sl [0, 1, 2, 3, 4, 5, 6, 7, 16, 28, 17, 38, 18, 20, 57, 19] vs 5), (sl [0, 1, 2, 3, 4, 5, 6, 7, 16, 28, 17, 38, 18, 20, 57, 19] vs 6), (sl [0, 1, 2, 3, 4, 5, 6, 7, 16, 28, 17, 38, 18, 20, 57, 19] vs 7), (sl [0, 1, 2, 3, 4, 5, 6, 7, 16, 28, 17, 38, 18, 20, 57, 19] vs 16), (sl [0, 1, 2, 3, 4, 5, 6, 7, 16, 28, 17, 38, 18, 20, 57, 19] vs 28), (sl [0, 1, 2, 3, 4, 5, 6, 7, 16, 28, 17, 38, 18, 20, 57, 19] vs 17), x20, (sl [0, 1, 2, 3, 4, 5, 6, 7, 16, 28, 17, 38, 18, 20, 57, 19] vs 18), (sl [0, 1, 2, 3, 4, 5, 6, 7, 16, 28, 17, 38, 18, 20, 57, 19] vs 20), (sl [0, 1, 2, 3, 4, 5, 6, 7, 16, 28, 17, 38, 18, 20, 57, 19] vs 57), (sl [0, 1, 2, 3, 4, 5, 6, 7, 16, 28, 17, 38, 18, 20, 57, 19] vs 19)] H)

noncomputable def F8_b0v (C : Oracle) (n : Nat) (v0 v1 v2 v3 v4 v5 v6 v7 v16 v28 v17 v38 v18 v20 v57 v19 : Value) (H : Heap) : AOut :=
  bnd (some (v17, H)) fun x15 H =>
  bnd (pS (slen x15) H) fun x16 H =>
  bnd (some (v3, H)) fun x17 H =>
  bnd (pS (slen x17) H) fun x18 H =>
  bnd (pS (abin Try.prog .add 3 x18 (Value.int .i64 (1))) H) fun x19 H =>
  bnd (pS (abin Try.prog .lss 3 x16 x19) H) fun x20 H =>
  brB x20 (bnd (some (v17, H)) fun x21 H =>
  bnd (some (v0, H)) fun x22 H =>
  bnd (abuildSlice Try.prog 28 1 [(0, x22)] H) fun x23 H =>
  bnd (appS 2 1 8 x21 x23 H) fun x24 H =>
  bnd (some (x24, H)) fun x25 H =>
  fin .normal [v0, v1, v2, v3, v4, v5, v6, v7, v16, v28, x25, x20, v18, v20, v57, v19] H) (
  fin (.exit 0) [v0, v1, v2, v3, v4, v5, v6, v7, v16, v28, v17, x20, v18, v20, v57, v19] H)

theorem F8_b0_v (C : Oracle) (n : Nat) (v0 v1 v2 v3 v4 v5 v6 v7 v16 v28 v17 v38 v18 v20 v57 v19 : Value) (H : Heap) : F8_b0 C n [v0, v1, v2, v3, v4, v5, v6, v7, v16, v28, v17, v38, v18, v20, v57, v19] H = F8_b0v C n v0 v1 v2 v3 v4 v5 v6 v7 v16 v28 v17 v38 v18 v20 v57 v19 H := by
  kernel_rfl

noncomputable def F8_b2 (C : Oracle) (n : Nat) (vs : List Value) (H : Heap) : AOut :=
  bnd (some ((sl [0, 1, 2, 3, 4, 5, 6, 7, 16, 28, 17, 38, 18, 20, 57, 19] vs 20), H)) fun x40 H =>
  bnd (some ((sl [0, 1, 2, 3, 4, 5, 6, 7, 16, 28, 17, 38, 18, 20, 57, 19] vs 18), H)) fun x41 H =>
  bnd (pS (slen x41) H) fun x42 H =>
  bnd (pS (abin Try.prog .lss 3 x40 x42) H) fun x43 H =>
  brB x43 (bnd (some ((sl [0, 1, 2, 3, 4, 5, 6, 7, 16, 28, 17, 38, 18, 20, 57, 19] vs 18), H)) fun x44 H =>
  bnd (some ((sl [0, 1, 2, 3, 4, 5, 6, 7, 16, 28, 17, 38, 18, 20, 57, 19] vs 20), H)) fun x45 H =>
  bnd (some ((sl [0, 1, 2, 3, 4, 5, 6, 7, 16, 28, 17, 38, 18, 20, 57, 19] vs 18), H)) fun x46 H =>
  bnd (some ((sl [0, 1, 2, 3, 4, 5, 6, 7, 16, 28, 17, 38, 18, 20, 57, 19] vs 20), H)) fun x47 H =>
  bnd (iadS 1 x46 x47 H) fun x48 H =>
  bnd (pS (ld1 x48 H) H) fun x49 H =>
  bnd (pS (abin Try.prog .add 2 x49 (Value.int .i64 (1))) H) fun x50 H =>
  bnd (iadS 1 x44 x45 H) fun x51 H =>
  bnd (stS 1 x51 x50 H) fun x52 H =>
  bnd (some ((sl [0, 1, 2, 3, 4, 5, 6, 7, 16, 28, 17, 38, 18, 20, 57, 19] vs 20), H)) fun x53 H =>
  bnd (pS (abin Try.prog .add 3 x53 (Value.int .i64 (1))) H) fun x54 H =>
  bnd (some (x54, H)) fun x55 H =>
  fin .normal [(sl [0, 1, 2, 3, 4, 5, 6, 7, 16, 28, 17, 38, 18, 20, 57, 19] vs 0), (sl [0, 1, 2, 3, 4, 5, 6, 7, 16, 28, 17, 38, 18, 20, 57, 19] vs 1), (sl [0, 1, 2, 3, 4, 5, 6, 7, 16, 28, 17, 38, 18, 20, 57, 19] vs 2), (sl [0, 1, 2, 3, 4, 5, 6, 7, 16, 28, 17, 38, 18, 20, 57, 19] vs 3), (sl [0, 1, 2, 3, 4, 5, 6, 7, 16, 28, 17, 38, 18, 20, 57, 19] vs 4), (sl [0, 1, 2, 3, 4, 5, 6, 7, 16, 28, 17, 38, 18, 20, 57, 19] vs 5), (sl [0, 1, 2, 3, 4, 5, 6, 7, 16, 28, 17, 38, 18, 20, 57, 19] vs 6), (sl [0, 1, 2, 3, 4, 5, 6, 7, 16, 28, 17, 38, 18, 20, 57, 19] vs 7), (sl [0, 1, 2, 3, 4, 5, 6, 7, 16, 28, 17, 38, 18, 20, 57, 19] vs 16), (sl [0, 1, 2, 3, 4, 5, 6, 7, 16, 28, 17, 38, 18, 20, 57, 19] vs 28), (sl [0, 1, 2, 3, 4, 5, 6, 7, 16, 28, 17, 38, 18, 20, 57, 19] vs 17), (sl [0, 1, 2, 3, 4, 5, 6, 7, 16, 28, 17, 38, 18, 20, 57, 19] vs 38), (sl [0, 1, 2, 3, 4, 5, 6, 7, 16, 28, 17, 38, 18, 20, 57, 19] vs 18), x55, x43, (sl [0, 1, 2, 3, 4, 5, 6, 7, 16, 28, 17, 38, 18, 20, 57, 19] vs 19)] H) (
  fin (.exit 2) [(sl [0, 1, 2, 3, 4, 5, 6, 7, 16, 28, 17, 38, 18, 20, 57, 19] vs 0), (sl [0, 1, 2, 3, 4, 5, 6, 7, 16, 28, 17, 38, 18, 20, 57, 19] vs 1), (sl [0, 1, 2, 3, 4, 5, 6, 7, 16, 28, 17, 38, 18, 20, 57, 19] vs 2), (sl [0, 1, 2, 3, 4, 5, 6, 7, 16, 28, 17, 38, 18, 20, 57, 19] vs 3), (sl [0, 1, 2, 3, 4, 5, 6, 7, 16, 28, 17, 38, 18, 20, 57, 19] vs 4), (sl [0, 1, 2, 3, 4, 5, 6, 7, 16, 28, 17, 38, 18, 20, 57, 19] vs 5), (sl [0, 1, 2, 3, 4, 5, 6, 7, 16, 28, 17, 38, 18, 20, 57, 19] vs 6), (sl [0, 1, 2, 3, 4, 5, 6, 7, 16, 28, 17, 38, 18, 20, 57, 19] vs 7), (sl [0, 1, 2, 3, 4, 5, 6, 7, 16, 28, 17, 38, 18, 20, 57, 19] vs 16), (sl [0, 1, 2, 3, 4, 5, 6, 7, 16, 28, 17, 38, 18, 20, 57, 19] vs 28), (sl [0, 1, 2, 3, 4, 5, 6, 7, 16, 28, 17, 38, 18, 20, 57, 19] vs 17), (sl [0, 1, 2, 3, 4, 5, 6, 7, 16, 28, 17, 38, 18, 20, 57, 19] vs 38), (sl [0, 1, 2, 3, 4, 5, 6, 7, 16, 28, 17, 38, 18, 20, 57, 19] vs 18), (sl [0, 1, 2, 3, 4, 5, 6, 7, 16, 28, 17, 38, 18, 20, 57, 19] vs 20), x43, (sl [0, 1, 2, 3, 4, 5, 6, 7, 16, 28, 17, 38, 18, 20, 57, 19] vs 19)] H)

noncomputable def F8_b2v (C : Oracle) (n : Nat) (v0 v1 v2 v3 v4 v5 v6 v7 v16 v28 v17 v38 v18 v20 v57 v19 : Value) (H : Heap) : AOut :=
  bnd (some (v20, H)) fun x40 H =>
  bnd (some (v18, H)) fun x41 H =>
  bnd (pS (slen x41) H) fun x42 H =>
  bnd (pS (abin Try.prog .lss 3 x40 x42) H) fun x43 H =>
  brB x43 (bnd (some (v18, H)) fun x44 H =>
  bnd (some (v20, H)) fun x45 H =>
  bnd (some (v18, H)) fun x46 H =>
  bnd (some (v20, H)) fun x47 H =>
  bnd (iadS 1 x46 x47 H) fun x48 H =>
  bnd (pS (ld1 x48 H) H) fun x49 H =>
  bnd (pS (abin Try.prog .add 2 x49 (Value.int .i64 (1))) H) fun x50 H =>
  bnd (iadS 1 x44 x45 H) fun x51 H =>
  bnd (stS 1 x51 x50 H) fun x52 H =>
  bnd (some (v20, H)) fun x53 H =>
  bnd (pS (abin Try.prog .add 3 x53 (Value.int .i64 (1))) H) fun x54 H =>
  bnd (some (x54, H)) fun x55 H =>
  fin .normal [v0, v1, v2, v3, v4, v5, v6, v7, v16, v28, v17, v38, v18, x55, x43, v19] H) (
  fin (.exit 2) [v0, v1, v2, v3, v4, v5, v6, v7, v16, v28, v17, v38, v18, v20, x43, v19] H)

theorem F8_b2_v (C : Oracle) (n : Nat) (v0 v1 v2 v3 v4 v5 v6 v7 v16 v28 v17 v38 v18 v20 v57 v19 : Value) (H : Heap) : F8_b2 C n [v0, v1, v2, v3, v4, v5, v6, v7, v16, v28, v17, v38, v18, v20, v57, v19] H = F8_b2v C n v0 v1 v2 v3 v4 v5 v6 v7 v16 v28 v17 v38 v18 v20 v57 v19 H := by
  kernel_rfl

noncomputable def F8_j3 (C : Oracle) (n : Nat) (vs : List Value) (H : Heap) : Option (Value × Heap) :=
  bnd (C 36 [] H) fun x56 H =>
  bnd (some (x56, H)) fun x57 H =>
  bnd (gd (wantV x57 true) (some ((sl [0, 1, 2, 3, 4, 5, 6, 7, 16, 28, 17, 38, 18, 20, 57, 19] vs 0), H)) H) fun x58 H =>
  bnd (gd (wantV x57 true) (some ((sl [0, 1, 2, 3, 4, 5, 6, 7, 16, 28, 17, 38, 18, 20, 57, 19] vs 1), H)) H) fun x59 H =>
  bnd (gd (wantV x57 true) (C 38 [x58, x59] H) H) fun x60 H =>
  bnd (gd (wantV x57 true) (some ((sl [0, 1, 2, 3, 4, 5, 6, 7, 16, 28, 17, 38, 18, 20, 57, 19] vs 0), H)) H) fun x61 H =>
  bnd (gd (wantV x57 true) (some ((sl [0, 1, 2, 3, 4, 5, 6, 7, 16, 28, 17, 38, 18, 20, 57, 19] vs 1), H)) H) fun x62 H =>
  bnd (gd (wantV x57 true) (C 39 [x61, x62] H) H) fun x63 H =>
  bnd (gd (wantV x57 true) (C 27 [x60, x63] H) H) fun x64 H =>
  bnd (pickS x57 x64 (Value.bool false) H) fun x65 H =>
  bnd (some (x65, H)) fun x66 H =>
  bnd (gd (wantV x66 true) (C 40 [] H) H) fun x67 H =>
  bnd (gd (wantV x66 true) (C 41 [] H) H) fun x68 H =>
  bnd (gd (wantV x66 true) (C 27 [x67, x68] H) H) fun x69 H =>
  bnd (pickS x66 x69 (Value.bool false) H) fun x70 H =>
  bnd (some (x70, H)) fun x71 H =>
  bnd (gd (wantV x71 true) (some ((sl [0, 1, 2, 3, 4, 5, 6, 7, 16, 28, 17, 38, 18, 20, 57, 19] vs 19), H)) H) fun x72 H =>
  bnd (gd (wantV x71 true) (some ((sl [0, 1, 2, 3, 4, 5, 6, 7, 16, 28, 17, 38, 18, 20, 57, 19] vs 2), H)) H) fun x73 H =>
  bnd (gd (wantV x71 true) (some ((sl [0, 1, 2, 3, 4, 5, 6, 7, 16, 28, 17, 38, 18, 20, 57, 19] vs 3), H)) H) fun x74 H =>
  bnd (gd (wantV x71 true) (some ((sl [0, 1, 2, 3, 4, 5, 6, 7, 16, 28, 17, 38, 18, 20, 57, 19] vs 17), H)) H) fun x75 H =>
  bnd (gd (wantV x71 true) (some ((sl [0, 1, 2, 3, 4, 5, 6, 7, 16, 28, 17, 38, 18, 20, 57, 19] vs 3), H)) H) fun x76 H =>
  bnd (gd (wantV x71 true) (pS (slen x76) H) H) fun x77 H =>
  bnd (gd (wantV x71 true) (pS (abin Try.prog .add 3 x77 (Value.int .i64 (1))) H) H) fun x78 H =>
  bnd (gd (wantV x71 true) (pS (scut 1 H x75 none (some x78)) H) H) fun x79 H =>
  bnd (gd (wantV x71 true) (C 42 [x73, x74, x79] H) H) fun x80 H =>
  bnd (gd (wantV x71 true) (C 27 [x72, x80] H) H) fun x81 H =>
  bnd (pickS x71 x81 (Value.bool false) H) fun x82 H =>
  bnd (some (x82, H)) fun x83 H =>
  bnd (gd (wantV x83 true) (some ((sl [0, 1, 2, 3, 4, 5, 6, 7, 16, 28, 17, 38, 18, 20, 57, 19] vs 2), H)) H) fun x84 H =>
  bnd (gd (wantV x83 true) (some ((sl [0, 1, 2, 3, 4, 5, 6, 7, 16, 28, 17, 38, 18, 20, 57, 19] vs 3), H)) H) fun x85 H =>
  bnd (gd (wantV x83 true) (some ((sl [0, 1, 2, 3, 4, 5, 6, 7, 16, 28, 17, 38, 18, 20, 57, 19] vs 4), H)) H) fun x86 H =>
  bnd (gd (wantV x83 true) (C 37 [x84, x85, x86] H) H) fun x87 H =>
  bnd (gd (wantV x83 true) (some ((sl [0, 1, 2, 3, 4, 5, 6, 7, 16, 28, 17, 38, 18, 20, 57, 19] vs 2), H)) H) fun x88 H =>
  bnd (gd (wantV x83 true) (some ((sl [0, 1, 2, 3, 4, 5, 6, 7, 16, 28, 17, 38, 18, 20, 57, 19] vs 3), H)) H) fun x89 H =>
  bnd (gd (wantV x83 true) (some ((sl [0, 1, 2, 3, 4, 5, 6, 7, 16, 28, 17, 38, 18, 20, 57, 19] vs 4), H)) H) fun x90 H =>
  bnd (gd (wantV x83 true) (C 42 [x88, x89, x90] H) H) fun x91 H =>
  bnd (gd (wantV x83 true) (C 27 [x87, x91] H) H) fun x92 H =>
  bnd (pickS x83 x92 (Value.bool false) H) fun x93 H =>
  bnd (some (x93, H)) fun x94 H =>
  bnd (gd (wantV x94 true) (some ((sl [0, 1, 2, 3, 4, 5, 6, 7, 16, 28, 17, 38, 18, 20, 57, 19] vs 0), H)) H) fun x95 H =>
  bnd (gd (wantV x94 true) (some ((sl [0, 1, 2, 3, 4, 5, 6, 7, 16, 28, 17, 38, 18, 20, 57, 19] vs 5), H)) H) fun x96 H =>
  bnd (gd (wantV x94 true) (some ((sl [0, 1, 2, 3, 4, 5, 6, 7, 16, 28, 17, 38, 18, 20, 57, 19] vs 6), H)) H) fun x97 H =>
  bnd (gd (wantV x94 true) (C 43 [x95, x96, x97] H) H) fun x98 H =>
  bnd (gd (wantV x94 true) (some ((sl [0, 1, 2, 3, 4, 5, 6, 7, 16, 28, 17, 38, 18, 20, 57, 19] vs 0), H)) H) fun x99 H =>
  bnd (gd (wantV x94 true) (some ((sl [0, 1, 2, 3, 4, 5, 6, 7, 16, 28, 17, 38, 18, 20, 57, 19] vs 5), H)) H) fun x100 H =>
  bnd (gd (wantV x94 true) (some ((sl [0, 1, 2, 3, 4, 5, 6, 7, 16, 28, 17, 38, 18, 20, 57, 19] vs 6), H)) H) fun x101 H =>
  bnd (gd (wantV x94 true) (C 44 [x99, x100, x101] H) H) fun x102 H =>
  bnd (gd (wantV x94 true) (C 27 [x98, x102] H) H) fun x103 H =>
  bnd (pickS x94 x103 (Value.bool false) H) fun x104 H =>
  bnd (some (x104, H)) fun x105 H =>
  bnd (gd (wantV x105 true) (some ((sl [0, 1, 2, 3, 4, 5, 6, 7, 16, 28, 17, 38, 18, 20, 57, 19] vs 5), H)) H) fun x106 H =>
  bnd (gd (wantV x105 true) (some ((sl [0, 1, 2, 3, 4, 5, 6, 7, 16, 28, 17, 38, 18, 20, 57, 19] vs 6), H)) H) fun x107 H =>
  bnd (gd (wantV x105 true) (some ((sl [0, 1, 2, 3, 4, 5, 6, 7, 16, 28, 17, 38, 18, 20, 57, 19] vs 0), H)) H) fun x108 H =>
  bnd (gd (wantV x105 true) (some ((sl [0, 1, 2, 3, 4, 5, 6, 7, 16, 28, 17, 38, 18, 20, 57, 19] vs 1), H)) H) fun x109 H =>
  bnd (gd (wantV x105 true) (C 45 [x106, x107, x108, x109] H) H) fun x110 H =>
  bnd (gd (wantV x105 true) (some ((sl [0, 1, 2, 3, 4, 5, 6, 7, 16, 28, 17, 38, 18, 20, 57, 19] vs 5), H)) H) fun x111 H =>
  bnd (gd (wantV x105 true) (some ((sl [0, 1, 2, 3, 4, 5, 6, 7, 16, 28, 17, 38, 18, 20, 57, 19] vs 6), H)) H) fun x112 H =>
  bnd (gd (wantV x105 true) (some ((sl [0, 1, 2, 3, 4, 5, 6, 7, 16, 28, 17, 38, 18, 20, 57, 19] vs 0), H)) H) fun x113 H =>
  bnd (gd (wantV x105 true) (some ((sl [0, 1, 2, 3, 4, 5, 6, 7, 16, 28, 17, 38, 18, 20, 57, 19] vs 1), H)) H) fun x114 H =>
  bnd (gd (wantV x105 true) (C 46 [x111, x112, x113, x114] H) H) fun x115 H =>
  bnd (gd (wantV x105 true) (C 27 [x110, x115] H) H) fun x116 H =>
  bnd (pickS x105 x116 (Value.bool false) H) fun x117 H =>
  bnd (some (x117, H)) fun x118 H =>
  bnd (gd (wantV x118 true) (some ((sl [0, 1, 2, 3, 4, 5, 6, 7, 16, 28, 17, 38, 18, 20, 57, 19] vs 5), H)) H) fun x119 H =>
  bnd (gd (wantV x118 true) (some ((sl [0, 1, 2, 3, 4, 5, 6, 7, 16, 28, 17, 38, 18, 20, 57, 19] vs 7), H)) H) fun x120 H =>
  bnd (gd (wantV x118 true) (C 47 [x119, x120] H) H) fun x121 H =>
  bnd (gd (wantV x118 true) (some ((sl [0, 1, 2, 3, 4, 5, 6, 7, 16, 28, 17, 38, 18, 20, 57, 19] vs 5), H)) H) fun x122 H =>
  bnd (gd (wantV x118 true) (some ((sl [0, 1, 2, 3, 4, 5, 6, 7, 16, 28, 17, 38, 18, 20, 57, 19] vs 7), H)) H) fun x123 H =>
  bnd (gd (wantV x118 true) (C 48 [x122, x123] H) H) fun x124 H =>
  bnd (gd (wantV x118 true) (pS (abin Try.prog .eql 3 x121 x124) H) H) fun x125 H =>
  bnd (pickS x118 x125 (Value.bool false) H) fun x126 H =>
  bnd (some (x126, H)) fun x127 H =>
  bnd (gd (wantV x127 true) (some ((sl [0, 1, 2, 3, 4, 5, 6, 7, 16, 28, 17, 38, 18, 20, 57, 19] vs 5), H)) H) fun x128 H =>
  bnd (gd (wantV x127 true) (some ((sl [0, 1, 2, 3, 4, 5, 6, 7, 16, 28, 17, 38, 18, 20, 57, 19] vs 6), H)) H) fun x129 H =>
  bnd (gd (wantV x127 true) (some ((sl [0, 1, 2, 3, 4, 5, 6, 7, 16, 28, 17, 38, 18, 20, 57, 19] vs 7), H)) H) fun x130 H =>
  bnd (gd (wantV x127 true) (C 49 [x128, x129, x130] H) H) fun x131 H =>
  bnd (gd (wantV x127 true) (some ((sl [0, 1, 2, 3, 4, 5, 6, 7, 16, 28, 17, 38, 18, 20, 57, 19] vs 5), H)) H) fun x132 H =>
  bnd (gd (wantV x127 true) (some ((sl [0, 1, 2, 3, 4, 5, 6, 7, 16, 28, 17, 38, 18, 20, 57, 19] vs 6), H)) H) fun x133 H =>
  bnd (gd (wantV x127 true) (some ((sl [0, 1, 2, 3, 4, 5, 6, 7, 16, 28, 17, 38, 18, 20, 57, 19] vs 7), H)) H) fun x134 H =>
  bnd (gd (wantV x127 true) (C 50 [x132, x133, x134] H) H) fun x135 H =>
  bnd (gd (wantV x127 true) (pS (abin Try.prog .eql 3 x131 x135) H) H) fun x136 H =>
  bnd (pickS x127 x136 (Value.bool false) H) fun x137 H =>
  bnd (some (x137, H)) fun x138 H =>
  some (x138, H)

noncomputable def F8_j3v (C : Oracle) (n : Nat) (v0 v1 v2 v3 v4 v5 v6 v7 v16 v28 v17 v38 v18 v20 v57 v19 : Value) (H : Heap) : Option (Value × Heap) :=
  bnd (C 36 [] H) fun x56 H =>
  bnd (some (x56, H)) fun x57 H =>
  bnd (gd (wantV x57 true) (some (v0, H)) H) fun x58 H =>
  bnd (gd (wantV x57 true) (some (v1, H)) H) fun x59 H =>
  bnd (gd (wantV x57 true) (C 38 [x58, x59] H) H) fun x60 H =>
  bnd (gd (wantV x57 true) (some (v0, H)) H) fun x61 H =>
  bnd (gd (wantV x57 true) (some (v1, H)) H) fun x62 H =>
  bnd (gd (wantV x57 true) (C 39 [x61, x62] H) H) fun x63 H =>
  bnd (gd (wantV x57 true) (C 27 [x60, x63] H) H) fun x64 H =>
  bnd (pickS x57 x64 (Value.bool false) H) fun x65 H =>
  bnd (some (x65, H)) fun x66 H =>
  bnd (gd (wantV x66 true) (C 40 [] H) H) fun x67 H =>
  bnd (gd (wantV x66 true) (C 41 [] H) H) fun x68 H =>
  bnd (gd (wantV x66 true) (C 27 [x67, x68] H) H) fun x69 H =>
  bnd (pickS x66 x69 (Value.bool false) H) fun x70 H =>
  bnd (some (x70, H)) fun x71 H =>
  bnd (gd (wantV x71 true) (some (v19, H)) H) fun x72 H =>
  bnd (gd (wantV x71 true) (some (v2, H)) H) fun x73 H =>
  bnd (gd (wantV x71 true) (some (v3, H)) H) fun x74 H =>
  bnd (gd (wantV x71 true) (some (v17, H)) H) fun x75 H =>
  bnd (gd (wantV x71 true) (some (v3, H)) H) fun x76 H =>
  bnd (gd (wantV x71 true) (pS (slen x76) H) H) fun x77 H =>
  bnd (gd (wantV x71 true) (pS (abin Try.prog .add 3 x77 (Value.int .i64 (1))) H) H) fun x78 H =>
  bnd (gd (wantV x71 true) (pS (scut 1 H x75 none (some x78)) H) H) fun x79 H =>
  bnd (gd (wantV x71 true) (C 42 [x73, x74, x79] H) H) fun x80 H =>
  bnd (gd (wantV x71 true) (C 27 [x72, x80] H) H) fun x81 H =>
  bnd (pickS x71 x81 (Value.bool false) H) fun x82 H =>
  bnd (some (x82, H)) fun x83 H =>
  bnd (gd (wantV x83 true) (some (v2, H)) H) fun x84 H =>
  bnd (gd (wantV x83 true) (some (v3, H)) H) fun x85 H =>
  bnd (gd (wantV x83 true) (some (v4, H)) H) fun x86 H =>
  bnd (gd (wantV x83 true) (C 37 [x84, x85, x86] H) H) fun x87 H =>
  bnd (gd (wantV x83 true) (some (v2, H)) H) fun x88 H =>
  bnd (gd (wantV x83 true) (some (v3, H)) H) fun x89 H =>
  bnd (gd (wantV x83 true) (some (v4, H)) H) fun x90 H =>
  bnd (gd (wantV x83 true) (C 42 [x88, x89, x90] H) H) fun x91 H =>
  bnd (gd (wantV x83 true) (C 27 [x87, x91] H) H) fun x92 H =>
  bnd (pickS x83 x92 (Value.bool false) H) fun x93 H =>
  bnd (some (x93, H)) fun x94 H =>
  bnd (gd (wantV x94 true) (some (v0, H)) H) fun x95 H =>
  bnd (gd (wantV x94 true) (some (v5, H)) H) fun x96 H =>
  bnd (gd (wantV x94 true) (some (v6, H)) H) fun x97 H =>
  bnd (gd (wantV x94 true) (C 43 [x95, x96, x97] H) H) fun x98 H =>
  bnd (gd (wantV x94 true) (some (v0, H)) H) fun x99 H =>
  bnd (gd (wantV x94 true) (some (v5, H)) H) fun x100 H =>
  bnd (gd (wantV x94 true) (some (v6, H)) H) fun x101 H =>
  bnd (gd (wantV x94 true) (C 44 [x99, x100, x101] H) H) fun x102 H =>
  bnd (gd (wantV x94 true) (C 27 [x98, x102] H) H) fun x103 H =>
  bnd (pickS x94 x103 (Value.bool false) H) fun x104 H =>
  bnd (some (x104, H)) fun x105 H =>
  bnd (gd (wantV x105 true) (some (v5, H)) H) fun x106 H =>
  bnd (gd (wantV x105 true) (some (v6, H)) H) fun x107 H =>
  bnd (gd (wantV x105 true) (some (v0, H)) H) fun x108 H =>
  bnd (gd (wantV x105 true) (some (v1, H)) H) fun x109 H =>
  bnd (gd (wantV x105 true) (C 45 [x106, x107, x108, x109] H) H) fun x110 H =>
  bnd (gd (wantV x105 true) (some (v5, H)) H) fun x111 H =>
  bnd (gd (wantV x105 true) (some (v6, H)) H) fun x112 H =>
  bnd (gd (wantV x105 true) (some (v0, H)) H) fun x113 H =>
  bnd (gd (wantV x105 true) (some (v1, H)) H) fun x114 H =>
  bnd (gd (wantV x105 true) (C 46 [x111, x112, x113, x114] H) H) fun x115 H =>
  bnd (gd (wantV x105 true) (C 27 [x110, x115] H) H) fun x116 H =>
  bnd (pickS x105 x116 (Value.bool false) H) fun x117 H =>
  bnd (some (x117, H)) fun x118 H =>
  bnd (gd (wantV x118 true) (some (v5, H)) H) fun x119 H =>
  bnd (gd (wantV x118 true) (some (v7, H)) H) fun x120 H =>
  bnd (gd (wantV x118 true) (C 47 [x119, x120] H) H) fun x121 H =>
  bnd (gd (wantV x118 true) (some (v5, H)) H) fun x122 H =>
  bnd (gd (wantV x118 true) (some (v7, H)) H) fun x123 H =>
  bnd (gd (wantV x118 true) (C 48 [x122, x123] H) H) fun x124 H =>
  bnd (gd (wantV x118 true) (pS (abin Try.prog .eql 3 x121 x124) H) H) fun x125 H =>
  bnd (pickS x118 x125 (Value.bool false) H) fun x126 H =>
  bnd (some (x126, H)) fun x127 H =>
  bnd (gd (wantV x127 true) (some (v5, H)) H) fun x128 H =>
  bnd (gd (wantV x127 true) (some (v6, H)) H) fun x129 H =>
  bnd (gd (wantV x127 true) (some (v7, H)) H) fun x130 H =>
  bnd (gd (wantV x127 true) (C 49 [x128, x129, x130] H) H) fun x131 H =>
  bnd (gd (wantV x127 true) (some (v5, H)) H) fun x132 H =>
  bnd (gd (wantV x127 true) (some (v6, H)) H) fun x133 H =>
  bnd (gd (wantV x127 true) (some (v7, H)) H) fun x134 H =>
  bnd (gd (wantV x127 true) (C 50 [x132, x133, x134] H) H) fun x135 H =>
  bnd (gd (wantV x127 true) (pS (abin Try.prog .eql 3 x131 x135) H) H) fun x136 H =>
  bnd (pickS x127 x136 (Value.bool false) H) fun x137 H =>
  bnd (some (x137, H)) fun x138 H =>
  some (x138, H)

theorem F8_j3_v (C : Oracle) (n : Nat) (v0 v1 v2 v3 v4 v5 v6 v7 v16 v28 v17 v38 v18 v20 v57 v19 : Value) (H : Heap) : F8_j3 C n [v0, v1, v2, v3, v4, v5, v6, v7, v16, v28, v17, v38, v18, v20, v57, v19] H = F8_j3v C n v0 v1 v2 v3 v4 v5 v6 v7 v16 v28 v17 v38 v18 v20 v57 v19 H := by
  kernel_rfl

noncomputable def F8_j1 (C : Oracle) (n : Nat) (vs : List Value) (H : Heap) : Option (Value × Heap) :=
  bnd (abuildSlice Try.prog 28 0 [] H) fun x26 H =>
  bnd (some ((sl [0, 1, 2, 3, 4, 5, 6, 7, 16, 28, 17, 38, 18, 20, 57, 19] vs 3), H)) fun x27 H =>
  bnd (appS 2 1 8 x26 x27 H) fun x28 H =>
  bnd (some (x28, H)) fun x29 H =>
  bnd (some ((sl [0, 1, 2, 3, 4, 5, 6, 7, 16, 28, 17, 38, 18, 20, 57, 19] vs 2), H)) fun x30 H =>
  bnd (some (x29, H)) fun x31 H =>
  bnd (some ((sl [0, 1, 2, 3, 4, 5, 6, 7, 16, 28, 17, 38, 18, 20, 57, 19] vs 17), H)) fun x32 H =>
  bnd (some ((sl [0, 1, 2, 3, 4, 5, 6, 7, 16, 28, 17, 38, 18, 20, 57, 19] vs 3), H)) fun x33 H =>
  bnd (pS (slen x33) H) fun x34 H =>
  bnd (pS (abin Try.prog .add 3 x34 (Value.int .i64 (1))) H) fun x35 H =>
  bnd (pS (scut 1 H x32 none (some x35)) H) fun x36 H =>
  bnd (C 37 [x30, x31, x36] H) fun x37 H =>
  bnd (some (x37, H)) fun x38 H =>
  bnd (some ((Value.int .i64 (0)), H)) fun x39 H =>
  onOut (iter n (F8_b2 C n) [(sl [0, 1, 2, 3, 4, 5, 6, 7, 16, 28, 17, 38, 18, 20, 57, 19] vs 0), (sl [0, 1, 2, 3, 4, 5, 6, 7, 16, 28, 17, 38, 18, 20, 57, 19] vs 1), (sl [0, 1, 2, 3, 4, 5, 6, 7, 16, 28, 17, 38, 18, 20, 57, 19] vs 2), (sl [0, 1, 2, 3, 4, 5, 6, 7, 16, 28, 17, 38, 18, 20, 57, 19] vs 3), (sl [0, 1, 2, 3, 4, 5, 6, 7, 16, 28, 17, 38, 18, 20, 57, 19] vs 4), (sl [0, 1, 2, 3, 4, 5, 6, 7, 16, 28, 17, 38, 18, 20, 57, 19] vs 5), (sl [0, 1, 2, 3, 4, 5, 6, 7, 16, 28, 17, 38, 18, 20, 57, 19] vs 6), (sl [0, 1, 2, 3, 4, 5, 6, 7, 16, 28, 17, 38, 18, 20, 57, 19] vs 7), (sl [0, 1, 2, 3, 4, 5, 6, 7, 16, 28, 17, 38, 18, 20, 57, 19] vs 16), (sl [0, 1, 2, 3, 4, 5, 6, 7, 16, 28, 17, 38, 18, 20, 57, 19] vs 28), (sl [0, 1, 2, 3, 4, 5, 6, 7, 16, 28, 17, 38, 18, 20, 57, 19] vs 17), (sl [0, 1, 2, 3, 4, 5, 6, 7, 16, 28, 17, 38, 18, 20, 57, 19] vs 38), x29, x39, (sl [0, 1, 2, 3, 4, 5, 6, 7, 16, 28, 17, 38, 18, 20, 57, 19] vs 57), x38] H) (kBlk 2 (kSeq (F8_j3 C n) (kRet Try.prog [.tmp 16] [0, 1, 2, 3, 4, 5, 6, 7, 16, 28, 17, 38, 18, 20, 57, 19])))

noncomputable def F8_j1v (C : Oracle) (n : Nat) (v0 v1 v2 v3 v4 v5 v6 v7 v16 v28 v17 v38 v18 v20 v57 v19 : Value) (H : Heap) : Option (Value × Heap) :=
  bnd (abuildSlice Try.prog 28 0 [] H) fun x26 H =>
  bnd (some (v3, H)) fun x27 H =>
  bnd (appS 2 1 8 x26 x27 H) fun x28 H =>
  bnd (some (x28, H)) fun x29 H =>
  bnd (some (v2, H)) fun x30 H =>
  bnd (some (x29, H)) fun x31 H =>
  bnd (some (v17, H)) fun x32 H =>
  bnd (some (v3, H)) fun x33 H =>
  bnd (pS (slen x33) H) fun x34 H =>
  bnd (pS (abin Try.prog .add 3 x34 (Value.int .i64 (1))) H) fun x35 H =>
  bnd (pS (scut 1 H x32 none (some x35)) H) fun x36 H =>
  bnd (C 37 [x30, x31, x36] H) fun x37 H =>
  bnd (some (x37, H)) fun x38 H =>
  bnd (some ((Value.int .i64 (0)), H)) fun x39 H =>
  onOut (iter n (F8_b2 C n) [v0, v1, v2, v3, v4, v5, v6, v7, v16, v28, v17, v38, x29, x39, v57, x38] H) (kBlk 2 (kSeq (F8_j3 C n) (kRet Try.prog [.tmp 16] [0, 1, 2, 3, 4, 5, 6, 7, 16, 28, 17, 38, 18, 20, 57, 19])))

theorem F8_j1_v (C : Oracle) (n : Nat) (v0 v1 v2 v3 v4 v5 v6 v7 v16 v28 v17 v38 v18 v20 v57 v19 : Value) (H : Heap) : F8_j1 C n [v0, v1, v2, v3, v4, v5, v6, v7, v16, v28, v17, v38, v18, v20, v57, v19] H = F8_j1v C n v0 v1 v2 v3 v4 v5 v6 v7 v16 v28 v17 v38 v18 v20 v57 v19 H := by
  kernel_rfl

noncomputable def F8 (C : Oracle) (n : Nat) (a0 a1 a2 a3 a4 a5 a6 a7 : Value) (H : Heap) : Option (Value × Heap) :=
  bnd (some ((Value.bool false), H)) fun x0 H =>
  bnd (some (a3, H)) fun x1 H =>
  bnd (pS (slen x1) H) fun x2 H =>
  bnd (pS (abin Try.prog .gtr 3 x2 (Value.int .i64 (300))) H) fun x3 H =>
  bnd (some (x3, H)) fun x4 H =>
  bnd (gd (wantV x4 false) (some (a4, H)) H) fun x5 H =>
  bnd (gd (wantV x4 false) (pS (slen x5) H) H) fun x6 H =>
  bnd (gd (wantV x4 false) (pS (abin Try.prog .gtr 3 x6 (Value.int .i64 (300))) H) H) fun x7 H =>
  bnd (pickS x4 (Value.bool true) x7 H) fun x8 H =>
  brB x8 (bnd (C 36 [] H) fun x9 H =>
  bnd (some (x9, H)) fun x10 H =>
  some (x10, H)) (
  bnd (abuildSlice Try.prog 28 0 [] H) fun x11 H =>
  bnd (some (a4, H)) fun x12 H =>
  bnd (appS 2 1 8 x11 x12 H) fun x13 H =>
  bnd (some (x13, H)) fun x14 H =>
  onOut (iter n (F8_b0 C n) [a0, a1, a2, a3, a4, a5, a6, a7, x0, x8, x14, undef, undef, undef, undef, undef] H) (kBlk 0 (kSeq (F8_j1 C n) (kRet Try.prog [.tmp 16] [0, 1, 2, 3, 4, 5, 6, 7, 16, 28, 17, 38, 18, 20, 57, 19]))))

theorem F8_eq (G : Oracle) (n : Nat) (a0 a1 a2 a3 a4 a5 a6 a7 : Value) (H : Heap) : run G (n + 1) 8 [a0, a1, a2, a3, a4, a5, a6, a7] H = F8 (run G n) n a0 a1 a2 a3 a4 a5 a6 a7 H := by
  unfold run; rw [acall_k (fn := Try.f8) (keep := [0, 1, 2, 3, 4, 5, 6, 7, 16, 28, 17, 38, 18, 20, 57, 19]) (notBad 8 rfl) (by kernel_rfl) (by kernel_rfl)]
  kernel_rfl

end Go.Proofs.Ytpenlcigickkbaa.Fun
