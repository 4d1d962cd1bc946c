/- The program's functions as plain terms, each with its equation; printed by wip/am/fun.py. -/
import Derived.Test.YtgakioiplkehgaaFunK
namespace Go.Proofs.Ytgakioiplkehgaa.Fun
open Go.RowKit Go.Proofs.YtgakioiplkehgaaA.Am
set_option linter.unusedVariables false
set_option maxRecDepth 10000
noncomputable def F7 (C : Oracle) (n : Nat) (a0 : Value) (H : Heap) : Option (Value × Heap) :=
  bnd (some ((Value.int .i64 (0)), H)) fun x0 H =>
  bnd (pS (abuild Try.prog 51 []) H) fun x1 H =>
  bnd (boxS 51 x1 H) fun x2 H =>
  bnd (abuildSlice Try.prog 52 1 [(0, x2)] H) fun x3 H =>
  bnd (mmk .i64 H) fun x4 H =>
  bnd (pS (abuild Try.prog 55 [(0, x3), (1, x4)]) H) fun x5 H =>
  bnd (boxS 55 x5 H) fun x6 H =>
  bnd (some (newBlk H 47 1 [(Value.pointer none)])) fun x7 H =>
  bnd (stS 1 x7 x6 H) fun x8 H =>
  bnd (some (a0, H)) fun x9 H =>
  bnd (some (Value.func (.func 19) #[] #[x7], H)) fun x10 H =>
  bnd (C 18 [x9, x10] H) fun x11 H =>
  bnd (some (x11, H)) fun x12 H =>
  some (x12, H)

theorem F7_eq (G : Oracle) (n : Nat) (a0 : Value) (H : Heap) : run G (n + 1) 7 [a0] H = F7 (run G n) n a0 H := by
  unfold run; rw [acall_k (fn := Try.f7) (keep := [0, 2, 3]) (notBad 7 rfl) (by kernel_rfl) (by kernel_rfl)]
  kernel_rfl

abbrev F9_st (v0 : Value := undef) (v1 : Value := undef) (v4 : Value := undef) (v5 : Value := undef) (v10 : Value := undef) : List Value := [v0, v1, v4, v5, v10]

noncomputable def F9_j0 (C : Oracle) (n : Nat) (vs : List Value) (H : Heap) : Option (Value × Heap) :=
  bnd (some ((sl [0, 1, 4, 5, 10] vs 5), H)) fun x5 H =>
  bnd (some (x5, H)) fun x6 H =>
  some (x6, H)

noncomputable def F9_j0v (C : Oracle) (n : Nat) (v0 v1 v4 v5 v10 : Value) (H : Heap) : Option (Value × Heap) :=
  bnd (some (v5, H)) fun x5 H =>
  bnd (some (x5, H)) fun x6 H =>
  some (x6, H)

theorem F9_j0_v (C : Oracle) (n : Nat) (v0 v1 v4 v5 v10 : Value) (H : Heap) : F9_j0 C n [v0, v1, v4, v5, v10] H = F9_j0v C n v0 v1 v4 v5 v10 H := by
  kernel_rfl

noncomputable def F9 (C : Oracle) (n : Nat) (a0 a1 : Value) (H : Heap) : Option (Value × Heap) :=
  bnd (some ((Value.int .i64 (0)), H)) fun x0 H =>
  bnd (some (a0, H)) fun x1 H =>
  bnd (some (a1, H)) fun x2 H =>
  bnd (pS (abin Try.prog .rem 3 x1 x2) H) fun x3 H =>
  bnd (some (x3, H)) fun x4 H =>
  bnd (some (x4, H)) fun x7 H =>
  bnd (pS (abin Try.prog .lss 3 x7 (Value.int .i64 (0))) H) fun x8 H =>
  brB x8 (bnd (some (x4, H)) fun x9 H =>
  bnd (some (a1, H)) fun x10 H =>
  bnd (pS (abin Try.prog .add 3 x9 x10) H) fun x11 H =>
  bnd (some (x11, H)) fun x12 H =>
  F9_j0 C n [a0, a1, x0, x12, x8] H) (
  F9_j0 C n [a0, a1, x0, x4, x8] H)

theorem F9_eq (G : Oracle) (n : Nat) (a0 a1 : Value) (H : Heap) : run G (n + 1) 9 [a0, a1] H = F9 (run G n) n a0 a1 H := by
  unfold run; rw [acall_k (fn := Try.f9) (keep := [0, 1, 4, 5, 10]) (notBad 9 rfl) (by kernel_rfl) (by kernel_rfl)]
  kernel_rfl

abbrev F14_st (v0 : Value := undef) (v1 : Value := undef) (v4 : Value := undef) (v9 : Value := undef) (v3 : Value := undef) (v12 : Value := undef) (v13 : Value := undef) (v5 : Value := undef) (v6 : Value := undef) (v31 : Value := undef) (v40 : Value := undef) (v49 : Value := undef) (v56 : Value := undef) (v63 : Value := undef) (v72 : Value := undef) : List Value := [v0, v1, v4, v9, v3, v12, v13, v5, v6, v31, v40, v49, v56, v63, v72]

noncomputable def F14_j0 (C : Oracle) (n : Nat) (vs : List Value) (H : Heap) : Option (Value × Heap) :=
  bnd (pS (abuild Try.prog 29 [(0, (Value.int .i64 (5)))]) H) fun x7 H =>
  bnd (stS 6 (sl [0, 1, 4, 9, 3, 12, 13, 5, 6, 31, 40, 49, 56, 63, 72] vs 4) x7 H) fun x8 H =>
  bnd (pS (ldn 6 (sl [0, 1, 4, 9, 3, 12, 13, 5, 6, 31, 40, 49, 56, 63, 72] vs 4) H) H) fun r0 _ =>
  some (r0, H)

noncomputable def F14_j0v (C : Oracle) (n : Nat) (v0 v1 v4 v9 v3 v12 v13 v5 v6 v31 v40 v49 v56 v63 v72 : Value) (H : Heap) : Option (Value × Heap) :=
  bnd (pS (abuild Try.prog 29 [(0, (Value.int .i64 (5)))]) H) fun x7 H =>
  bnd (stS 6 v4 x7 H) fun x8 H =>
  bnd (pS (ldn 6 v4 H) H) fun r0 _ =>
  some (r0, H)

theorem F14_j0_v (C : Oracle) (n : Nat) (v0 v1 v4 v9 v3 v12 v13 v5 v6 v31 v40 v49 v56 v63 v72 : Value) (H : Heap) : F14_j0 C n [v0, v1, v4, v9, v3, v12, v13, v5, v6, v31, v40, v49, v56, v63, v72] H = F14_j0v C n v0 v1 v4 v9 v3 v12 v13 v5 v6 v31 v40 v49 v56 v63 v72 H := by
  kernel_rfl

noncomputable def F14_j1 (C : Oracle) (n : Nat) (vs : List Value) (H : Heap) : Option (Value × Heap) :=
  brB (sl [0, 1, 4, 9, 3, 12, 13, 5, 6, 31, 40, 49, 56, 63, 72] vs 13) (bnd (some ((sl [0, 1, 4, 9, 3, 12, 13, 5, 6, 31, 40, 49, 56, 63, 72] vs 0), H)) fun x11 H =>
  bnd (fadS 1 (sl [0, 1, 4, 9, 3, 12, 13, 5, 6, 31, 40, 49, 56, 63, 72] vs 3) H) fun x12 H =>
  bnd (pS (ld1 x12 H) H) fun x13 H =>
  bnd (C 26 [x11, x13] H) fun x14 H =>
  bnd (some (x14, H)) fun x15 H =>
  bnd (extS 0 x15 H) fun x16 H =>
  bnd (extS 1 x15 H) fun x17 H =>
  bnd (some (x16, H)) fun x18 H =>
  bnd (some (x17, H)) fun x19 H =>
  bnd (fadS 1 (sl [0, 1, 4, 9, 3, 12, 13, 5, 6, 31, 40, 49, 56, 63, 72] vs 3) H) fun x20 H =>
  bnd (pS (ld1 x20 H) H) fun x21 H =>
  bnd (some (x18, H)) fun x22 H =>
  bnd (pS (abuild Try.prog 26 [(0, x21), (1, x22)]) H) fun x23 H =>
  bnd (some (x19, H)) fun x24 H =>
  bnd (C 27 [x23, x24] H) fun x25 H =>
  bnd (stS 6 (sl [0, 1, 4, 9, 3, 12, 13, 5, 6, 31, 40, 49, 56, 63, 72] vs 4) x25 H) fun x26 H =>
  bnd (pS (ldn 6 (sl [0, 1, 4, 9, 3, 12, 13, 5, 6, 31, 40, 49, 56, 63, 72] vs 4) H) H) fun r0 _ =>
  some (r0, H)) (
  bnd (pS (abin Try.prog .eql 3 (sl [0, 1, 4, 9, 3, 12, 13, 5, 6, 31, 40, 49, 56, 63, 72] vs 12) (Value.int .i64 (5))) H) fun x27 H =>
  bnd (some (x27, H)) fun x28 H =>
  brB x28 (bnd (some ((sl [0, 1, 4, 9, 3, 12, 13, 5, 6, 31, 40, 49, 56, 63, 72] vs 0), H)) fun x29 H =>
  bnd (fadS 1 (sl [0, 1, 4, 9, 3, 12, 13, 5, 6, 31, 40, 49, 56, 63, 72] vs 3) H) fun x30 H =>
  bnd (pS (ld1 x30 H) H) fun x31 H =>
  bnd (C 28 [x29, x31] H) fun x32 H =>
  bnd (extS 0 x32 H) fun x33 H =>
  bnd (extS 1 x32 H) fun x34 H =>
  bnd (C 27 [x33, x34] H) fun x35 H =>
  bnd (stS 6 (sl [0, 1, 4, 9, 3, 12, 13, 5, 6, 31, 40, 49, 56, 63, 72] vs 4) x35 H) fun x36 H =>
  bnd (pS (ldn 6 (sl [0, 1, 4, 9, 3, 12, 13, 5, 6, 31, 40, 49, 56, 63, 72] vs 4) H) H) fun r0 _ =>
  some (r0, H)) (
  bnd (pS (abin Try.prog .eql 3 (sl [0, 1, 4, 9, 3, 12, 13, 5, 6, 31, 40, 49, 56, 63, 72] vs 12) (Value.int .i64 (6))) H) fun x37 H =>
  bnd (some (x37, H)) fun x38 H =>
  brB x38 (bnd (some ((sl [0, 1, 4, 9, 3, 12, 13, 5, 6, 31, 40, 49, 56, 63, 72] vs 0), H)) fun x39 H =>
  bnd (fadS 1 (sl [0, 1, 4, 9, 3, 12, 13, 5, 6, 31, 40, 49, 56, 63, 72] vs 3) H) fun x40 H =>
  bnd (pS (ld1 x40 H) H) fun x41 H =>
  bnd (C 29 [x39, x41] H) fun x42 H =>
  bnd (extS 0 x42 H) fun x43 H =>
  bnd (extS 1 x42 H) fun x44 H =>
  bnd (C 27 [x43, x44] H) fun x45 H =>
  bnd (stS 6 (sl [0, 1, 4, 9, 3, 12, 13, 5, 6, 31, 40, 49, 56, 63, 72] vs 4) x45 H) fun x46 H =>
  bnd (pS (ldn 6 (sl [0, 1, 4, 9, 3, 12, 13, 5, 6, 31, 40, 49, 56, 63, 72] vs 4) H) H) fun r0 _ =>
  some (r0, H)) (
  bnd (pS (abin Try.prog .eql 3 (sl [0, 1, 4, 9, 3, 12, 13, 5, 6, 31, 40, 49, 56, 63, 72] vs 12) (Value.int .i64 (7))) H) fun x47 H =>
  bnd (some (x47, H)) fun x48 H =>
  brB x48 (bnd (some ((sl [0, 1, 4, 9, 3, 12, 13, 5, 6, 31, 40, 49, 56, 63, 72] vs 0), H)) fun x49 H =>
  bnd (C 29 [x49, (Value.int .i64 (-9223372036854775808))] H) fun x50 H =>
  bnd (extS 0 x50 H) fun x51 H =>
  bnd (extS 1 x50 H) fun x52 H =>
  bnd (C 27 [x51, x52] H) fun x53 H =>
  bnd (stS 6 (sl [0, 1, 4, 9, 3, 12, 13, 5, 6, 31, 40, 49, 56, 63, 72] vs 4) x53 H) fun x54 H =>
  bnd (pS (ldn 6 (sl [0, 1, 4, 9, 3, 12, 13, 5, 6, 31, 40, 49, 56, 63, 72] vs 4) H) H) fun r0 _ =>
  some (r0, H)) (
  bnd (pS (abin Try.prog .eql 3 (sl [0, 1, 4, 9, 3, 12, 13, 5, 6, 31, 40, 49, 56, 63, 72] vs 12) (Value.int .i64 (8))) H) fun x55 H =>
  bnd (some (x55, H)) fun x56 H =>
  brB x56 (bnd (some ((sl [0, 1, 4, 9, 3, 12, 13, 5, 6, 31, 40, 49, 56, 63, 72] vs 0), H)) fun x57 H =>
  bnd (C 28 [x57, (Value.int .i64 (9223372036854775807))] H) fun x58 H =>
  bnd (extS 0 x58 H) fun x59 H =>
  bnd (extS 1 x58 H) fun x60 H =>
  bnd (C 27 [x59, x60] H) fun x61 H =>
  bnd (stS 6 (sl [0, 1, 4, 9, 3, 12, 13, 5, 6, 31, 40, 49, 56, 63, 72] vs 4) x61 H) fun x62 H =>
  bnd (pS (ldn 6 (sl [0, 1, 4, 9, 3, 12, 13, 5, 6, 31, 40, 49, 56, 63, 72] vs 4) H) H) fun r0 _ =>
  some (r0, H)) (
  bnd (pS (abin Try.prog .eql 3 (sl [0, 1, 4, 9, 3, 12, 13, 5, 6, 31, 40, 49, 56, 63, 72] vs 12) (Value.int .i64 (9))) H) fun x63 H =>
  bnd (some (x63, H)) fun x64 H =>
  brB x64 (bnd (some ((sl [0, 1, 4, 9, 3, 12, 13, 5, 6, 31, 40, 49, 56, 63, 72] vs 0), H)) fun x65 H =>
  bnd (fadS 1 (sl [0, 1, 4, 9, 3, 12, 13, 5, 6, 31, 40, 49, 56, 63, 72] vs 3) H) fun x66 H =>
  bnd (pS (ld1 x66 H) H) fun x67 H =>
  bnd (fadS 2 (sl [0, 1, 4, 9, 3, 12, 13, 5, 6, 31, 40, 49, 56, 63, 72] vs 3) H) fun x68 H =>
  bnd (pS (ld1 x68 H) H) fun x69 H =>
  bnd (C 30 [x65, x67, x69] H) fun x70 H =>
  bnd (pS (abuild Try.prog 29 [(4, x70)]) H) fun x71 H =>
  bnd (stS 6 (sl [0, 1, 4, 9, 3, 12, 13, 5, 6, 31, 40, 49, 56, 63, 72] vs 4) x71 H) fun x72 H =>
  bnd (pS (ldn 6 (sl [0, 1, 4, 9, 3, 12, 13, 5, 6, 31, 40, 49, 56, 63, 72] vs 4) H) H) fun r0 _ =>
  some (r0, H)) (
  bnd (pS (abin Try.prog .eql 3 (sl [0, 1, 4, 9, 3, 12, 13, 5, 6, 31, 40, 49, 56, 63, 72] vs 12) (Value.int .i64 (10))) H) fun x73 H =>
  bnd (some (x73, H)) fun x74 H =>
  brB x74 (bnd (some ((sl [0, 1, 4, 9, 3, 12, 13, 5, 6, 31, 40, 49, 56, 63, 72] vs 0), H)) fun x75 H =>
  bnd (fadS 1 (sl [0, 1, 4, 9, 3, 12, 13, 5, 6, 31, 40, 49, 56, 63, 72] vs 3) H) fun x76 H =>
  bnd (pS (ld1 x76 H) H) fun x77 H =>
  bnd (fadS 2 (sl [0, 1, 4, 9, 3, 12, 13, 5, 6, 31, 40, 49, 56, 63, 72] vs 3) H) fun x78 H =>
  bnd (pS (ld1 x78 H) H) fun x79 H =>
  bnd (C 30 [x75, x77, x79] H) fun x80 H =>
  bnd (pS (slen x80) H) fun x81 H =>
  bnd (pS (abuild Try.prog 29 [(3, x81)]) H) fun x82 H =>
  bnd (stS 6 (sl [0, 1, 4, 9, 3, 12, 13, 5, 6, 31, 40, 49, 56, 63, 72] vs 4) x82 H) fun x83 H =>
  bnd (pS (ldn 6 (sl [0, 1, 4, 9, 3, 12, 13, 5, 6, 31, 40, 49, 56, 63, 72] vs 4) H) H) fun r0 _ =>
  some (r0, H)) (
  F14_j0 C n [(sl [0, 1, 4, 9, 3, 12, 13, 5, 6, 31, 40, 49, 56, 63, 72] vs 0), (sl [0, 1, 4, 9, 3, 12, 13, 5, 6, 31, 40, 49, 56, 63, 72] vs 1), (sl [0, 1, 4, 9, 3, 12, 13, 5, 6, 31, 40, 49, 56, 63, 72] vs 4), (sl [0, 1, 4, 9, 3, 12, 13, 5, 6, 31, 40, 49, 56, 63, 72] vs 9), (sl [0, 1, 4, 9, 3, 12, 13, 5, 6, 31, 40, 49, 56, 63, 72] vs 3), (sl [0, 1, 4, 9, 3, 12, 13, 5, 6, 31, 40, 49, 56, 63, 72] vs 12), (sl [0, 1, 4, 9, 3, 12, 13, 5, 6, 31, 40, 49, 56, 63, 72] vs 13), (sl [0, 1, 4, 9, 3, 12, 13, 5, 6, 31, 40, 49, 56, 63, 72] vs 5), (sl [0, 1, 4, 9, 3, 12, 13, 5, 6, 31, 40, 49, 56, 63, 72] vs 6), x28, x38, x48, x56, x64, x74] H)))))))

noncomputable def F14_j1v (C : Oracle) (n : Nat) (v0 v1 v4 v9 v3 v12 v13 v5 v6 v31 v40 v49 v56 v63 v72 : Value) (H : Heap) : Option (Value × Heap) :=
  brB v13 (bnd (some (v0, H)) fun x11 H =>
  bnd (fadS 1 v3 H) fun x12 H =>
  bnd (pS (ld1 x12 H) H) fun x13 H =>
  bnd (C 26 [x11, x13] H) fun x14 H =>
  bnd (some (x14, H)) fun x15 H =>
  bnd (extS 0 x15 H) fun x16 H =>
  bnd (extS 1 x15 H) fun x17 H =>
  bnd (some (x16, H)) fun x18 H =>
  bnd (some (x17, H)) fun x19 H =>
  bnd (fadS 1 v3 H) fun x20 H =>
  bnd (pS (ld1 x20 H) H) fun x21 H =>
  bnd (some (x18, H)) fun x22 H =>
  bnd (pS (abuild Try.prog 26 [(0, x21), (1, x22)]) H) fun x23 H =>
  bnd (some (x19, H)) fun x24 H =>
  bnd (C 27 [x23, x24] H) fun x25 H =>
  bnd (stS 6 v4 x25 H) fun x26 H =>
  bnd (pS (ldn 6 v4 H) H) fun r0 _ =>
  some (r0, H)) (
  bnd (pS (abin Try.prog .eql 3 v12 (Value.int .i64 (5))) H) fun x27 H =>
  bnd (some (x27, H)) fun x28 H =>
  brB x28 (bnd (some (v0, H)) fun x29 H =>
  bnd (fadS 1 v3 H) fun x30 H =>
  bnd (pS (ld1 x30 H) H) fun x31 H =>
  bnd (C 28 [x29, x31] H) fun x32 H =>
  bnd (extS 0 x32 H) fun x33 H =>
  bnd (extS 1 x32 H) fun x34 H =>
  bnd (C 27 [x33, x34] H) fun x35 H =>
  bnd (stS 6 v4 x35 H) fun x36 H =>
  bnd (pS (ldn 6 v4 H) H) fun r0 _ =>
  some (r0, H)) (
  bnd (pS (abin Try.prog .eql 3 v12 (Value.int .i64 (6))) H) fun x37 H =>
  bnd (some (x37, H)) fun x38 H =>
  brB x38 (bnd (some (v0, H)) fun x39 H =>
  bnd (fadS 1 v3 H) fun x40 H =>
  bnd (pS (ld1 x40 H) H) fun x41 H =>
  bnd (C 29 [x39, x41] H) fun x42 H =>
  bnd (extS 0 x42 H) fun x43 H =>
  bnd (extS 1 x42 H) fun x44 H =>
  bnd (C 27 [x43, x44] H) fun x45 H =>
  bnd (stS 6 v4 x45 H) fun x46 H =>
  bnd (pS (ldn 6 v4 H) H) fun r0 _ =>
  some (r0, H)) (
  bnd (pS (abin Try.prog .eql 3 v12 (Value.int .i64 (7))) H) fun x47 H =>
  bnd (some (x47, H)) fun x48 H =>
  brB x48 (bnd (some (v0, H)) fun x49 H =>
  bnd (C 29 [x49, (Value.int .i64 (-9223372036854775808))] H) fun x50 H =>
  bnd (extS 0 x50 H) fun x51 H =>
  bnd (extS 1 x50 H) fun x52 H =>
  bnd (C 27 [x51, x52] H) fun x53 H =>
  bnd (stS 6 v4 x53 H) fun x54 H =>
  bnd (pS (ldn 6 v4 H) H) fun r0 _ =>
  some (r0, H)) (
  bnd (pS (abin Try.prog .eql 3 v12 (Value.int .i64 (8))) H) fun x55 H =>
  bnd (some (x55, H)) fun x56 H =>
  brB x56 (bnd (some (v0, H)) fun x57 H =>
  bnd (C 28 [x57, (Value.int .i64 (9223372036854775807))] H) fun x58 H =>
  bnd (extS 0 x58 H) fun x59 H =>
  bnd (extS 1 x58 H) fun x60 H =>
  bnd (C 27 [x59, x60] H) fun x61 H =>
  bnd (stS 6 v4 x61 H) fun x62 H =>
  bnd (pS (ldn 6 v4 H) H) fun r0 _ =>
  some (r0, H)) (
  bnd (pS (abin Try.prog .eql 3 v12 (Value.int .i64 (9))) H) fun x63 H =>
  bnd (some (x63, H)) fun x64 H =>
  brB x64 (bnd (some (v0, H)) fun x65 H =>
  bnd (fadS 1 v3 H) fun x66 H =>
  bnd (pS (ld1 x66 H) H) fun x67 H =>
  bnd (fadS 2 v3 H) fun x68 H =>
  bnd (pS (ld1 x68 H) H) fun x69 H =>
  bnd (C 30 [x65, x67, x69] H) fun x70 H =>
  bnd (pS (abuild Try.prog 29 [(4, x70)]) H) fun x71 H =>
  bnd (stS 6 v4 x71 H) fun x72 H =>
  bnd (pS (ldn 6 v4 H) H) fun r0 _ =>
  some (r0, H)) (
  bnd (pS (abin Try.prog .eql 3 v12 (Value.int .i64 (10))) H) fun x73 H =>
  bnd (some (x73, H)) fun x74 H =>
  brB x74 (bnd (some (v0, H)) fun x75 H =>
  bnd (fadS 1 v3 H) fun x76 H =>
  bnd (pS (ld1 x76 H) H) fun x77 H =>
  bnd (fadS 2 v3 H) fun x78 H =>
  bnd (pS (ld1 x78 H) H) fun x79 H =>
  bnd (C 30 [x75, x77, x79] H) fun x80 H =>
  bnd (pS (slen x80) H) fun x81 H =>
  bnd (pS (abuild Try.prog 29 [(3, x81)]) H) fun x82 H =>
  bnd (stS 6 v4 x82 H) fun x83 H =>
  bnd (pS (ldn 6 v4 H) H) fun r0 _ =>
  some (r0, H)) (
  F14_j0 C n [v0, v1, v4, v9, v3, v12, v13, v5, v6, x28, x38, x48, x56, x64, x74] H)))))))

theorem F14_j1_v (C : Oracle) (n : Nat) (v0 v1 v4 v9 v3 v12 v13 v5 v6 v31 v40 v49 v56 v63 v72 : Value) (H : Heap) : F14_j1 C n [v0, v1, v4, v9, v3, v12, v13, v5, v6, v31, v40, v49, v56, v63, v72] H = F14_j1v C n v0 v1 v4 v9 v3 v12 v13 v5 v6 v31 v40 v49 v56 v63 v72 H := by
  kernel_rfl

noncomputable def F14 (C : Oracle) (n : Nat) (a0 a1 : Value) (H : Heap) : Option (Value × Heap) :=
  bnd (boxS 23 a1 H) fun x0 H =>
  bnd (some (newBlk H 29 1 [(Value.int .i64 (0)), (Value.bool false), (Value.int .i64 (0)), (Value.int .i64 (0)), (Value.int .i64 (0)), (Value.slice none 0 0)])) fun x1 H =>
  bnd (some (a0, H)) fun x2 H =>
  bnd (C 25 [x2] H) fun x3 H =>
  bnd (pS (aun .not x3) H) fun x4 H =>
  brB x4 (bnd (pS (abuild Try.prog 29 []) H) fun x5 H =>
  bnd (stS 6 x1 x5 H) fun x6 H =>
  bnd (pS (ldn 6 x1 H) H) fun r0 _ =>
  some (r0, H)) (
  bnd (fadS 0 x0 H) fun x9 H =>
  bnd (pS (ld1 x9 H) H) fun x10 H =>
  bnd (pS (abin Try.prog .eql 3 x10 (Value.int .i64 (1))) H) fun x84 H =>
  bnd (some (x84, H)) fun x85 H =>
  brB x85 (F14_j1 C n [a0, a1, x1, x4, x0, x10, x85, undef, undef, undef, undef, undef, undef, undef, undef] H) (
  bnd (pS (abin Try.prog .eql 3 x10 (Value.int .i64 (2))) H) fun x86 H =>
  bnd (some (x86, H)) fun x87 H =>
  brB x87 (F14_j1 C n [a0, a1, x1, x4, x0, x10, x87, undef, undef, undef, undef, undef, undef, undef, undef] H) (
  bnd (pS (abin Try.prog .eql 3 x10 (Value.int .i64 (3))) H) fun x88 H =>
  bnd (some (x88, H)) fun x89 H =>
  brB x89 (F14_j1 C n [a0, a1, x1, x4, x0, x10, x89, undef, undef, undef, undef, undef, undef, undef, undef] H) (
  bnd (pS (abin Try.prog .eql 3 x10 (Value.int .i64 (4))) H) fun x90 H =>
  bnd (some (x90, H)) fun x91 H =>
  F14_j1 C n [a0, a1, x1, x4, x0, x10, x91, undef, undef, undef, undef, undef, undef, undef, undef] H))))

theorem F14_eq (G : Oracle) (n : Nat) (a0 a1 : Value) (H : Heap) : run G (n + 1) 14 [a0, a1] H = F14 (run G n) n a0 a1 H := by
  unfold run; rw [acall_k (fn := Try.f14) (keep := [0, 1, 4, 9, 3, 12, 13, 5, 6, 31, 40, 49, 56, 63, 72]) (notBad 14 rfl) (by kernel_rfl) (by kernel_rfl)]
  kernel_rfl

abbrev F23_st (v0 : Value := undef) (v2 : Value := undef) (v3 : Value := undef) (v11 : Value := undef) (v10 : Value := undef) (v12 : Value := undef) (v9 : Value := undef) (v5 : Value := undef) (v6 : Value := undef) (v28 : Value := undef) (v4 : Value := undef) : List Value := [v0, v2, v3, v11, v10, v12, v9, v5, v6, v28, v4]

noncomputable def F23_b0 (C : Oracle) (n : Nat) (vs : List Value) (H : Heap) : AOut :=
  bnd (pS (abin Try.prog .lss 3 (sl [0, 2, 3, 11, 10, 12, 9, 5, 6, 28, 4] vs 11) (sl [0, 2, 3, 11, 10, 12, 9, 5, 6, 28, 4] vs 10)) H) fun x8 H =>
  brB x8 (bnd (some ((sl [0, 2, 3, 11, 10, 12, 9, 5, 6, 28, 4] vs 11), H)) fun x9 H =>
  bnd (iadS 2 (sl [0, 2, 3, 11, 10, 12, 9, 5, 6, 28, 4] vs 9) (sl [0, 2, 3, 11, 10, 12, 9, 5, 6, 28, 4] vs 11) H) fun x10 H =>
  bnd (pS (ldn 2 x10 H) H) fun x11 H =>
  bnd (some (newBlk H 26 1 [(Value.int .i64 (0)), (Value.int .i64 (0))])) fun x12 H =>
  bnd (some (x9, H)) fun x13 H =>
  bnd (stS 2 x12 x11 H) fun x14 H =>
  bnd (some (x13, H)) fun x15 H =>
  bnd (pS (abin Try.prog .gtr 3 x15 (Value.int .i64 (0))) H) fun x16 H =>
  bnd (some (x16, H)) fun x17 H =>
  bnd (gd (wantV x17 true) (fadS 0 x12 H) H) fun x18 H =>
  bnd (gd (wantV x17 true) (pS (ld1 x18 H) H) H) fun x19 H =>
  bnd (gd (wantV x17 true) (some ((sl [0, 2, 3, 11, 10, 12, 9, 5, 6, 28, 4] vs 0), H)) H) fun x20 H =>
  bnd (gd (wantV x17 true) (some (x13, H)) H) fun x21 H =>
  bnd (gd (wantV x17 true) (pS (abin Try.prog .sub 3 x21 (Value.int .i64 (1))) H) H) fun x22 H =>
  bnd (gd (wantV x17 true) (iadS 2 x20 x22 H) H) fun x23 H =>
  bnd (gd (wantV x17 true) (fadS 0 x23 H) H) fun x24 H =>
  bnd (gd (wantV x17 true) (pS (ld1 x24 H) H) H) fun x25 H =>
  bnd (gd (wantV x17 true) (pS (abin Try.prog .leq 2 x19 x25) H) H) fun x26 H =>
  bnd (pickS x17 x26 (Value.bool false) H) fun x27 H =>
  brB x27 (bnd (some ((Value.pointer none), H)) fun x28 H =>
  bnd (some ((Value.bool false), H)) fun x29 H =>
  fin .ret [(sl [0, 2, 3, 11, 10, 12, 9, 5, 6, 28, 4] vs 0), x28, x29, (sl [0, 2, 3, 11, 10, 12, 9, 5, 6, 28, 4] vs 11), (sl [0, 2, 3, 11, 10, 12, 9, 5, 6, 28, 4] vs 10), x8, (sl [0, 2, 3, 11, 10, 12, 9, 5, 6, 28, 4] vs 9), x13, x12, x27, (sl [0, 2, 3, 11, 10, 12, 9, 5, 6, 28, 4] vs 4)] H) (
  bnd (some ((sl [0, 2, 3, 11, 10, 12, 9, 5, 6, 28, 4] vs 4), H)) fun x30 H =>
  bnd (fadS 0 x12 H) fun x31 H =>
  bnd (pS (ld1 x31 H) H) fun x32 H =>
  bnd (fadS 1 x12 H) fun x33 H =>
  bnd (pS (ld1 x33 H) H) fun x34 H =>
  bnd (C 42 [x30, x32, x34] H) fun x35 H =>
  bnd (pS (abin Try.prog .add 3 (sl [0, 2, 3, 11, 10, 12, 9, 5, 6, 28, 4] vs 11) (Value.int .i64 (1))) H) fun x36 H =>
  bnd (some (x36, H)) fun x37 H =>
  fin .normal [(sl [0, 2, 3, 11, 10, 12, 9, 5, 6, 28, 4] vs 0), (sl [0, 2, 3, 11, 10, 12, 9, 5, 6, 28, 4] vs 2), (sl [0, 2, 3, 11, 10, 12, 9, 5, 6, 28, 4] vs 3), x37, (sl [0, 2, 3, 11, 10, 12, 9, 5, 6, 28, 4] vs 10), x8, (sl [0, 2, 3, 11, 10, 12, 9, 5, 6, 28, 4] vs 9), x13, x12, x27, (sl [0, 2, 3, 11, 10, 12, 9, 5, 6, 28, 4] vs 4)] H)) (
  fin (.exit 0) [(sl [0, 2, 3, 11, 10, 12, 9, 5, 6, 28, 4] vs 0), (sl [0, 2, 3, 11, 10, 12, 9, 5, 6, 28, 4] vs 2), (sl [0, 2, 3, 11, 10, 12, 9, 5, 6, 28, 4] vs 3), (sl [0, 2, 3, 11, 10, 12, 9, 5, 6, 28, 4] vs 11), (sl [0, 2, 3, 11, 10, 12, 9, 5, 6, 28, 4] vs 10), x8, (sl [0, 2, 3, 11, 10, 12, 9, 5, 6, 28, 4] vs 9), (sl [0, 2, 3, 11, 10, 12, 9, 5, 6, 28, 4] vs 5), (sl [0, 2, 3, 11, 10, 12, 9, 5, 6, 28, 4] vs 6), (sl [0, 2, 3, 11, 10, 12, 9, 5, 6, 28, 4] vs 28), (sl [0, 2, 3, 11, 10, 12, 9, 5, 6, 28, 4] vs 4)] H)

noncomputable def F23_b0v (C : Oracle) (n : Nat) (v0 v2 v3 v11 v10 v12 v9 v5 v6 v28 v4 : Value) (H : Heap) : AOut :=
  bnd (pS (abin Try.prog .lss 3 v11 v10) H) fun x8 H =>
  brB x8 (bnd (some (v11, H)) fun x9 H =>
  bnd (iadS 2 v9 v11 H) fun x10 H =>
  bnd (pS (ldn 2 x10 H) H) fun x11 H =>
  bnd (some (newBlk H 26 1 [(Value.int .i64 (0)), (Value.int .i64 (0))])) fun x12 H =>
  bnd (some (x9, H)) fun x13 H =>
  bnd (stS 2 x12 x11 H) fun x14 H =>
  bnd (some (x13, H)) fun x15 H =>
  bnd (pS (abin Try.prog .gtr 3 x15 (Value.int .i64 (0))) H) fun x16 H =>
  bnd (some (x16, H)) fun x17 H =>
  bnd (gd (wantV x17 true) (fadS 0 x12 H) H) fun x18 H =>
  bnd (gd (wantV x17 true) (pS (ld1 x18 H) H) H) fun x19 H =>
  bnd (gd (wantV x17 true) (some (v0, H)) H) fun x20 H =>
  bnd (gd (wantV x17 true) (some (x13, H)) H) fun x21 H =>
  bnd (gd (wantV x17 true) (pS (abin Try.prog .sub 3 x21 (Value.int .i64 (1))) H) H) fun x22 H =>
  bnd (gd (wantV x17 true) (iadS 2 x20 x22 H) H) fun x23 H =>
  bnd (gd (wantV x17 true) (fadS 0 x23 H) H) fun x24 H =>
  bnd (gd (wantV x17 true) (pS (ld1 x24 H) H) H) fun x25 H =>
  bnd (gd (wantV x17 true) (pS (abin Try.prog .leq 2 x19 x25) H) H) fun x26 H =>
  bnd (pickS x17 x26 (Value.bool false) H) fun x27 H =>
  brB x27 (bnd (some ((Value.pointer none), H)) fun x28 H =>
  bnd (some ((Value.bool false), H)) fun x29 H =>
  fin .ret [v0, x28, x29, v11, v10, x8, v9, x13, x12, x27, v4] H) (
  bnd (some (v4, H)) fun x30 H =>
  bnd (fadS 0 x12 H) fun x31 H =>
  bnd (pS (ld1 x31 H) H) fun x32 H =>
  bnd (fadS 1 x12 H) fun x33 H =>
  bnd (pS (ld1 x33 H) H) fun x34 H =>
  bnd (C 42 [x30, x32, x34] H) fun x35 H =>
  bnd (pS (abin Try.prog .add 3 v11 (Value.int .i64 (1))) H) fun x36 H =>
  bnd (some (x36, H)) fun x37 H =>
  fin .normal [v0, v2, v3, x37, v10, x8, v9, x13, x12, x27, v4] H)) (
  fin (.exit 0) [v0, v2, v3, v11, v10, x8, v9, v5, v6, v28, v4] H)

theorem F23_b0_v (C : Oracle) (n : Nat) (v0 v2 v3 v11 v10 v12 v9 v5 v6 v28 v4 : Value) (H : Heap) : F23_b0 C n [v0, v2, v3, v11, v10, v12, v9, v5, v6, v28, v4] H = F23_b0v C n v0 v2 v3 v11 v10 v12 v9 v5 v6 v28 v4 H := by
  kernel_rfl

noncomputable def F23_j1 (C : Oracle) (n : Nat) (vs : List Value) (H : Heap) : Option (Value × Heap) :=
  bnd (some ((sl [0, 2, 3, 11, 10, 12, 9, 5, 6, 28, 4] vs 4), H)) fun x38 H =>
  bnd (some (x38, H)) fun x39 H =>
  bnd (some ((Value.bool true), H)) fun x40 H =>
  some (Value.tuple #[x39, x40], H)

noncomputable def F23_j1v (C : Oracle) (n : Nat) (v0 v2 v3 v11 v10 v12 v9 v5 v6 v28 v4 : Value) (H : Heap) : Option (Value × Heap) :=
  bnd (some (v4, H)) fun x38 H =>
  bnd (some (x38, H)) fun x39 H =>
  bnd (some ((Value.bool true), H)) fun x40 H =>
  some (Value.tuple #[x39, x40], H)

theorem F23_j1_v (C : Oracle) (n : Nat) (v0 v2 v3 v11 v10 v12 v9 v5 v6 v28 v4 : Value) (H : Heap) : F23_j1 C n [v0, v2, v3, v11, v10, v12, v9, v5, v6, v28, v4] H = F23_j1v C n v0 v2 v3 v11 v10 v12 v9 v5 v6 v28 v4 H := by
  kernel_rfl

noncomputable def F23 (C : Oracle) (n : Nat) (a0 : Value) (H : Heap) : Option (Value × Heap) :=
  bnd (some ((Value.pointer none), H)) fun x0 H =>
  bnd (some ((Value.bool false), H)) fun x1 H =>
  bnd (pS (abuild Try.prog 51 []) H) fun x2 H =>
  bnd (boxS 51 x2 H) fun x3 H =>
  bnd (some (x3, H)) fun x4 H =>
  bnd (some (a0, H)) fun x5 H =>
  bnd (pS (slen x5) H) fun x6 H =>
  bnd (some ((Value.int .i64 (0)), H)) fun x7 H =>
  onOut (iter n (F23_b0 C n) [a0, x0, x1, x7, x6, undef, x5, undef, undef, undef, x4] H) (kBlk 0 (kSeq (F23_j1 C n) (kRet Try.prog [.tmp 2, .tmp 3] [0, 2, 3, 11, 10, 12, 9, 5, 6, 28, 4])))

theorem F23_eq (G : Oracle) (n : Nat) (a0 : Value) (H : Heap) : run G (n + 1) 23 [a0] H = F23 (run G n) n a0 H := by
  unfold run; rw [acall_k (fn := Try.f23) (keep := [0, 2, 3, 11, 10, 12, 9, 5, 6, 28, 4]) (notBad 23 rfl) (by kernel_rfl) (by kernel_rfl)]
  kernel_rfl

noncomputable def F26 (C : Oracle) (n : Nat) (a0 a1 : Value) (H : Heap) : Option (Value × Heap) :=
  bnd (some ((Value.int .i64 (0)), H)) fun x0 H =>
  bnd (some ((Value.bool false), H)) fun x1 H =>
  bnd (some (a0, H)) fun x2 H =>
  bnd (some (a1, H)) fun x3 H =>
  bnd (C 41 [x2, x3] H) fun x4 H =>
  bnd (some (x4, H)) fun x5 H =>
  bnd (some (x5, H)) fun x6 H =>
  bnd (some (a0, H)) fun x7 H =>
  bnd (pS (slen x7) H) fun x8 H =>
  bnd (pS (abin Try.prog .lss 3 x6 x8) H) fun x9 H =>
  bnd (some (x9, H)) fun x10 H =>
  bnd (gd (wantV x10 true) (some (a0, H)) H) fun x11 H =>
  bnd (gd (wantV x10 true) (some (x5, H)) H) fun x12 H =>
  bnd (gd (wantV x10 true) (iadS 2 x11 x12 H) H) fun x13 H =>
  bnd (gd (wantV x10 true) (fadS 0 x13 H) H) fun x14 H =>
  bnd (gd (wantV x10 true) (pS (ld1 x14 H) H) H) fun x15 H =>
  bnd (gd (wantV x10 true) (some (a1, H)) H) fun x16 H =>
  bnd (gd (wantV x10 true) (pS (abin Try.prog .eql 2 x15 x16) H) H) fun x17 H =>
  bnd (pickS x10 x17 (Value.bool false) H) fun x18 H =>
  brB x18 (bnd (some (a0, H)) fun x19 H =>
  bnd (some (x5, H)) fun x20 H =>
  bnd (iadS 2 x19 x20 H) fun x21 H =>
  bnd (fadS 1 x21 H) fun x22 H =>
  bnd (pS (ld1 x22 H) H) fun x23 H =>
  bnd (some (x23, H)) fun x24 H =>
  bnd (some ((Value.bool true), H)) fun x25 H =>
  some (Value.tuple #[x24, x25], H)) (
  bnd (some ((Value.int .i64 (0)), H)) fun x26 H =>
  bnd (some ((Value.bool false), H)) fun x27 H =>
  some (Value.tuple #[x26, x27], H))

theorem F26_eq (G : Oracle) (n : Nat) (a0 a1 : Value) (H : Heap) : run G (n + 1) 26 [a0, a1] H = F26 (run G n) n a0 a1 H := by
  unfold run; rw [acall_k (fn := Try.f26) (keep := [0, 1, 4, 5, 6, 22]) (notBad 26 rfl) (by kernel_rfl) (by kernel_rfl)]
  kernel_rfl

noncomputable def F28 (C : Oracle) (n : Nat) (a0 a1 : Value) (H : Heap) : Option (Value × Heap) :=
  bnd (some (newBlk H 26 1 [(Value.int .i64 (0)), (Value.int .i64 (0))])) fun x0 H =>
  bnd (some ((Value.bool false), H)) fun x1 H =>
  bnd (some (a0, H)) fun x2 H =>
  bnd (some (a1, H)) fun x3 H =>
  bnd (C 41 [x2, x3] H) fun x4 H =>
  bnd (some (x4, H)) fun x5 H =>
  bnd (some (x5, H)) fun x6 H =>
  bnd (some (a0, H)) fun x7 H =>
  bnd (pS (slen x7) H) fun x8 H =>
  bnd (pS (abin Try.prog .lss 3 x6 x8) H) fun x9 H =>
  bnd (some (x9, H)) fun x10 H =>
  bnd (gd (wantV x10 true) (some (a0, H)) H) fun x11 H =>
  bnd (gd (wantV x10 true) (some (x5, H)) H) fun x12 H =>
  bnd (gd (wantV x10 true) (iadS 2 x11 x12 H) H) fun x13 H =>
  bnd (gd (wantV x10 true) (fadS 0 x13 H) H) fun x14 H =>
  bnd (gd (wantV x10 true) (pS (ld1 x14 H) H) H) fun x15 H =>
  bnd (gd (wantV x10 true) (some (a1, H)) H) fun x16 H =>
  bnd (gd (wantV x10 true) (pS (abin Try.prog .eql 2 x15 x16) H) H) fun x17 H =>
  bnd (pickS x10 x17 (Value.bool false) H) fun x18 H =>
  brB x18 (bnd (some (a0, H)) fun x19 H =>
  bnd (some (x5, H)) fun x20 H =>
  bnd (iadS 2 x19 x20 H) fun x21 H =>
  bnd (pS (ldn 2 x21 H) H) fun x22 H =>
  bnd (stS 2 x0 x22 H) fun x23 H =>
  bnd (some ((Value.bool true), H)) fun x24 H =>
  bnd (pS (ldn 2 x0 H) H) fun r0 _ =>
  some (Value.tuple #[r0, x24], H)) (
  bnd (some (x5, H)) fun x25 H =>
  bnd (pS (abin Try.prog .eql 3 x25 (Value.int .i64 (0))) H) fun x26 H =>
  brB x26 (bnd (pS (abuild Try.prog 26 []) H) fun x27 H =>
  bnd (stS 2 x0 x27 H) fun x28 H =>
  bnd (some ((Value.bool false), H)) fun x29 H =>
  bnd (pS (ldn 2 x0 H) H) fun r0 _ =>
  some (Value.tuple #[r0, x29], H)) (
  bnd (some (a0, H)) fun x30 H =>
  bnd (some (x5, H)) fun x31 H =>
  bnd (pS (abin Try.prog .sub 3 x31 (Value.int .i64 (1))) H) fun x32 H =>
  bnd (iadS 2 x30 x32 H) fun x33 H =>
  bnd (pS (ldn 2 x33 H) H) fun x34 H =>
  bnd (stS 2 x0 x34 H) fun x35 H =>
  bnd (some ((Value.bool true), H)) fun x36 H =>
  bnd (pS (ldn 2 x0 H) H) fun r0 _ =>
  some (Value.tuple #[r0, x36], H)))

theorem F28_eq (G : Oracle) (n : Nat) (a0 a1 : Value) (H : Heap) : run G (n + 1) 28 [a0, a1] H = F28 (run G n) n a0 a1 H := by
  unfold run; rw [acall_k (fn := Try.f28) (keep := [0, 1, 4, 5, 6, 22, 28]) (notBad 28 rfl) (by kernel_rfl) (by kernel_rfl)]
  kernel_rfl

noncomputable def F35 (C : Oracle) (n : Nat) (a0 a1 : Value) (H : Heap) : Option (Value × Heap) :=
  bnd (boxS 31 a1 H) fun x0 H =>
  bnd (some ((Value.bool false), H)) fun x1 H =>
  bnd (fadS 1 x0 H) fun x2 H =>
  bnd (pS (ld1 x2 H) H) fun x3 H =>
  bnd (pS (abin Try.prog .lss 3 x3 (Value.int .i64 (0))) H) fun x4 H =>
  bnd (some (x4, H)) fun x5 H =>
  bnd (gd (wantV x5 false) (some (a0, H)) H) fun x6 H =>
  bnd (gd (wantV x5 false) (nckS x6 H) H) fun x7 H =>
  bnd (gd (wantV x5 false) (fadS 1 x7 H) H) fun x8 H =>
  bnd (gd (wantV x5 false) (pS (ld1 x8 H) H) H) fun x9 H =>
  bnd (gd (wantV x5 false) (fadS 1 x0 H) H) fun x10 H =>
  bnd (gd (wantV x5 false) (pS (ld1 x10 H) H) H) fun x11 H =>
  bnd (gd (wantV x5 false) (pS (mlook .i64 (Value.pointer none) false x9 x11 H) H) H) fun x12 H =>
  bnd (gd (wantV x5 false) (pS (abin Try.prog .neq 92 x12 (Value.pointer none)) H) H) fun x13 H =>
  bnd (pickS x5 (Value.bool true) x13 H) fun x14 H =>
  bnd (some (x14, H)) fun x15 H =>
  bnd (gd (wantV x15 false) (fadS 3 x0 H) H) fun x16 H =>
  bnd (gd (wantV x15 false) (fadS 0 x16 H) H) fun x17 H =>
  bnd (gd (wantV x15 false) (pS (ld1 x17 H) H) H) fun x18 H =>
  bnd (gd (wantV x15 false) (pS (abin Try.prog .lss 3 x18 (Value.int .i64 (1))) H) H) fun x19 H =>
  bnd (pickS x15 (Value.bool true) x19 H) fun x20 H =>
  bnd (some (x20, H)) fun x21 H =>
  bnd (gd (wantV x21 false) (fadS 3 x0 H) H) fun x22 H =>
  bnd (gd (wantV x21 false) (fadS 0 x22 H) H) fun x23 H =>
  bnd (gd (wantV x21 false) (pS (ld1 x23 H) H) H) fun x24 H =>
  bnd (gd (wantV x21 false) (pS (abin Try.prog .gtr 3 x24 (Value.int .i64 (10))) H) H) fun x25 H =>
  bnd (pickS x21 (Value.bool true) x25 H) fun x26 H =>
  bnd (some (x26, H)) fun x27 H =>
  bnd (gd (wantV x27 false) (fadS 2 x0 H) H) fun x28 H =>
  bnd (gd (wantV x27 false) (pS (ld1 x28 H) H) H) fun x29 H =>
  bnd (gd (wantV x27 false) (some (a0, H)) H) fun x30 H =>
  bnd (gd (wantV x27 false) (nckS x30 H) H) fun x31 H =>
  bnd (gd (wantV x27 false) (fadS 2 x31 H) H) fun x32 H =>
  bnd (gd (wantV x27 false) (pS (ld1 x32 H) H) H) fun x33 H =>
  bnd (gd (wantV x27 false) (pS (abin Try.prog .neq 3 x29 x33) H) H) fun x34 H =>
  bnd (pickS x27 (Value.bool true) x34 H) fun x35 H =>
  brB x35 (bnd (some ((Value.bool false), H)) fun x36 H =>
  some (x36, H)) (
  bnd (some (a0, H)) fun x37 H =>
  bnd (nckS x37 H) fun x38 H =>
  bnd (fadS 2 x38 H) fun x39 H =>
  bnd (pS (ld1 x39 H) H) fun x40 H =>
  bnd (pS (abin Try.prog .add 3 x40 (Value.int .i64 (1))) H) fun x41 H =>
  bnd (nckS x37 H) fun x42 H =>
  bnd (fadS 2 x42 H) fun x43 H =>
  bnd (stS 1 x43 x41 H) fun x44 H =>
  bnd (some (a0, H)) fun x45 Hx45 =>
  bnd (nckS x45 Hx45) fun x46 Hx46 =>
  bnd (fadS 1 x46 Hx46) fun x47 Hx47 =>
  bnd (pS (ld1 x47 Hx47) Hx47) fun x48 Hx48 =>
  bnd (fadS 1 x0 Hx48) fun x49 Hx49 =>
  bnd (pS (ld1 x49 Hx49) Hx49) fun x50 Hx50 =>
  bnd (fadS 3 x0 Hx50) fun x51 Hx51 =>
  bnd (pS (ldn 3 x51 Hx51) Hx51) fun x52 Hx52 =>
  bnd (fadS 2 x0 Hx52) fun x53 Hx53 =>
  bnd (pS (ld1 x53 Hx53) Hx53) fun x54 Hx54 =>
  bnd (some (a0, Hx54)) fun x55 Hx55 =>
  bnd (nckS x55 Hx55) fun x56 Hx56 =>
  bnd (fadS 0 x56 Hx56) fun x57 Hx57 =>
  bnd (pS (ld1 x57 Hx57) Hx57) fun x58 Hx58 =>
  bnd (pS (slen x58) Hx58) fun x59 Hx59 =>
  bnd (pS (abin Try.prog .sub 3 x59 (Value.int .i64 (1))) Hx59) fun x60 Hx60 =>
  bnd (pS (abuild Try.prog 94 [(0, x52), (1, x54), (2, x60)]) Hx60) fun x61 Hx61 =>
  bnd (boxS 94 x61 Hx61) fun x62 Hx62 =>
  bnd (mput .i64 x48 x50 x62 Hx62) fun x63 Hx63 =>
  if (cfS (some true) (some true) (pS (ld1 x47 Hx47) Hx47) (pS (ld1 x47 Hx61) Hx61) (pS (ld1 x47 Hx62) Hx62) && (cfS (some true) (some true) (pS (ld1 x49 Hx49) Hx49) (pS (ld1 x49 Hx61) Hx61) (pS (ld1 x49 Hx62) Hx62) && true)) = true then (fun H =>
  bnd (some ((Value.bool true), H)) fun x64 H =>
  some (x64, H)) Hx63 else none)

theorem F35_eq (G : Oracle) (n : Nat) (a0 a1 : Value) (H : Heap) : run G (n + 1) 35 [a0, a1] H = F35 (run G n) n a0 a1 H := by
  unfold run; rw [acall_k (fn := Try.f35) (keep := [0, 1, 4, 3, 38]) (notBad 35 rfl) (by kernel_rfl) (by kernel_rfl)]
  kernel_rfl

noncomputable def F37 (C : Oracle) (n : Nat) (a0 a1 : Value) (H : Heap) : Option (Value × Heap) :=
  bnd (boxS 31 a1 H) fun x0 H =>
  bnd (some ((Value.bool false), H)) fun x1 H =>
  bnd (some (a0, H)) fun x2 H =>
  bnd (nckS x2 H) fun x3 H =>
  bnd (fadS 1 x3 H) fun x4 H =>
  bnd (pS (ld1 x4 H) H) fun x5 H =>
  bnd (fadS 1 x0 H) fun x6 H =>
  bnd (pS (ld1 x6 H) H) fun x7 H =>
  bnd (pS (mlook .i64 (Value.pointer none) false x5 x7 H) H) fun x8 H =>
  bnd (some (x8, H)) fun x9 H =>
  bnd (some (x9, H)) fun x10 H =>
  bnd (pS (abin Try.prog .eql 92 x10 (Value.pointer none)) H) fun x11 H =>
  bnd (some (x11, H)) fun x12 H =>
  bnd (gd (wantV x12 false) (some (x9, H)) H) fun x13 H =>
  bnd (gd (wantV x12 false) (nckS x13 H) H) fun x14 H =>
  bnd (gd (wantV x12 false) (fadS 3 x14 H) H) fun x15 H =>
  bnd (gd (wantV x12 false) (pS (ld1 x15 H) H) H) fun x16 H =>
  bnd (gd (wantV x12 false) (fadS 2 x0 H) H) fun x17 H =>
  bnd (gd (wantV x12 false) (pS (ld1 x17 H) H) H) fun x18 H =>
  bnd (gd (wantV x12 false) (pS (abin Try.prog .neq 3 x16 x18) H) H) fun x19 H =>
  bnd (pickS x12 (Value.bool true) x19 H) fun x20 H =>
  bnd (some (x20, H)) fun x21 H =>
  bnd (gd (wantV x21 false) (some (a0, H)) H) fun x22 H =>
  bnd (gd (wantV x21 false) (some (x9, H)) H) fun x23 H =>
  bnd (gd (wantV x21 false) (fadS 6 x0 H) H) fun x24 H =>
  bnd (gd (wantV x21 false) (pS (ldn 6 x24 H) H) H) fun x25 H =>
  bnd (gd (wantV x21 false) (C 53 [x22, x23, x25] H) H) fun x26 H =>
  bnd (gd (wantV x21 false) (pS (aun .not x26) H) H) fun x27 H =>
  bnd (pickS x21 (Value.bool true) x27 H) fun x28 H =>
  brB x28 (bnd (some ((Value.bool false), H)) fun x29 H =>
  some (x29, H)) (
  bnd (some (a0, H)) fun x30 H =>
  bnd (nckS x30 H) fun x31 H =>
  bnd (fadS 1 x31 H) fun x32 H =>
  bnd (pS (ld1 x32 H) H) fun x33 H =>
  bnd (fadS 1 x0 H) fun x34 H =>
  bnd (pS (ld1 x34 H) H) fun x35 H =>
  bnd (mdel .i64 x33 x35 H) fun x36 H =>
  bnd (some ((Value.bool true), H)) fun x37 H =>
  some (x37, H))

theorem F37_eq (G : Oracle) (n : Nat) (a0 a1 : Value) (H : Heap) : run G (n + 1) 37 [a0, a1] H = F37 (run G n) n a0 a1 H := by
  unfold run; rw [acall_k (fn := Try.f37) (keep := [0, 1, 4, 3, 5, 31]) (notBad 37 rfl) (by kernel_rfl) (by kernel_rfl)]
  kernel_rfl

abbrev F38_st (v0 : Value := undef) (v1 : Value := undef) (v4 : Value := undef) (v5 : Value := undef) (v9 : Value := undef) (v18 : Value := undef) : List Value := [v0, v1, v4, v5, v9, v18]

noncomputable def F38_b0 (C : Oracle) (n : Nat) (vs : List Value) (H : Heap) : AOut :=
  bnd (some ((sl [0, 1, 4, 5, 9, 18] vs 5), H)) fun x2 H =>
  bnd (some ((sl [0, 1, 4, 5, 9, 18] vs 0), H)) fun x3 H =>
  bnd (pS (slen x3) H) fun x4 H =>
  bnd (pS (abin Try.prog .lss 3 x2 x4) H) fun x5 H =>
  brB x5 (bnd (some ((sl [0, 1, 4, 5, 9, 18] vs 0), H)) fun x6 H =>
  bnd (some ((sl [0, 1, 4, 5, 9, 18] vs 5), H)) fun x7 H =>
  bnd (iadS 8 x6 x7 H) fun x8 H =>
  bnd (fadS 0 x8 H) fun x9 H =>
  bnd (pS (ld1 x9 H) H) fun x10 H =>
  bnd (some ((sl [0, 1, 4, 5, 9, 18] vs 1), H)) fun x11 H =>
  bnd (pS (abin Try.prog .eql 3 x10 x11) H) fun x12 H =>
  brB x12 (bnd (some ((sl [0, 1, 4, 5, 9, 18] vs 5), H)) fun x13 H =>
  bnd (some (x13, H)) fun x14 H =>
  fin .ret [(sl [0, 1, 4, 5, 9, 18] vs 0), (sl [0, 1, 4, 5, 9, 18] vs 1), x14, (sl [0, 1, 4, 5, 9, 18] vs 5), x5, x12] H) (
  bnd (some ((sl [0, 1, 4, 5, 9, 18] vs 5), H)) fun x15 H =>
  bnd (pS (abin Try.prog .add 3 x15 (Value.int .i64 (1))) H) fun x16 H =>
  bnd (some (x16, H)) fun x17 H =>
  fin .normal [(sl [0, 1, 4, 5, 9, 18] vs 0), (sl [0, 1, 4, 5, 9, 18] vs 1), (sl [0, 1, 4, 5, 9, 18] vs 4), x17, x5, x12] H)) (
  fin (.exit 0) [(sl [0, 1, 4, 5, 9, 18] vs 0), (sl [0, 1, 4, 5, 9, 18] vs 1), (sl [0, 1, 4, 5, 9, 18] vs 4), (sl [0, 1, 4, 5, 9, 18] vs 5), x5, (sl [0, 1, 4, 5, 9, 18] vs 18)] H)

noncomputable def F38_b0v (C : Oracle) (n : Nat) (v0 v1 v4 v5 v9 v18 : Value) (H : Heap) : AOut :=
  bnd (some (v5, H)) fun x2 H =>
  bnd (some (v0, H)) fun x3 H =>
  bnd (pS (slen x3) H) fun x4 H =>
  bnd (pS (abin Try.prog .lss 3 x2 x4) H) fun x5 H =>
  brB x5 (bnd (some (v0, H)) fun x6 H =>
  bnd (some (v5, H)) fun x7 H =>
  bnd (iadS 8 x6 x7 H) fun x8 H =>
  bnd (fadS 0 x8 H) fun x9 H =>
  bnd (pS (ld1 x9 H) H) fun x10 H =>
  bnd (some (v1, H)) fun x11 H =>
  bnd (pS (abin Try.prog .eql 3 x10 x11) H) fun x12 H =>
  brB x12 (bnd (some (v5, H)) fun x13 H =>
  bnd (some (x13, H)) fun x14 H =>
  fin .ret [v0, v1, x14, v5, x5, x12] H) (
  bnd (some (v5, H)) fun x15 H =>
  bnd (pS (abin Try.prog .add 3 x15 (Value.int .i64 (1))) H) fun x16 H =>
  bnd (some (x16, H)) fun x17 H =>
  fin .normal [v0, v1, v4, x17, x5, x12] H)) (
  fin (.exit 0) [v0, v1, v4, v5, x5, v18] H)

theorem F38_b0_v (C : Oracle) (n : Nat) (v0 v1 v4 v5 v9 v18 : Value) (H : Heap) : F38_b0 C n [v0, v1, v4, v5, v9, v18] H = F38_b0v C n v0 v1 v4 v5 v9 v18 H := by
  kernel_rfl

noncomputable def F38_j1 (C : Oracle) (n : Nat) (vs : List Value) (H : Heap) : Option (Value × Heap) :=
  bnd (some ((Value.int .i64 (-1)), H)) fun x18 H =>
  some (x18, H)

noncomputable def F38_j1v (C : Oracle) (n : Nat) (v0 v1 v4 v5 v9 v18 : Value) (H : Heap) : Option (Value × Heap) :=
  bnd (some ((Value.int .i64 (-1)), H)) fun x18 H =>
  some (x18, H)

theorem F38_j1_v (C : Oracle) (n : Nat) (v0 v1 v4 v5 v9 v18 : Value) (H : Heap) : F38_j1 C n [v0, v1, v4, v5, v9, v18] H = F38_j1v C n v0 v1 v4 v5 v9 v18 H := by
  kernel_rfl

noncomputable def F38 (C : Oracle) (n : Nat) (a0 a1 : Value) (H : Heap) : Option (Value × Heap) :=
  bnd (some ((Value.int .i64 (0)), H)) fun x0 H =>
  bnd (some ((Value.int .i64 (0)), H)) fun x1 H =>
  onOut (iter n (F38_b0 C n) [a0, a1, x0, x1, undef, undef] H) (kBlk 0 (kSeq (F38_j1 C n) (kRet Try.prog [.tmp 4] [0, 1, 4, 5, 9, 18])))

theorem F38_eq (G : Oracle) (n : Nat) (a0 a1 : Value) (H : Heap) : run G (n + 1) 38 [a0, a1] H = F38 (run G n) n a0 a1 H := by
  unfold run; rw [acall_k (fn := Try.f38) (keep := [0, 1, 4, 5, 9, 18]) (notBad 38 rfl) (by kernel_rfl) (by kernel_rfl)]
  kernel_rfl

noncomputable def F47 (C : Oracle) (n : Nat) (a0 a1 a2 : Value) (H : Heap) : Option (Value × Heap) :=
  bnd (boxS 2 a2 H) fun x0 H =>
  bnd (some (Value.nilFunc, H)) fun x1 H =>
  bnd (some (a0, H)) fun x2 H =>
  bnd (some (a1, H)) fun x3 H =>
  bnd (C 57 [x2, x3] H) fun x4 H =>
  bnd (some (x4, H)) fun x5 H =>
  bnd (extS 0 x5 H) fun x6 H =>
  bnd (extS 1 x5 H) fun x7 H =>
  bnd (extS 2 x5 H) fun x8 H =>
  bnd (some (x6, H)) fun x9 H =>
  bnd (some (x7, H)) fun x10 H =>
  bnd (some (x8, H)) fun x11 H =>
  bnd (some (a0, H)) fun x12 H =>
  bnd (some (x9, H)) fun x13 H =>
  bnd (some (Value.func (.func 60) #[] #[x0], H)) fun x14 H =>
  bnd (C 59 [x12, x13, x14] H) fun x15 H =>
  bnd (some (x15, H)) fun x16 H =>
  some (x16, H)

theorem F47_eq (G : Oracle) (n : Nat) (a0 a1 a2 : Value) (H : Heap) : run G (n + 1) 47 [a0, a1, a2] H = F47 (run G n) n a0 a1 a2 H := by
  unfold run; rw [acall_k (fn := Try.f47) (keep := [0, 1, 2, 6, 7, 5]) (notBad 47 rfl) (by kernel_rfl) (by kernel_rfl)]
  kernel_rfl

noncomputable def F49 (C : Oracle) (n : Nat) (a0 : Value) (H : Heap) : Option (Value × Heap) :=
  bnd (some ((Value.pointer none), H)) fun x0 H =>
  bnd (some (a0, H)) fun x1 Hx1 =>
  bnd (nckS x1 Hx1) fun x2 Hx2 =>
  bnd (fadS 0 x2 Hx2) fun x3 Hx3 =>
  bnd (pS (ld1 x3 Hx3) Hx3) fun x4 Hx4 =>
  bnd (C 61 [x4] Hx4) fun x5 Hx5 =>
  bnd (some (a0, Hx5)) fun x6 Hx6 =>
  bnd (nckS x6 Hx6) fun x7 Hx7 =>
  bnd (fadS 1 x7 Hx7) fun x8 Hx8 =>
  bnd (pS (ld1 x8 Hx8) Hx8) fun x9 Hx9 =>
  bnd (C 61 [x9] Hx9) fun x10 Hx10 =>
  bnd (pS (abuild Try.prog 51 [(0, x5), (1, x10)]) Hx10) fun x11 Hx11 =>
  bnd (boxS 51 x11 Hx11) fun x12 Hx12 =>
  bnd (some (x12, Hx12)) fun x13 Hx13 =>
  if (cfS (some true) (some true) (pS (ld1 x8 Hx8) Hx8) (pS (ld1 x8 Hx4) Hx4) (pS (ld1 x8 Hx5) Hx5) && true) = true then (fun H =>
  some (x13, H)) Hx13 else none

theorem F49_eq (G : Oracle) (n : Nat) (a0 : Value) (H : Heap) : run G (n + 1) 49 [a0] H = F49 (run G n) n a0 H := by
  unfold run; rw [acall_k (fn := Try.f49) (keep := [0, 2]) (notBad 49 rfl) (by kernel_rfl) (by kernel_rfl)]
  kernel_rfl

noncomputable def F50 (C : Oracle) (n : Nat) (a0 a1 : Value) (H : Heap) : Option (Value × Heap) :=
  bnd (some ((Value.int .i64 (0)), H)) fun x0 H =>
  bnd (some ((Value.bool false), H)) fun x1 H =>
  bnd (some (a0, H)) fun x2 H =>
  bnd (nckS x2 H) fun x3 H =>
  bnd (fadS 0 x3 H) fun x4 H =>
  bnd (pS (ld1 x4 H) H) fun x5 H =>
  bnd (some (a1, H)) fun x6 H =>
  bnd (C 55 [x5, x6] H) fun x7 H =>
  bnd (some (x7, H)) fun x8 H =>
  bnd (extS 0 x8 H) fun x9 H =>
  bnd (extS 1 x8 H) fun x10 H =>
  bnd (some (x9, H)) fun x11 H =>
  bnd (some (x10, H)) fun x12 H =>
  bnd (some (x12, H)) fun x13 H =>
  bnd (pS (aun .not x13) H) fun x14 H =>
  brB x14 (bnd (some ((Value.int .i64 (0)), H)) fun x15 H =>
  bnd (some (x15, H)) fun x16 H =>
  bnd (some (x16, H)) fun x17 H =>
  bnd (some ((Value.bool false), H)) fun x18 H =>
  some (Value.tuple #[x17, x18], H)) (
  bnd (some (a0, H)) fun x19 H =>
  bnd (nckS x19 H) fun x20 H =>
  bnd (fadS 1 x20 H) fun x21 H =>
  bnd (pS (ld1 x21 H) H) fun x22 H =>
  bnd (some (x11, H)) fun x23 H =>
  bnd (iadS 1 x22 x23 H) fun x24 H =>
  bnd (pS (ld1 x24 H) H) fun x25 H =>
  bnd (some (x25, H)) fun x26 H =>
  bnd (some (a0, H)) fun x27 Hx27 =>
  bnd (some (a0, Hx27)) fun x28 Hx28 =>
  bnd (some (a0, Hx28)) fun x29 Hx29 =>
  bnd (nckS x29 Hx29) fun x30 Hx30 =>
  bnd (fadS 0 x30 Hx30) fun x31 Hx31 =>
  bnd (pS (ld1 x31 Hx31) Hx31) fun x32 Hx32 =>
  bnd (some (x11, Hx32)) fun x33 Hx33 =>
  bnd (some (x11, Hx33)) fun x34 Hx34 =>
  bnd (pS (abin Try.prog .add 3 x34 (Value.int .i64 (1))) Hx34) fun x35 Hx35 =>
  bnd (C 62 [x32, x33, x35] Hx35) fun x36 Hx36 =>
  bnd (some (a0, Hx36)) fun x37 Hx37 =>
  bnd (nckS x37 Hx37) fun x38 Hx38 =>
  bnd (fadS 1 x38 Hx38) fun x39 Hx39 =>
  bnd (pS (ld1 x39 Hx39) Hx39) fun x40 Hx40 =>
  bnd (some (x11, Hx40)) fun x41 Hx41 =>
  bnd (some (x11, Hx41)) fun x42 Hx42 =>
  bnd (pS (abin Try.prog .add 3 x42 (Value.int .i64 (1))) Hx42) fun x43 Hx43 =>
  bnd (C 62 [x40, x41, x43] Hx43) fun x44 Hx44 =>
  bnd (nckS x27 Hx44) fun x45 Hx45 =>
  bnd (fadS 0 x45 Hx45) fun x46 Hx46 =>
  bnd (stS 1 x46 x36 Hx46) fun x47 Hx47 =>
  bnd (nckS x28 Hx47) fun x48 Hx48 =>
  bnd (fadS 1 x48 Hx48) fun x49 Hx49 =>
  bnd (stS 1 x49 x44 Hx49) fun x50 Hx50 =>
  if (cfS (some true) (some true) (pS (ld1 x39 Hx39) Hx39) (pS (ld1 x39 Hx35) Hx35) (pS (ld1 x39 Hx36) Hx36) && true) = true then (fun H =>
  bnd (some (x26, H)) fun x51 H =>
  bnd (some (x51, H)) fun x52 H =>
  bnd (some ((Value.bool true), H)) fun x53 H =>
  some (Value.tuple #[x52, x53], H)) Hx50 else none)

theorem F50_eq (G : Oracle) (n : Nat) (a0 a1 : Value) (H : Heap) : run G (n + 1) 50 [a0, a1] H = F50 (run G n) n a0 a1 H := by
  unfold run; rw [acall_k (fn := Try.f50) (keep := [0, 1, 4, 5, 7, 20, 8, 6, 9]) (notBad 50 rfl) (by kernel_rfl) (by kernel_rfl)]
  kernel_rfl

noncomputable def F60 (C : Oracle) (n : Nat) (a0 a1 : Value) (H : Heap) : Option (Value × Heap) :=
  bnd (some ((Value.bool false), H)) fun x0 H =>
  bnd (some (a0, H)) fun x1 H =>
  bnd (pS (ld1 a1 H) H) fun x2 H =>
  bnd (pS (abin Try.prog .leq 2 x1 x2) H) fun x3 H =>
  bnd (some (x3, H)) fun x4 H =>
  some (x4, H)

theorem F60_eq (G : Oracle) (n : Nat) (a0 a1 : Value) (H : Heap) : run G (n + 1) 60 [a0, a1] H = F60 (run G n) n a0 a1 H := by
  unfold run; rw [acall_k (fn := Try.f60) (keep := [0, 3, 1]) (notBad 60 rfl) (by kernel_rfl) (by kernel_rfl)]
  kernel_rfl

abbrev F70_st (v0 : Value := undef) (v1 : Value := undef) (v5 : Value := undef) (v2 : Value := undef) (v3 : Value := undef) (v24 : Value := undef) (v43 : Value := undef) : List Value := [v0, v1, v5, v2, v3, v24, v43]

noncomputable def F70_b0 (C : Oracle) (n : Nat) (vs : List Value) (H : Heap) : AOut :=
  bnd (some ((sl [0, 1, 5, 2, 3, 24, 43] vs 5), H)) fun x2 H =>
  bnd (pS (ld1 (sl [0, 1, 5, 2, 3, 24, 43] vs 2) H) H) fun x3 H =>
  bnd (nckS x3 H) fun x4 H =>
  bnd (fadS 0 x4 H) fun x5 H =>
  bnd (pS (ld1 x5 H) H) fun x6 H =>
  bnd (pS (slen x6) H) fun x7 H =>
  bnd (pS (abin Try.prog .lss 3 x2 x7) H) fun x8 H =>
  bnd (some (x8, H)) fun x9 H =>
  bnd (gd (wantV x9 true) (pS (ld1 (sl [0, 1, 5, 2, 3, 24, 43] vs 3) H) H) H) fun x10 H =>
  bnd (gd (wantV x9 true) (pS (ld1 (sl [0, 1, 5, 2, 3, 24, 43] vs 2) H) H) H) fun x11 H =>
  bnd (gd (wantV x9 true) (nckS x11 H) H) fun x12 H =>
  bnd (gd (wantV x9 true) (fadS 0 x12 H) H) fun x13 H =>
  bnd (gd (wantV x9 true) (pS (ld1 x13 H) H) H) fun x14 H =>
  bnd (gd (wantV x9 true) (some ((sl [0, 1, 5, 2, 3, 24, 43] vs 5), H)) H) fun x15 H =>
  bnd (gd (wantV x9 true) (iadS 1 x14 x15 H) H) fun x16 H =>
  bnd (gd (wantV x9 true) (pS (ld1 x16 H) H) H) fun x17 H =>
  bnd (gd (wantV x9 true) (dynC Try.prog.funcs.size C x10 [x17] H) H) fun x18 H =>
  bnd (pickS x9 x18 (Value.bool false) H) fun x19 H =>
  brB x19 (bnd (some ((sl [0, 1, 5, 2, 3, 24, 43] vs 0), H)) fun x20 H =>
  bnd (pS (ld1 (sl [0, 1, 5, 2, 3, 24, 43] vs 2) H) H) fun x21 H =>
  bnd (nckS x21 H) fun x22 H =>
  bnd (fadS 0 x22 H) fun x23 H =>
  bnd (pS (ld1 x23 H) H) fun x24 H =>
  bnd (some ((sl [0, 1, 5, 2, 3, 24, 43] vs 5), H)) fun x25 H =>
  bnd (iadS 1 x24 x25 H) fun x26 H =>
  bnd (pS (ld1 x26 H) H) fun x27 H =>
  bnd (pS (ld1 (sl [0, 1, 5, 2, 3, 24, 43] vs 2) H) H) fun x28 H =>
  bnd (nckS x28 H) fun x29 H =>
  bnd (fadS 1 x29 H) fun x30 H =>
  bnd (pS (ld1 x30 H) H) fun x31 H =>
  bnd (some ((sl [0, 1, 5, 2, 3, 24, 43] vs 5), H)) fun x32 H =>
  bnd (iadS 1 x31 x32 H) fun x33 H =>
  bnd (pS (ld1 x33 H) H) fun x34 H =>
  bnd (dynC Try.prog.funcs.size C x20 [x27, x34] H) fun x35 H =>
  bnd (pS (aun .not x35) H) fun x36 H =>
  brB x36 (fin .ret [(sl [0, 1, 5, 2, 3, 24, 43] vs 0), (sl [0, 1, 5, 2, 3, 24, 43] vs 1), (sl [0, 1, 5, 2, 3, 24, 43] vs 5), (sl [0, 1, 5, 2, 3, 24, 43] vs 2), (sl [0, 1, 5, 2, 3, 24, 43] vs 3), x19, x36] H) (
  bnd (some ((sl [0, 1, 5, 2, 3, 24, 43] vs 5), H)) fun x37 H =>
  bnd (pS (abin Try.prog .add 3 x37 (Value.int .i64 (1))) H) fun x38 H =>
  bnd (some (x38, H)) fun x39 H =>
  fin .normal [(sl [0, 1, 5, 2, 3, 24, 43] vs 0), (sl [0, 1, 5, 2, 3, 24, 43] vs 1), x39, (sl [0, 1, 5, 2, 3, 24, 43] vs 2), (sl [0, 1, 5, 2, 3, 24, 43] vs 3), x19, x36] H)) (
  fin (.exit 0) [(sl [0, 1, 5, 2, 3, 24, 43] vs 0), (sl [0, 1, 5, 2, 3, 24, 43] vs 1), (sl [0, 1, 5, 2, 3, 24, 43] vs 5), (sl [0, 1, 5, 2, 3, 24, 43] vs 2), (sl [0, 1, 5, 2, 3, 24, 43] vs 3), x19, (sl [0, 1, 5, 2, 3, 24, 43] vs 43)] H)

noncomputable def F70_b0v (C : Oracle) (n : Nat) (v0 v1 v5 v2 v3 v24 v43 : Value) (H : Heap) : AOut :=
  bnd (some (v5, H)) fun x2 H =>
  bnd (pS (ld1 v2 H) H) fun x3 H =>
  bnd (nckS x3 H) fun x4 H =>
  bnd (fadS 0 x4 H) fun x5 H =>
  bnd (pS (ld1 x5 H) H) fun x6 H =>
  bnd (pS (slen x6) H) fun x7 H =>
  bnd (pS (abin Try.prog .lss 3 x2 x7) H) fun x8 H =>
  bnd (some (x8, H)) fun x9 H =>
  bnd (gd (wantV x9 true) (pS (ld1 v3 H) H) H) fun x10 H =>
  bnd (gd (wantV x9 true) (pS (ld1 v2 H) H) H) fun x11 H =>
  bnd (gd (wantV x9 true) (nckS x11 H) H) fun x12 H =>
  bnd (gd (wantV x9 true) (fadS 0 x12 H) H) fun x13 H =>
  bnd (gd (wantV x9 true) (pS (ld1 x13 H) H) H) fun x14 H =>
  bnd (gd (wantV x9 true) (some (v5, H)) H) fun x15 H =>
  bnd (gd (wantV x9 true) (iadS 1 x14 x15 H) H) fun x16 H =>
  bnd (gd (wantV x9 true) (pS (ld1 x16 H) H) H) fun x17 H =>
  bnd (gd (wantV x9 true) (dynC Try.prog.funcs.size C x10 [x17] H) H) fun x18 H =>
  bnd (pickS x9 x18 (Value.bool false) H) fun x19 H =>
  brB x19 (bnd (some (v0, H)) fun x20 H =>
  bnd (pS (ld1 v2 H) H) fun x21 H =>
  bnd (nckS x21 H) fun x22 H =>
  bnd (fadS 0 x22 H) fun x23 H =>
  bnd (pS (ld1 x23 H) H) fun x24 H =>
  bnd (some (v5, H)) fun x25 H =>
  bnd (iadS 1 x24 x25 H) fun x26 H =>
  bnd (pS (ld1 x26 H) H) fun x27 H =>
  bnd (pS (ld1 v2 H) H) fun x28 H =>
  bnd (nckS x28 H) fun x29 H =>
  bnd (fadS 1 x29 H) fun x30 H =>
  bnd (pS (ld1 x30 H) H) fun x31 H =>
  bnd (some (v5, H)) fun x32 H =>
  bnd (iadS 1 x31 x32 H) fun x33 H =>
  bnd (pS (ld1 x33 H) H) fun x34 H =>
  bnd (dynC Try.prog.funcs.size C x20 [x27, x34] H) fun x35 H =>
  bnd (pS (aun .not x35) H) fun x36 H =>
  brB x36 (fin .ret [v0, v1, v5, v2, v3, x19, x36] H) (
  bnd (some (v5, H)) fun x37 H =>
  bnd (pS (abin Try.prog .add 3 x37 (Value.int .i64 (1))) H) fun x38 H =>
  bnd (some (x38, H)) fun x39 H =>
  fin .normal [v0, v1, x39, v2, v3, x19, x36] H)) (
  fin (.exit 0) [v0, v1, v5, v2, v3, x19, v43] H)

theorem F70_b0_v (C : Oracle) (n : Nat) (v0 v1 v5 v2 v3 v24 v43 : Value) (H : Heap) : F70_b0 C n [v0, v1, v5, v2, v3, v24, v43] H = F70_b0v C n v0 v1 v5 v2 v3 v24 v43 H := by
  kernel_rfl

noncomputable def F70 (C : Oracle) (n : Nat) (a0 a1 a2 a3 : Value) (H : Heap) : Option (Value × Heap) :=
  bnd (pS (ld1 a1 H) H) fun x0 H =>
  bnd (some (x0, H)) fun x1 H =>
  onOut (iter n (F70_b0 C n) [a0, a1, x1, a2, a3, undef, undef] H) (kBlk 0 (kRet Try.prog [] [0, 1, 5, 2, 3, 24, 43]))

theorem F70_eq (G : Oracle) (n : Nat) (a0 a1 a2 a3 : Value) (H : Heap) : run G (n + 1) 70 [a0, a1, a2, a3] H = F70 (run G n) n a0 a1 a2 a3 H := by
  unfold run; rw [acall_k (fn := Try.f70) (keep := [0, 1, 5, 2, 3, 24, 43]) (notBad 70 rfl) (by kernel_rfl) (by kernel_rfl)]
  kernel_rfl

abbrev F72_st (v0 : Value := undef) (v1 : Value := undef) (v4 : Value := undef) (v8 : Value := undef) (v7 : Value := undef) (v9 : Value := undef) (v5 : Value := undef) (v16 : Value := undef) : List Value := [v0, v1, v4, v8, v7, v9, v5, v16]

noncomputable def F72_b0 (C : Oracle) (n : Nat) (vs : List Value) (H : Heap) : AOut :=
  bnd (pS (abin Try.prog .lss 3 (sl [0, 1, 4, 8, 7, 9, 5, 16] vs 8) (sl [0, 1, 4, 8, 7, 9, 5, 16] vs 7)) H) fun x4 H =>
  brB x4 (bnd (some ((sl [0, 1, 4, 8, 7, 9, 5, 16] vs 8), H)) fun x5 H =>
  bnd (some (x5, H)) fun x6 H =>
  bnd (some ((sl [0, 1, 4, 8, 7, 9, 5, 16] vs 1), H)) fun x7 H =>
  bnd (some ((sl [0, 1, 4, 8, 7, 9, 5, 16] vs 0), H)) fun x8 H =>
  bnd (some (x6, H)) fun x9 H =>
  bnd (iadS 1 x8 x9 H) fun x10 H =>
  bnd (pS (ld1 x10 H) H) fun x11 H =>
  bnd (dynC Try.prog.funcs.size C x7 [x11] H) fun x12 H =>
  brB x12 (bnd (some (x6, H)) fun x13 H =>
  bnd (some (x13, H)) fun x14 H =>
  fin .ret [(sl [0, 1, 4, 8, 7, 9, 5, 16] vs 0), (sl [0, 1, 4, 8, 7, 9, 5, 16] vs 1), x14, (sl [0, 1, 4, 8, 7, 9, 5, 16] vs 8), (sl [0, 1, 4, 8, 7, 9, 5, 16] vs 7), x4, x6, x12] H) (
  bnd (pS (abin Try.prog .add 3 (sl [0, 1, 4, 8, 7, 9, 5, 16] vs 8) (Value.int .i64 (1))) H) fun x15 H =>
  bnd (some (x15, H)) fun x16 H =>
  fin .normal [(sl [0, 1, 4, 8, 7, 9, 5, 16] vs 0), (sl [0, 1, 4, 8, 7, 9, 5, 16] vs 1), (sl [0, 1, 4, 8, 7, 9, 5, 16] vs 4), x16, (sl [0, 1, 4, 8, 7, 9, 5, 16] vs 7), x4, x6, x12] H)) (
  fin (.exit 0) [(sl [0, 1, 4, 8, 7, 9, 5, 16] vs 0), (sl [0, 1, 4, 8, 7, 9, 5, 16] vs 1), (sl [0, 1, 4, 8, 7, 9, 5, 16] vs 4), (sl [0, 1, 4, 8, 7, 9, 5, 16] vs 8), (sl [0, 1, 4, 8, 7, 9, 5, 16] vs 7), x4, (sl [0, 1, 4, 8, 7, 9, 5, 16] vs 5), (sl [0, 1, 4, 8, 7, 9, 5, 16] vs 16)] H)

noncomputable def F72_b0v (C : Oracle) (n : Nat) (v0 v1 v4 v8 v7 v9 v5 v16 : Value) (H : Heap) : AOut :=
  bnd (pS (abin Try.prog .lss 3 v8 v7) H) fun x4 H =>
  brB x4 (bnd (some (v8, H)) fun x5 H =>
  bnd (some (x5, H)) fun x6 H =>
  bnd (some (v1, H)) fun x7 H =>
  bnd (some (v0, H)) fun x8 H =>
  bnd (some (x6, H)) fun x9 H =>
  bnd (iadS 1 x8 x9 H) fun x10 H =>
  bnd (pS (ld1 x10 H) H) fun x11 H =>
  bnd (dynC Try.prog.funcs.size C x7 [x11] H) fun x12 H =>
  brB x12 (bnd (some (x6, H)) fun x13 H =>
  bnd (some (x13, H)) fun x14 H =>
  fin .ret [v0, v1, x14, v8, v7, x4, x6, x12] H) (
  bnd (pS (abin Try.prog .add 3 v8 (Value.int .i64 (1))) H) fun x15 H =>
  bnd (some (x15, H)) fun x16 H =>
  fin .normal [v0, v1, v4, x16, v7, x4, x6, x12] H)) (
  fin (.exit 0) [v0, v1, v4, v8, v7, x4, v5, v16] H)

theorem F72_b0_v (C : Oracle) (n : Nat) (v0 v1 v4 v8 v7 v9 v5 v16 : Value) (H : Heap) : F72_b0 C n [v0, v1, v4, v8, v7, v9, v5, v16] H = F72_b0v C n v0 v1 v4 v8 v7 v9 v5 v16 H := by
  kernel_rfl

noncomputable def F72_j1 (C : Oracle) (n : Nat) (vs : List Value) (H : Heap) : Option (Value × Heap) :=
  bnd (some ((Value.int .i64 (-1)), H)) fun x17 H =>
  some (x17, H)

noncomputable def F72_j1v (C : Oracle) (n : Nat) (v0 v1 v4 v8 v7 v9 v5 v16 : Value) (H : Heap) : Option (Value × Heap) :=
  bnd (some ((Value.int .i64 (-1)), H)) fun x17 H =>
  some (x17, H)

theorem F72_j1_v (C : Oracle) (n : Nat) (v0 v1 v4 v8 v7 v9 v5 v16 : Value) (H : Heap) : F72_j1 C n [v0, v1, v4, v8, v7, v9, v5, v16] H = F72_j1v C n v0 v1 v4 v8 v7 v9 v5 v16 H := by
  kernel_rfl

noncomputable def F72 (C : Oracle) (n : Nat) (a0 a1 : Value) (H : Heap) : Option (Value × Heap) :=
  bnd (some ((Value.int .i64 (0)), H)) fun x0 H =>
  bnd (some (a0, H)) fun x1 H =>
  bnd (pS (slen x1) H) fun x2 H =>
  bnd (some ((Value.int .i64 (0)), H)) fun x3 H =>
  onOut (iter n (F72_b0 C n) [a0, a1, x0, x3, x2, undef, undef, undef] H) (kBlk 0 (kSeq (F72_j1 C n) (kRet Try.prog [.tmp 4] [0, 1, 4, 8, 7, 9, 5, 16])))

theorem F72_eq (G : Oracle) (n : Nat) (a0 a1 : Value) (H : Heap) : run G (n + 1) 72 [a0, a1] H = F72 (run G n) n a0 a1 H := by
  unfold run; rw [acall_k (fn := Try.f72) (keep := [0, 1, 4, 8, 7, 9, 5, 16]) (notBad 72 rfl) (by kernel_rfl) (by kernel_rfl)]
  kernel_rfl

noncomputable def F74 (C : Oracle) (n : Nat) (a0 a1 : Value) (H : Heap) : Option (Value × Heap) :=
  bnd (some (a0, H)) fun x0 H =>
  bnd (some (a1, H)) fun x1 H =>
  bnd (pS (scut 1 H x0 none (some x1)) H) fun x2 H =>
  bnd (C 75 [x2] H) fun x3 H =>
  bnd (some (a0, H)) fun x4 H =>
  bnd (some (a1, H)) fun x5 H =>
  bnd (pS (scut 1 H x4 (some x5) none) H) fun x6 H =>
  bnd (C 75 [x6] H) fun x7 H =>
  bnd (some (a0, H)) fun x8 H =>
  bnd (C 75 [x8] H) fun x9 H =>
  some (Value.tuple #[], H)

theorem F74_eq (G : Oracle) (n : Nat) (a0 a1 : Value) (H : Heap) : run G (n + 1) 74 [a0, a1] H = F74 (run G n) n a0 a1 H := by
  unfold run; rw [acall_k (fn := Try.f74) (keep := [0, 1]) (notBad 74 rfl) (by kernel_rfl) (by kernel_rfl)]
  kernel_rfl

end Go.Proofs.Ytgakioiplkehgaa.Fun
