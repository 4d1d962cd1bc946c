/- The program's functions as plain terms, each with its equation; printed by wip/am/fun.py. -/
import Derived.Test.YtpenlcigickkbaaFunK
namespace Go.Proofs.Ytpenlcigickkbaa.Fun
open Go.RowKit Go.Proofs.YtpenlcigickkbaaA.Am
set_option linter.unusedVariables false
set_option maxRecDepth 10000
noncomputable def F4_j0 (C : Oracle) (n : Nat) (vs : List Value) (H : Heap) : Option (Value × Heap) :=
  bnd (some ((sl [0, 1, 2, 3, 8, 18, 9, 10, 29, 40, 13, 14, 15, 11, 12] vs 9), H)) fun x22 H =>
  bnd (C 21 [x22] H) fun x23 H =>
  bnd (some (x23, H)) fun x24 H =>
  bnd (some ((sl [0, 1, 2, 3, 8, 18, 9, 10, 29, 40, 13, 14, 15, 11, 12] vs 9), H)) fun x25 H =>
  bnd (C 23 [x25] H) fun x26 H =>
  bnd (some (x26, H)) fun x27 H =>
  bnd (some ((sl [0, 1, 2, 3, 8, 18, 9, 10, 29, 40, 13, 14, 15, 11, 12] vs 9), H)) fun x28 H =>
  bnd (some ((sl [0, 1, 2, 3, 8, 18, 9, 10, 29, 40, 13, 14, 15, 11, 12] vs 1), H)) fun x29 H =>
  bnd (some ((sl [0, 1, 2, 3, 8, 18, 9, 10, 29, 40, 13, 14, 15, 11, 12] vs 2), H)) fun x30 H =>
  bnd (C 24 [x28, x29, x30] H) fun x31 H =>
  bnd (some ((sl [0, 1, 2, 3, 8, 18, 9, 10, 29, 40, 13, 14, 15, 11, 12] vs 9), H)) fun x32 H =>
  bnd (some ((sl [0, 1, 2, 3, 8, 18, 9, 10, 29, 40, 13, 14, 15, 11, 12] vs 1), H)) fun x33 H =>
  bnd (some ((sl [0, 1, 2, 3, 8, 18, 9, 10, 29, 40, 13, 14, 15, 11, 12] vs 3), H)) fun x34 H =>
  bnd (C 25 [x32, x33, (Value.int .i64 (0)), x34] H) fun x35 H =>
  bnd (some (x35, H)) fun x36 H =>
  bnd (some ((sl [0, 1, 2, 3, 8, 18, 9, 10, 29, 40, 13, 14, 15, 11, 12] vs 9), H)) fun x37 H =>
  bnd (some ((sl [0, 1, 2, 3, 8, 18, 9, 10, 29, 40, 13, 14, 15, 11, 12] vs 1), H)) fun x38 H =>
  bnd (some ((sl [0, 1, 2, 3, 8, 18, 9, 10, 29, 40, 13, 14, 15, 11, 12] vs 2), H)) fun x39 H =>
  bnd (C 26 [x37, x38, x39] H) fun x40 H =>
  bnd (some (x40, H)) fun x41 H =>
  bnd (some ((sl [0, 1, 2, 3, 8, 18, 9, 10, 29, 40, 13, 14, 15, 11, 12] vs 9), H)) fun x42 H =>
  bnd (some ((sl [0, 1, 2, 3, 8, 18, 9, 10, 29, 40, 13, 14, 15, 11, 12] vs 1), H)) fun x43 H =>
  bnd (C 18 [x42, x43] H) fun x44 H =>
  bnd (some (x44, H)) fun x45 H =>
  bnd (C 19 [] H) fun x46 H =>
  bnd (some (x46, H)) fun x47 H =>
  bnd (gd (wantV x47 true) (some (x36, H)) H) fun x48 H =>
  bnd (gd (wantV x47 true) (pS (aun .not x48) H) H) fun x49 H =>
  bnd (pickS x47 x49 (Value.bool false) H) fun x50 H =>
  bnd (some (x50, H)) fun x51 H =>
  bnd (gd (wantV x51 true) (some (x41, H)) H) fun x52 H =>
  bnd (gd (wantV x51 true) (pS (abin Try.prog .eql 2 x52 (Value.int .i64 (0))) H) H) fun x53 H =>
  bnd (pickS x51 x53 (Value.bool false) H) fun x54 H =>
  bnd (some (x54, H)) fun x55 H =>
  bnd (gd (wantV x55 true) (some (x45, H)) H) fun x56 H =>
  bnd (gd (wantV x55 true) (pS (abin Try.prog .eql 2 x56 (Value.int .i64 (0))) H) H) fun x57 H =>
  bnd (pickS x55 x57 (Value.bool false) H) fun x58 H =>
  bnd (some (x58, H)) fun x59 H =>
  bnd (gd (wantV x59 true) (some ((sl [0, 1, 2, 3, 8, 18, 9, 10, 29, 40, 13, 14, 15, 11, 12] vs 9), H)) H) fun x60 H =>
  bnd (gd (wantV x59 true) (C 21 [x60] H) H) fun x61 H =>
  bnd (gd (wantV x59 true) (some (x24, H)) H) fun x62 H =>
  bnd (gd (wantV x59 true) (pS (abin Try.prog .add 3 x62 (Value.int .i64 (4))) H) H) fun x63 H =>
  bnd (gd (wantV x59 true) (pS (abin Try.prog .eql 3 x61 x63) H) H) fun x64 H =>
  bnd (pickS x59 x64 (Value.bool false) H) fun x65 H =>
  bnd (some (x65, H)) fun x66 H =>
  bnd (gd (wantV x66 true) (some ((sl [0, 1, 2, 3, 8, 18, 9, 10, 29, 40, 13, 14, 15, 11, 12] vs 9), H)) H) fun x67 H =>
  bnd (gd (wantV x66 true) (C 23 [x67] H) H) fun x68 H =>
  bnd (gd (wantV x66 true) (some (x27, H)) H) fun x69 H =>
  bnd (gd (wantV x66 true) (pS (abin Try.prog .add 3 x69 (Value.int .i64 (4))) H) H) fun x70 H =>
  bnd (gd (wantV x66 true) (pS (abin Try.prog .eql 3 x68 x70) H) H) fun x71 H =>
  bnd (pickS x66 x71 (Value.bool false) H) fun x72 H =>
  bnd (some (x72, H)) fun x73 H =>
  bnd (gd (wantV x73 true) (some ((sl [0, 1, 2, 3, 8, 18, 9, 10, 29, 40, 13, 14, 15, 11, 12] vs 9), H)) H) fun x74 H =>
  bnd (gd (wantV x73 true) (C 22 [x74] H) H) fun x75 H =>
  bnd (gd (wantV x73 true) (some ((sl [0, 1, 2, 3, 8, 18, 9, 10, 29, 40, 13, 14, 15, 11, 12] vs 0), H)) H) fun x76 H =>
  bnd (gd (wantV x73 true) (C 27 [x75, x76] H) H) fun x77 H =>
  bnd (pickS x73 x77 (Value.bool false) H) fun x78 H =>
  bnd (some (x78, H)) fun x79 H =>
  bnd (gd (wantV x79 true) (some ((sl [0, 1, 2, 3, 8, 18, 9, 10, 29, 40, 13, 14, 15, 11, 12] vs 9), H)) H) fun x80 H =>
  bnd (gd (wantV x79 true) (some ((sl [0, 1, 2, 3, 8, 18, 9, 10, 29, 40, 13, 14, 15, 11, 12] vs 1), H)) H) fun x81 H =>
  bnd (gd (wantV x79 true) (C 28 [x80, x81] H) H) fun x82 H =>
  bnd (gd (wantV x79 true) (pS (abin Try.prog .eql 2 x82 (Value.int .i64 (0))) H) H) fun x83 H =>
  bnd (pickS x79 x83 (Value.bool false) H) fun x84 H =>
  bnd (some (x84, H)) fun x85 H =>
  bnd (gd (wantV x85 true) (some ((sl [0, 1, 2, 3, 8, 18, 9, 10, 29, 40, 13, 14, 15, 11, 12] vs 9), H)) H) fun x86 H =>
  bnd (gd (wantV x85 true) (C 21 [x86] H) H) fun x87 H =>
  bnd (gd (wantV x85 true) (some (x24, H)) H) fun x88 H =>
  bnd (gd (wantV x85 true) (pS (abin Try.prog .add 3 x88 (Value.int .i64 (4))) H) H) fun x89 H =>
  bnd (gd (wantV x85 true) (pS (abin Try.prog .eql 3 x87 x89) H) H) fun x90 H =>
  bnd (pickS x85 x90 (Value.bool false) H) fun x91 H =>
  bnd (some (x91, H)) fun x92 H =>
  some (x92, H)

noncomputable def F4_j0v (C : Oracle) (n : Nat) (v0 v1 v2 v3 v8 v18 v9 v10 v29 v40 v13 v14 v15 v11 v12 : Value) (H : Heap) : Option (Value × Heap) :=
  bnd (some (v9, H)) fun x22 H =>
  bnd (C 21 [x22] H) fun x23 H =>
  bnd (some (x23, H)) fun x24 H =>
  bnd (some (v9, H)) fun x25 H =>
  bnd (C 23 [x25] H) fun x26 H =>
  bnd (some (x26, H)) fun x27 H =>
  bnd (some (v9, H)) fun x28 H =>
  bnd (some (v1, H)) fun x29 H =>
  bnd (some (v2, H)) fun x30 H =>
  bnd (C 24 [x28, x29, x30] H) fun x31 H =>
  bnd (some (v9, H)) fun x32 H =>
  bnd (some (v1, H)) fun x33 H =>
  bnd (some (v3, H)) fun x34 H =>
  bnd (C 25 [x32, x33, (Value.int .i64 (0)), x34] H) fun x35 H =>
  bnd (some (x35, H)) fun x36 H =>
  bnd (some (v9, H)) fun x37 H =>
  bnd (some (v1, H)) fun x38 H =>
  bnd (some (v2, H)) fun x39 H =>
  bnd (C 26 [x37, x38, x39] H) fun x40 H =>
  bnd (some (x40, H)) fun x41 H =>
  bnd (some (v9, H)) fun x42 H =>
  bnd (some (v1, H)) fun x43 H =>
  bnd (C 18 [x42, x43] H) fun x44 H =>
  bnd (some (x44, H)) fun x45 H =>
  bnd (C 19 [] H) fun x46 H =>
  bnd (some (x46, H)) fun x47 H =>
  bnd (gd (wantV x47 true) (some (x36, H)) H) fun x48 H =>
  bnd (gd (wantV x47 true) (pS (aun .not x48) H) H) fun x49 H =>
  bnd (pickS x47 x49 (Value.bool false) H) fun x50 H =>
  bnd (some (x50, H)) fun x51 H =>
  bnd (gd (wantV x51 true) (some (x41, H)) H) fun x52 H =>
  bnd (gd (wantV x51 true) (pS (abin Try.prog .eql 2 x52 (Value.int .i64 (0))) H) H) fun x53 H =>
  bnd (pickS x51 x53 (Value.bool false) H) fun x54 H =>
  bnd (some (x54, H)) fun x55 H =>
  bnd (gd (wantV x55 true) (some (x45, H)) H) fun x56 H =>
  bnd (gd (wantV x55 true) (pS (abin Try.prog .eql 2 x56 (Value.int .i64 (0))) H) H) fun x57 H =>
  bnd (pickS x55 x57 (Value.bool false) H) fun x58 H =>
  bnd (some (x58, H)) fun x59 H =>
  bnd (gd (wantV x59 true) (some (v9, H)) H) fun x60 H =>
  bnd (gd (wantV x59 true) (C 21 [x60] H) H) fun x61 H =>
  bnd (gd (wantV x59 true) (some (x24, H)) H) fun x62 H =>
  bnd (gd (wantV x59 true) (pS (abin Try.prog .add 3 x62 (Value.int .i64 (4))) H) H) fun x63 H =>
  bnd (gd (wantV x59 true) (pS (abin Try.prog .eql 3 x61 x63) H) H) fun x64 H =>
  bnd (pickS x59 x64 (Value.bool false) H) fun x65 H =>
  bnd (some (x65, H)) fun x66 H =>
  bnd (gd (wantV x66 true) (some (v9, H)) H) fun x67 H =>
  bnd (gd (wantV x66 true) (C 23 [x67] H) H) fun x68 H =>
  bnd (gd (wantV x66 true) (some (x27, H)) H) fun x69 H =>
  bnd (gd (wantV x66 true) (pS (abin Try.prog .add 3 x69 (Value.int .i64 (4))) H) H) fun x70 H =>
  bnd (gd (wantV x66 true) (pS (abin Try.prog .eql 3 x68 x70) H) H) fun x71 H =>
  bnd (pickS x66 x71 (Value.bool false) H) fun x72 H =>
  bnd (some (x72, H)) fun x73 H =>
  bnd (gd (wantV x73 true) (some (v9, H)) H) fun x74 H =>
  bnd (gd (wantV x73 true) (C 22 [x74] H) H) fun x75 H =>
  bnd (gd (wantV x73 true) (some (v0, H)) H) fun x76 H =>
  bnd (gd (wantV x73 true) (C 27 [x75, x76] H) H) fun x77 H =>
  bnd (pickS x73 x77 (Value.bool false) H) fun x78 H =>
  bnd (some (x78, H)) fun x79 H =>
  bnd (gd (wantV x79 true) (some (v9, H)) H) fun x80 H =>
  bnd (gd (wantV x79 true) (some (v1, H)) H) fun x81 H =>
  bnd (gd (wantV x79 true) (C 28 [x80, x81] H) H) fun x82 H =>
  bnd (gd (wantV x79 true) (pS (abin Try.prog .eql 2 x82 (Value.int .i64 (0))) H) H) fun x83 H =>
  bnd (pickS x79 x83 (Value.bool false) H) fun x84 H =>
  bnd (some (x84, H)) fun x85 H =>
  bnd (gd (wantV x85 true) (some (v9, H)) H) fun x86 H =>
  bnd (gd (wantV x85 true) (C 21 [x86] H) H) fun x87 H =>
  bnd (gd (wantV x85 true) (some (x24, H)) H) fun x88 H =>
  bnd (gd (wantV x85 true) (pS (abin Try.prog .add 3 x88 (Value.int .i64 (4))) H) H) fun x89 H =>
  bnd (gd (wantV x85 true) (pS (abin Try.prog .eql 3 x87 x89) H) H) fun x90 H =>
  bnd (pickS x85 x90 (Value.bool false) H) fun x91 H =>
  bnd (some (x91, H)) fun x92 H =>
  some (x92, H)

theorem F4_j0_v (C : Oracle) (n : Nat) (v0 v1 v2 v3 v8 v18 v9 v10 v29 v40 v13 v14 v15 v11 v12 : Value) (H : Heap) : F4_j0 C n [v0, v1, v2, v3, v8, v18, v9, v10, v29, v40, v13, v14, v15, v11, v12] H = F4_j0v C n v0 v1 v2 v3 v8 v18 v9 v10 v29 v40 v13 v14 v15 v11 v12 H := by
  kernel_rfl

noncomputable def F4 (C : Oracle) (n : Nat) (a0 a1 a2 a3 : Value) (H : Heap) : Option (Value × Heap) :=
  bnd (some ((Value.bool false), H)) fun x0 H =>
  bnd (some (a0, H)) fun x1 H =>
  bnd (pS (slen x1) H) fun x2 H =>
  bnd (pS (abin Try.prog .gtr 3 x2 (Value.int .i64 (200))) H) fun x3 H =>
  brB x3 (bnd (C 19 [] H) fun x4 H =>
  bnd (some (x4, H)) fun x5 H =>
  some (x5, H)) (
  bnd (C 16 [(Value.int .i64 (300))] H) fun x6 H =>
  bnd (some (x6, H)) fun x7 H =>
  bnd (extS 0 x7 H) fun x8 H =>
  bnd (extS 1 x7 H) fun x9 H =>
  bnd (some (x8, H)) fun x10 H =>
  bnd (some (x9, H)) fun x11 H =>
  bnd (some (x10, H)) fun x12 H =>
  bnd (pS (abin Try.prog .eql 24 x12 (Value.pointer none)) H) fun x13 H =>
  bnd (some (x13, H)) fun x14 H =>
  bnd (gd (wantV x14 false) (some (x11, H)) H) fun x15 H =>
  bnd (gd (wantV x14 false) (pS (abin Try.prog .neq 25 x15 (Value.int .i64 (0))) H) H) fun x16 H =>
  bnd (pickS x14 (Value.bool true) x16 H) fun x17 H =>
  brB x17 (bnd (some ((Value.bool false), H)) fun x18 H =>
  some (x18, H)) (
  bnd (some (x10, H)) fun x19 H =>
  bnd (some (a0, H)) fun x20 H =>
  bnd (C 17 [x19, x20] H) fun x21 H =>
  bnd (some (a1, H)) fun x93 H =>
  bnd (pS (abin Try.prog .geq 3 x93 (Value.int .i64 (1))) H) fun x94 H =>
  bnd (some (x94, H)) fun x95 H =>
  bnd (gd (wantV x95 true) (some (a1, H)) H) fun x96 H =>
  bnd (gd (wantV x95 true) (some (a0, H)) H) fun x97 H =>
  bnd (gd (wantV x95 true) (pS (slen x97) H) H) fun x98 H =>
  bnd (gd (wantV x95 true) (pS (abin Try.prog .leq 3 x96 x98) H) H) fun x99 H =>
  bnd (pickS x95 x99 (Value.bool false) H) fun x100 H =>
  brB x100 (bnd (some (a1, H)) fun x101 H =>
  bnd (pS (abin Try.prog .add 3 x101 (Value.int .i64 (300))) H) fun x102 H =>
  bnd (some (x102, H)) fun x103 H =>
  F4_j0 C n [a0, x103, a2, a3, x0, x3, x10, x11, x17, x100, undef, undef, undef, undef, undef] H) (
  F4_j0 C n [a0, a1, a2, a3, x0, x3, x10, x11, x17, x100, undef, undef, undef, undef, undef] H)))

theorem F4_eq (G : Oracle) (n : Nat) (a0 a1 a2 a3 : Value) (H : Heap) : run G (n + 1) 4 [a0, a1, a2, a3] H = F4 (run G n) n a0 a1 a2 a3 H := by
  unfold run; rw [acall_k (fn := Try.f4) (keep := [0, 1, 2, 3, 8, 18, 9, 10, 29, 40, 13, 14, 15, 11, 12]) (notBad 4 rfl) (by kernel_rfl) (by kernel_rfl)]
  kernel_rfl

end Go.Proofs.Ytpenlcigickkbaa.Fun
