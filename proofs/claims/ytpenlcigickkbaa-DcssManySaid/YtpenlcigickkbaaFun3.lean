/- The program's functions as plain terms, each with its equation; printed by wip/am/fun.py. -/
import Derived.Test.YtpenlcigickkbaaFunK
namespace Go.Proofs.Ytpenlcigickkbaa.Fun
open Go.RowKit Go.Proofs.YtpenlcigickkbaaA.Am
set_option linter.unusedVariables false
set_option maxRecDepth 10000
noncomputable def F23 (C : Oracle) (n : Nat) (a0 : Value) (H : Heap) : Option (Value × Heap) :=
  bnd (some ((Value.int .i64 (0)), H)) fun x0 H =>
  bnd (some (a0, H)) fun x1 H =>
  bnd (nckS x1 H) fun x2 H =>
  bnd (fadS 2 x2 H) fun x3 H =>
  bnd (pS (ld1 x3 H) H) fun x4 H =>
  bnd (some (x4, H)) fun x5 H =>
  some (x5, H)

theorem F23_eq (G : Oracle) (n : Nat) (a0 : Value) (H : Heap) : run G (n + 1) 23 [a0] H = F23 (run G n) n a0 H := by
  unfold run; rw [acall_k (fn := Try.f23) (keep := [0, 2]) (notBad 23 rfl) (by kernel_rfl) (by kernel_rfl)]
  kernel_rfl

noncomputable def F26 (C : Oracle) (n : Nat) (a0 a1 a2 : Value) (H : Heap) : Option (Value × Heap) :=
  bnd (some ((Value.int .i64 (0)), H)) fun x0 H =>
  bnd (some (a0, H)) fun x1 H =>
  bnd (some (a1, H)) fun x2 H =>
  bnd (C 66 [x1, x2] H) fun x3 H =>
  bnd (some (x3, H)) fun x4 H =>
  bnd (some (x4, H)) fun x5 H =>
  bnd (pS (abin Try.prog .eql 81 x5 (Value.pointer none)) H) fun x6 H =>
  brB x6 (bnd (some ((Value.int .i64 (0)), H)) fun x7 H =>
  some (x7, H)) (
  bnd (some (x4, H)) fun x8 H =>
  bnd (nckS x8 H) fun x9 H =>
  bnd (pS (ld1 x9 H) H) fun x10 H =>
  bnd (some (x10, H)) fun x11 H =>
  bnd (some (x4, H)) fun x12 H =>
  bnd (nckS x12 H) fun x13 H =>
  bnd (pS (ld1 x13 H) H) fun x14 H =>
  bnd (some (a2, H)) fun x15 H =>
  bnd (pS (abin Try.prog .add 2 x14 x15) H) fun x16 H =>
  bnd (nckS x12 H) fun x17 H =>
  bnd (stS 1 x17 x16 H) fun x18 H =>
  bnd (some (x11, H)) fun x19 H =>
  bnd (some (x19, H)) fun x20 H =>
  some (x20, H))

theorem F26_eq (G : Oracle) (n : Nat) (a0 a1 a2 : Value) (H : Heap) : run G (n + 1) 26 [a0, a1, a2] H = F26 (run G n) n a0 a1 a2 H := by
  unfold run; rw [acall_k (fn := Try.f26) (keep := [0, 1, 2, 6, 7, 13, 8]) (notBad 26 rfl) (by kernel_rfl) (by kernel_rfl)]
  kernel_rfl

noncomputable def F28 (C : Oracle) (n : Nat) (a0 a1 : Value) (H : Heap) : Option (Value × Heap) :=
  bnd (some ((Value.int .i64 (0)), H)) fun x0 H =>
  bnd (some (a1, H)) fun x1 H =>
  bnd (pS (abin Try.prog .lss 3 x1 (Value.int .i64 (1))) H) fun x2 H =>
  bnd (some (x2, H)) fun x3 H =>
  bnd (gd (wantV x3 false) (some (a1, H)) H) fun x4 H =>
  bnd (gd (wantV x3 false) (some (a0, H)) H) fun x5 H =>
  bnd (gd (wantV x3 false) (nckS x5 H) H) fun x6 H =>
  bnd (gd (wantV x3 false) (fadS 0 x6 H) H) fun x7 H =>
  bnd (gd (wantV x3 false) (pS (ld1 x7 H) H) H) fun x8 H =>
  bnd (gd (wantV x3 false) (pS (slen x8) H) H) fun x9 H =>
  bnd (gd (wantV x3 false) (pS (abin Try.prog .gtr 3 x4 x9) H) H) fun x10 H =>
  bnd (pickS x3 (Value.bool true) x10 H) fun x11 H =>
  brB x11 (bnd (some ((Value.int .i64 (0)), H)) fun x12 H =>
  some (x12, H)) (
  bnd (some (a0, H)) fun x13 H =>
  bnd (nckS x13 H) fun x14 H =>
  bnd (fadS 0 x14 H) fun x15 H =>
  bnd (pS (ld1 x15 H) H) fun x16 H =>
  bnd (some (a1, H)) fun x17 H =>
  bnd (pS (abin Try.prog .sub 3 x17 (Value.int .i64 (1))) H) fun x18 H =>
  bnd (iadS 1 x16 x18 H) fun x19 H =>
  bnd (pS (ld1 x19 H) H) fun x20 H =>
  bnd (some (x20, H)) fun x21 H =>
  some (x21, H))

theorem F28_eq (G : Oracle) (n : Nat) (a0 a1 : Value) (H : Heap) : run G (n + 1) 28 [a0, a1] H = F28 (run G n) n a0 a1 H := by
  unfold run; rw [acall_k (fn := Try.f28) (keep := [0, 1, 4, 15]) (notBad 28 rfl) (by kernel_rfl) (by kernel_rfl)]
  kernel_rfl

noncomputable def F38 (C : Oracle) (n : Nat) (a0 a1 : Value) (H : Heap) : Option (Value × Heap) :=
  bnd (some ((Value.slice none 0 0), H)) fun x0 H =>
  bnd (some (a0, H)) fun x1 H =>
  bnd (some (a1, H)) fun x2 H =>
  bnd (abuildSlice Try.prog 28 2 [(0, x1), (1, x2)] H) fun x3 H =>
  bnd (some (x3, H)) fun x4 H =>
  some (x4, H)

theorem F38_eq (G : Oracle) (n : Nat) (a0 a1 : Value) (H : Heap) : run G (n + 1) 38 [a0, a1] H = F38 (run G n) n a0 a1 H := by
  unfold run; rw [acall_k (fn := Try.f38) (keep := [0, 1, 4]) (notBad 38 rfl) (by kernel_rfl) (by kernel_rfl)]
  kernel_rfl

noncomputable def F40 (C : Oracle) (n : Nat) (H : Heap) : Option (Value × Heap) :=
  bnd (some ((Value.slice none 0 0), H)) fun x0 H =>
  bnd (abuildSlice Try.prog 28 1 [(0, (Value.int .i64 (0)))] H) fun x1 H =>
  bnd (some (x1, H)) fun x2 H =>
  some (x2, H)

theorem F40_eq (G : Oracle) (n : Nat) (H : Heap) : run G (n + 1) 40 [] H = F40 (run G n) n H := by
  unfold run; rw [acall_k (fn := Try.f40) (keep := [0]) (notBad 40 rfl) (by kernel_rfl) (by kernel_rfl)]
  kernel_rfl

noncomputable def F53 (C : Oracle) (n : Nat) (a0 : Value) (H : Heap) : Option (Value × Heap) :=
  bnd (some ((Value.int .i64 (0)), H)) fun x0 H =>
  bnd (some (a0, H)) fun x1 H =>
  bnd (C 77 [x1] H) fun x2 H =>
  bnd (some (x2, H)) fun x3 H =>
  bnd (extS 0 x3 H) fun x4 H =>
  bnd (extS 1 x3 H) fun x5 H =>
  bnd (extS 2 x3 H) fun x6 H =>
  bnd (some (x4, H)) fun x7 H =>
  bnd (some (x5, H)) fun x8 H =>
  bnd (some (x6, H)) fun x9 H =>
  bnd (some (x8, H)) fun x10 H =>
  bnd (some (x10, H)) fun x11 H =>
  some (x11, H)

theorem F53_eq (G : Oracle) (n : Nat) (a0 : Value) (H : Heap) : run G (n + 1) 53 [a0] H = F53 (run G n) n a0 H := by
  unfold run; rw [acall_k (fn := Try.f53) (keep := [0, 2, 4]) (notBad 53 rfl) (by kernel_rfl) (by kernel_rfl)]
  kernel_rfl

noncomputable def F55 (C : Oracle) (n : Nat) (a0 a1 : Value) (H : Heap) : Option (Value × Heap) :=
  bnd (some ((Value.int .i64 (0)), H)) fun x0 H =>
  bnd (some (a0, H)) fun x1 H =>
  bnd (some (a1, H)) fun x2 H =>
  bnd (C 79 [x1, x2] H) fun x3 H =>
  bnd (pS (aun .not x3) H) fun x4 H =>
  brB x4 (bnd (some ((Value.int .i64 (0)), H)) fun x5 H =>
  some (x5, H)) (
  bnd (some (a1, H)) fun x6 H =>
  bnd (pS (abin Try.prog .shl 2 x6 (Value.int .u64 (3))) H) fun x7 H =>
  bnd (some (a0, H)) fun x8 H =>
  bnd (pS (abin Try.prog .or 2 x7 x8) H) fun x9 H =>
  bnd (some (x9, H)) fun x10 H =>
  some (x10, H))

theorem F55_eq (G : Oracle) (n : Nat) (a0 a1 : Value) (H : Heap) : run G (n + 1) 55 [a0, a1] H = F55 (run G n) n a0 a1 H := by
  unfold run; rw [acall_k (fn := Try.f55) (keep := [0, 1, 4, 8]) (notBad 55 rfl) (by kernel_rfl) (by kernel_rfl)]
  kernel_rfl

abbrev F57_st (v0 : Value := undef) (v1 : Value := undef) (v4 : Value := undef) (v8 : Value := undef) (v9 : Value := undef) (v21 : Value := undef) (v32 : Value := undef) (v36 : Value := undef) (v49 : Value := undef) (v61 : Value := undef) (v73 : Value := undef) (v79 : Value := undef) (v100 : Value := undef) : List Value := [v0, v1, v4, v8, v9, v21, v32, v36, v49, v61, v73, v79, v100]

noncomputable def F57_j0 (C : Oracle) (n : Nat) (vs : List Value) (H : Heap) : Option (Value × Heap) :=
  bnd (some ((sl [0, 1, 4, 8, 9, 21, 32, 36, 49, 61, 73, 79, 100] vs 0), H)) fun x1 H =>
  bnd (nckS x1 H) fun x2 H =>
  bnd (fadS 0 x2 H) fun x3 H =>
  bnd (pS (ld1 x3 H) H) fun x4 H =>
  bnd (pS (abin Try.prog .add 3 x4 (Value.int .i64 (1))) H) fun x5 H =>
  bnd (nckS x1 H) fun x6 H =>
  bnd (fadS 0 x6 H) fun x7 H =>
  bnd (stS 1 x7 x5 H) fun x8 H =>
  bnd (some ((sl [0, 1, 4, 8, 9, 21, 32, 36, 49, 61, 73, 79, 100] vs 0), H)) fun x9 H =>
  bnd (C 78 [x9] H) fun x10 H =>
  bnd (some (x10, H)) fun x11 H =>
  some (x11, H)

noncomputable def F57_j0v (C : Oracle) (n : Nat) (v0 v1 v4 v8 v9 v21 v32 v36 v49 v61 v73 v79 v100 : Value) (H : Heap) : Option (Value × Heap) :=
  bnd (some (v0, H)) fun x1 H =>
  bnd (nckS x1 H) fun x2 H =>
  bnd (fadS 0 x2 H) fun x3 H =>
  bnd (pS (ld1 x3 H) H) fun x4 H =>
  bnd (pS (abin Try.prog .add 3 x4 (Value.int .i64 (1))) H) fun x5 H =>
  bnd (nckS x1 H) fun x6 H =>
  bnd (fadS 0 x6 H) fun x7 H =>
  bnd (stS 1 x7 x5 H) fun x8 H =>
  bnd (some (v0, H)) fun x9 H =>
  bnd (C 78 [x9] H) fun x10 H =>
  bnd (some (x10, H)) fun x11 H =>
  some (x11, H)

theorem F57_j0_v (C : Oracle) (n : Nat) (v0 v1 v4 v8 v9 v21 v32 v36 v49 v61 v73 v79 v100 : Value) (H : Heap) : F57_j0 C n [v0, v1, v4, v8, v9, v21, v32, v36, v49, v61, v73, v79, v100] H = F57_j0v C n v0 v1 v4 v8 v9 v21 v32 v36 v49 v61 v73 v79 v100 H := by
  kernel_rfl

noncomputable def F57 (C : Oracle) (n : Nat) (a0 a1 : Value) (H : Heap) : Option (Value × Heap) :=
  bnd (some ((Value.bool false), H)) fun x0 H =>
  bnd (some (a0, H)) fun x12 H =>
  bnd (nckS x12 H) fun x13 H =>
  bnd (fadS 0 x13 H) fun x14 H =>
  bnd (pS (ld1 x14 H) H) fun x15 H =>
  bnd (pS (abin Try.prog .eql 3 x15 (Value.int .i64 (0))) H) fun x16 H =>
  bnd (some (x16, H)) fun x17 H =>
  brB x17 (bnd (some (a0, H)) fun x18 H =>
  bnd (some (a1, H)) fun x19 H =>
  bnd (some (a0, H)) fun x20 H =>
  bnd (nckS x20 H) fun x21 H =>
  bnd (fadS 1 x21 H) fun x22 H =>
  bnd (pS (ld1 x22 H) H) fun x23 H =>
  bnd (pS (abin Try.prog .add 3 x23 (Value.int .i64 (0))) H) fun x24 H =>
  bnd (C 18 [x19, x24] H) fun x25 H =>
  bnd (nckS x18 H) fun x26 H =>
  bnd (fadS 2 x26 H) fun x27 H =>
  bnd (stS 1 x27 x25 H) fun x28 H =>
  F57_j0 C n [a0, a1, x0, x15, x17, undef, undef, undef, undef, undef, undef, undef, undef] H) (
  bnd (pS (abin Try.prog .eql 3 x15 (Value.int .i64 (1))) H) fun x29 H =>
  bnd (some (x29, H)) fun x30 H =>
  brB x30 (bnd (some (a0, H)) fun x31 H =>
  bnd (nckS x31 H) fun x32 H =>
  bnd (fadS 3 x32 H) fun x33 H =>
  bnd (stS 1 x33 (Value.int .i64 (1)) H) fun x34 H =>
  bnd (some (a1, H)) fun x35 H =>
  bnd (some (a0, H)) fun x36 H =>
  bnd (nckS x36 H) fun x37 H =>
  bnd (fadS 2 x37 H) fun x38 H =>
  bnd (pS (ld1 x38 H) H) fun x39 H =>
  bnd (C 18 [x35, x39] H) fun x40 H =>
  bnd (pS (abin Try.prog .neq 2 x40 (Value.int .i64 (0))) H) fun x41 H =>
  brB x41 (bnd (some (a0, H)) fun x42 H =>
  bnd (nckS x42 H) fun x43 H =>
  bnd (fadS 3 x43 H) fun x44 H =>
  bnd (stS 1 x44 (Value.int .i64 (2)) H) fun x45 H =>
  F57_j0 C n [a0, a1, x0, x15, x17, x30, x41, undef, undef, undef, undef, undef, undef] H) (
  F57_j0 C n [a0, a1, x0, x15, x17, x30, x41, undef, undef, undef, undef, undef, undef] H)) (
  bnd (pS (abin Try.prog .eql 3 x15 (Value.int .i64 (2))) H) fun x46 H =>
  bnd (some (x46, H)) fun x47 H =>
  brB x47 (bnd (some (a1, H)) fun x48 H =>
  bnd (some (a0, H)) fun x49 H =>
  bnd (nckS x49 H) fun x50 H =>
  bnd (fadS 1 x50 H) fun x51 H =>
  bnd (pS (ld1 x51 H) H) fun x52 H =>
  bnd (pS (abin Try.prog .add 3 x52 (Value.int .i64 (4))) H) fun x53 H =>
  bnd (some (a0, H)) fun x54 H =>
  bnd (nckS x54 H) fun x55 H =>
  bnd (fadS 3 x55 H) fun x56 H =>
  bnd (pS (ld1 x56 H) H) fun x57 H =>
  bnd (C 25 [x48, x53, (Value.int .i64 (0)), x57] H) fun x58 H =>
  F57_j0 C n [a0, a1, x0, x15, x17, x30, undef, x47, undef, undef, undef, undef, undef] H) (
  bnd (pS (abin Try.prog .eql 3 x15 (Value.int .i64 (3))) H) fun x59 H =>
  bnd (some (x59, H)) fun x60 H =>
  brB x60 (bnd (some (a0, H)) fun x61 H =>
  bnd (some (a1, H)) fun x62 H =>
  bnd (some (a0, H)) fun x63 H =>
  bnd (nckS x63 H) fun x64 H =>
  bnd (fadS 1 x64 H) fun x65 H =>
  bnd (pS (ld1 x65 H) H) fun x66 H =>
  bnd (pS (abin Try.prog .add 3 x66 (Value.int .i64 (4))) H) fun x67 H =>
  bnd (C 18 [x62, x67] H) fun x68 H =>
  bnd (nckS x61 H) fun x69 H =>
  bnd (fadS 3 x69 H) fun x70 H =>
  bnd (stS 1 x70 x68 H) fun x71 H =>
  F57_j0 C n [a0, a1, x0, x15, x17, x30, undef, x47, x60, undef, undef, undef, undef] H) (
  bnd (pS (abin Try.prog .eql 3 x15 (Value.int .i64 (4))) H) fun x72 H =>
  bnd (some (x72, H)) fun x73 H =>
  brB x73 (bnd (some (a0, H)) fun x74 H =>
  bnd (some (a1, H)) fun x75 H =>
  bnd (some (a0, H)) fun x76 H =>
  bnd (nckS x76 H) fun x77 H =>
  bnd (fadS 1 x77 H) fun x78 H =>
  bnd (pS (ld1 x78 H) H) fun x79 H =>
  bnd (pS (abin Try.prog .add 3 x79 (Value.int .i64 (1))) H) fun x80 H =>
  bnd (C 18 [x75, x80] H) fun x81 H =>
  bnd (nckS x74 H) fun x82 H =>
  bnd (fadS 4 x82 H) fun x83 H =>
  bnd (stS 1 x83 x81 H) fun x84 H =>
  F57_j0 C n [a0, a1, x0, x15, x17, x30, undef, x47, x60, x73, undef, undef, undef] H) (
  bnd (pS (abin Try.prog .eql 3 x15 (Value.int .i64 (5))) H) fun x85 H =>
  bnd (some (x85, H)) fun x86 H =>
  brB x86 (bnd (some (a0, H)) fun x87 H =>
  bnd (nckS x87 H) fun x88 H =>
  bnd (fadS 3 x88 H) fun x89 H =>
  bnd (pS (ld1 x89 H) H) fun x90 H =>
  bnd (pS (abin Try.prog .eql 2 x90 (Value.int .i64 (1))) H) fun x91 H =>
  brB x91 (bnd (some (a0, H)) fun x92 H =>
  bnd (some (a1, H)) fun x93 H =>
  bnd (some (a0, H)) fun x94 H =>
  bnd (nckS x94 H) fun x95 H =>
  bnd (fadS 1 x95 H) fun x96 H =>
  bnd (pS (ld1 x96 H) H) fun x97 H =>
  bnd (pS (abin Try.prog .add 3 x97 (Value.int .i64 (3))) H) fun x98 H =>
  bnd (C 18 [x93, x98] H) fun x99 H =>
  bnd (nckS x92 H) fun x100 H =>
  bnd (fadS 5 x100 H) fun x101 H =>
  bnd (stS 1 x101 x99 H) fun x102 H =>
  F57_j0 C n [a0, a1, x0, x15, x17, x30, undef, x47, x60, x73, x86, x91, undef] H) (
  bnd (some (a0, H)) fun x103 H =>
  bnd (some (a1, H)) fun x104 H =>
  bnd (some (a0, H)) fun x105 H =>
  bnd (nckS x105 H) fun x106 H =>
  bnd (fadS 1 x106 H) fun x107 H =>
  bnd (pS (ld1 x107 H) H) fun x108 H =>
  bnd (pS (abin Try.prog .add 3 x108 (Value.int .i64 (2))) H) fun x109 H =>
  bnd (C 18 [x104, x109] H) fun x110 H =>
  bnd (nckS x103 H) fun x111 H =>
  bnd (fadS 5 x111 H) fun x112 H =>
  bnd (stS 1 x112 x110 H) fun x113 H =>
  F57_j0 C n [a0, a1, x0, x15, x17, x30, undef, x47, x60, x73, x86, x91, undef] H)) (
  bnd (pS (abin Try.prog .eql 3 x15 (Value.int .i64 (6))) H) fun x114 H =>
  bnd (some (x114, H)) fun x115 H =>
  brB x115 (bnd (some (a1, H)) fun x116 Hx116 =>
  bnd (some (a0, Hx116)) fun x117 Hx117 =>
  bnd (nckS x117 Hx117) fun x118 Hx118 =>
  bnd (fadS 4 x118 Hx118) fun x119 Hx119 =>
  bnd (pS (ld1 x119 Hx119) Hx119) fun x120 Hx120 =>
  bnd (some (a0, Hx120)) fun x121 Hx121 =>
  bnd (nckS x121 Hx121) fun x122 Hx122 =>
  bnd (fadS 1 x122 Hx122) fun x123 Hx123 =>
  bnd (pS (ld1 x123 Hx123) Hx123) fun x124 Hx124 =>
  bnd (C 55 [(Value.int .i64 (5)), x124] Hx124) fun x125 Hx125 =>
  bnd (some (a0, Hx125)) fun x126 Hx126 =>
  bnd (nckS x126 Hx126) fun x127 Hx127 =>
  bnd (fadS 5 x127 Hx127) fun x128 Hx128 =>
  bnd (pS (ld1 x128 Hx128) Hx128) fun x129 Hx129 =>
  bnd (C 25 [x116, x120, x125, x129] Hx129) fun x130 Hx130 =>
  (fun H => if (cfS (some true) (some true) (pS (ld1 x119 Hx119) Hx119) (pS (ld1 x119 Hx124) Hx124) (pS (ld1 x119 Hx125) Hx125) && (cfS (some true) (some true) (pS (ld1 x128 Hx128) Hx128) (pS (ld1 x128 Hx124) Hx124) (pS (ld1 x128 Hx125) Hx125) && true)) = true then
  F57_j0 C n [a0, a1, x0, x15, x17, x30, undef, x47, x60, x73, x86, undef, x115] H else none) Hx130) (
  bnd (some ((Value.bool true), H)) fun x131 H =>
  some (x131, H))))))))

theorem F57_eq (G : Oracle) (n : Nat) (a0 a1 : Value) (H : Heap) : run G (n + 1) 57 [a0, a1] H = F57 (run G n) n a0 a1 H := by
  unfold run; rw [acall_k (fn := Try.f57) (keep := [0, 1, 4, 8, 9, 21, 32, 36, 49, 61, 73, 79, 100]) (notBad 57 rfl) (by kernel_rfl) (by kernel_rfl)]
  kernel_rfl

noncomputable def F68 (C : Oracle) (n : Nat) (a0 a1 : Value) (H : Heap) : Option (Value × Heap) :=
  bnd (boxS 42 a0 H) fun x0 H =>
  bnd (some ((Value.int .i64 (0)), H)) fun x1 H =>
  bnd (fadS 2 x0 H) fun x2 H =>
  bnd (pS (ld1 x2 H) H) fun x3 H =>
  brB x3 (bnd (fadS 1 x0 H) fun x4 H =>
  bnd (pS (ld1 x4 H) H) fun x5 H =>
  bnd (some (a1, H)) fun x6 H =>
  bnd (pS (abin Try.prog .add 3 x6 (Value.int .i64 (3))) H) fun x7 H =>
  bnd (C 15 [x5, x7] H) fun x8 H =>
  bnd (pS (abin Try.prog .sub 3 x8 (Value.int .i64 (1))) H) fun x9 H =>
  bnd (some (x9, H)) fun x10 H =>
  some (x10, H)) (
  bnd (fadS 1 x0 H) fun x11 H =>
  bnd (pS (ld1 x11 H) H) fun x12 H =>
  bnd (some (x12, H)) fun x13 H =>
  some (x13, H))

theorem F68_eq (G : Oracle) (n : Nat) (a0 a1 : Value) (H : Heap) : run G (n + 1) 68 [a0, a1] H = F68 (run G n) n a0 a1 H := by
  unfold run; rw [acall_k (fn := Try.f68) (keep := [0, 1, 4, 2, 6]) (notBad 68 rfl) (by kernel_rfl) (by kernel_rfl)]
  kernel_rfl

noncomputable def F69 (C : Oracle) (n : Nat) (a0 a1 : Value) (H : Heap) : Option (Value × Heap) :=
  bnd (some ((Value.int .i64 (0)), H)) fun x0 H =>
  bnd (some ((Value.bool false), H)) fun x1 H =>
  bnd (some (a0, H)) fun x2 H =>
  bnd (nckS x2 H) fun x3 H =>
  bnd (fadS 2 x3 H) fun x4 H =>
  bnd (pS (ld1 x4 H) H) fun x5 H =>
  bnd (pS (abin Try.prog .add 3 x5 (Value.int .i64 (1))) H) fun x6 H =>
  bnd (nckS x2 H) fun x7 H =>
  bnd (fadS 2 x7 H) fun x8 H =>
  bnd (stS 1 x8 x6 H) fun x9 H =>
  bnd (some (a1, H)) fun x10 H =>
  bnd (pS (slen x10) H) fun x11 H =>
  bnd (pS (abin Try.prog .eql 3 x11 (Value.int .i64 (0))) H) fun x12 H =>
  bnd (some (x12, H)) fun x13 H =>
  bnd (gd (wantV x13 false) (some (a1, H)) H) fun x14 H =>
  bnd (gd (wantV x13 false) (pS (slen x14) H) H) fun x15 H =>
  bnd (gd (wantV x13 false) (some (a0, H)) H) fun x16 H =>
  bnd (gd (wantV x13 false) (nckS x16 H) H) fun x17 H =>
  bnd (gd (wantV x13 false) (fadS 0 x17 H) H) fun x18 H =>
  bnd (gd (wantV x13 false) (pS (ld1 x18 H) H) H) fun x19 H =>
  bnd (gd (wantV x13 false) (some (a0, H)) H) fun x20 H =>
  bnd (gd (wantV x13 false) (nckS x20 H) H) fun x21 H =>
  bnd (gd (wantV x13 false) (fadS 1 x21 H) H) fun x22 H =>
  bnd (gd (wantV x13 false) (pS (ld1 x22 H) H) H) fun x23 H =>
  bnd (gd (wantV x13 false) (pS (slen x23) H) H) fun x24 H =>
  bnd (gd (wantV x13 false) (pS (abin Try.prog .sub 3 x19 x24) H) H) fun x25 H =>
  bnd (gd (wantV x13 false) (pS (abin Try.prog .gtr 3 x15 x25) H) H) fun x26 H =>
  bnd (pickS x13 (Value.bool true) x26 H) fun x27 H =>
  brB x27 (bnd (some (a0, H)) fun x28 H =>
  bnd (nckS x28 H) fun x29 H =>
  bnd (fadS 4 x29 H) fun x30 H =>
  bnd (pS (ld1 x30 H) H) fun x31 H =>
  bnd (pS (abin Try.prog .add 3 x31 (Value.int .i64 (1))) H) fun x32 H =>
  bnd (nckS x28 H) fun x33 H =>
  bnd (fadS 4 x33 H) fun x34 H =>
  bnd (stS 1 x34 x32 H) fun x35 H =>
  bnd (some ((Value.int .i64 (0)), H)) fun x36 H =>
  bnd (some ((Value.bool false), H)) fun x37 H =>
  some (Value.tuple #[x36, x37], H)) (
  bnd (some (a0, H)) fun x38 H =>
  bnd (nckS x38 H) fun x39 H =>
  bnd (fadS 1 x39 H) fun x40 H =>
  bnd (pS (ld1 x40 H) H) fun x41 H =>
  bnd (pS (slen x41) H) fun x42 H =>
  bnd (pS (abin Try.prog .add 3 x42 (Value.int .i64 (1))) H) fun x43 H =>
  bnd (some (x43, H)) fun x44 H =>
  bnd (some (a0, H)) fun x45 H =>
  bnd (some (a0, H)) fun x46 H =>
  bnd (nckS x46 H) fun x47 H =>
  bnd (fadS 1 x47 H) fun x48 H =>
  bnd (pS (ld1 x48 H) H) fun x49 H =>
  bnd (some (a1, H)) fun x50 H =>
  bnd (appS 2 1 8 x49 x50 H) fun x51 H =>
  bnd (nckS x45 H) fun x52 H =>
  bnd (fadS 1 x52 H) fun x53 H =>
  bnd (stS 1 x53 x51 H) fun x54 H =>
  bnd (some (x44, H)) fun x55 H =>
  bnd (some (x55, H)) fun x56 H =>
  bnd (some ((Value.bool true), H)) fun x57 H =>
  some (Value.tuple #[x56, x57], H))

theorem F69_eq (G : Oracle) (n : Nat) (a0 a1 : Value) (H : Heap) : run G (n + 1) 69 [a0, a1] H = F69 (run G n) n a0 a1 H := by
  unfold run; rw [acall_k (fn := Try.f69) (keep := [0, 1, 4, 5, 31, 6]) (notBad 69 rfl) (by kernel_rfl) (by kernel_rfl)]
  kernel_rfl

noncomputable def F78 (C : Oracle) (n : Nat) (a0 : Value) (H : Heap) : Option (Value × Heap) :=
  bnd (some ((Value.bool false), H)) fun x0 H =>
  bnd (some (a0, H)) fun x1 H =>
  bnd (nckS x1 H) fun x2 H =>
  bnd (fadS 0 x2 H) fun x3 H =>
  bnd (pS (ld1 x3 H) H) fun x4 H =>
  bnd (pS (abin Try.prog .eql 3 x4 (Value.int .i64 (7))) H) fun x5 H =>
  bnd (some (x5, H)) fun x6 H =>
  some (x6, H)

theorem F78_eq (G : Oracle) (n : Nat) (a0 : Value) (H : Heap) : run G (n + 1) 78 [a0] H = F78 (run G n) n a0 H := by
  unfold run; rw [acall_k (fn := Try.f78) (keep := [0, 2]) (notBad 78 rfl) (by kernel_rfl) (by kernel_rfl)]
  kernel_rfl

noncomputable def F81 (C : Oracle) (n : Nat) (a0 a1 : Value) (H : Heap) : Option (Value × Heap) :=
  bnd (some ((Value.bool false), H)) fun x0 H =>
  bnd (some (a0, H)) fun x1 H =>
  bnd (nckS x1 H) fun x2 H =>
  bnd (fadS 2 x2 H) fun x3 H =>
  bnd (pS (ld1 x3 H) H) fun x4 H =>
  bnd (pS (abin Try.prog .add 3 x4 (Value.int .i64 (1))) H) fun x5 H =>
  bnd (nckS x1 H) fun x6 H =>
  bnd (fadS 2 x6 H) fun x7 H =>
  bnd (stS 1 x7 x5 H) fun x8 H =>
  bnd (some (a1, H)) fun x9 H =>
  bnd (pS (abin Try.prog .lss 3 x9 (Value.int .i64 (1))) H) fun x10 H =>
  bnd (some (x10, H)) fun x11 H =>
  bnd (gd (wantV x11 false) (some (a1, H)) H) fun x12 H =>
  bnd (gd (wantV x11 false) (some (a0, H)) H) fun x13 H =>
  bnd (gd (wantV x11 false) (nckS x13 H) H) fun x14 H =>
  bnd (gd (wantV x11 false) (fadS 1 x14 H) H) fun x15 H =>
  bnd (gd (wantV x11 false) (pS (ld1 x15 H) H) H) fun x16 H =>
  bnd (gd (wantV x11 false) (pS (slen x16) H) H) fun x17 H =>
  bnd (gd (wantV x11 false) (pS (abin Try.prog .gtr 3 x12 x17) H) H) fun x18 H =>
  bnd (pickS x11 (Value.bool true) x18 H) fun x19 H =>
  brB x19 (bnd (some (a0, H)) fun x20 H =>
  bnd (nckS x20 H) fun x21 H =>
  bnd (fadS 3 x21 H) fun x22 H =>
  bnd (pS (ld1 x22 H) H) fun x23 H =>
  bnd (pS (abin Try.prog .add 3 x23 (Value.int .i64 (1))) H) fun x24 H =>
  bnd (nckS x20 H) fun x25 H =>
  bnd (fadS 3 x25 H) fun x26 H =>
  bnd (stS 1 x26 x24 H) fun x27 H =>
  bnd (some ((Value.bool false), H)) fun x28 H =>
  some (x28, H)) (
  bnd (some ((Value.bool true), H)) fun x29 H =>
  some (x29, H))

theorem F81_eq (G : Oracle) (n : Nat) (a0 a1 : Value) (H : Heap) : run G (n + 1) 81 [a0, a1] H = F81 (run G n) n a0 a1 H := by
  unfold run; rw [acall_k (fn := Try.f81) (keep := [0, 1, 4, 22]) (notBad 81 rfl) (by kernel_rfl) (by kernel_rfl)]
  kernel_rfl

end Go.Proofs.Ytpenlcigickkbaa.Fun
