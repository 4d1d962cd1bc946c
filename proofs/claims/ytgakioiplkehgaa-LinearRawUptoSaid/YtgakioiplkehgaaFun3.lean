/- The program's functions as plain terms, each with its equation; printed by wip/am/fun.py. -/
import Derived.Test.YtgakioiplkehgaaFunK
namespace Go.Proofs.Ytgakioiplkehgaa.Fun
open Go.RowKit Go.Proofs.YtgakioiplkehgaaA.Am
set_option linter.unusedVariables false
set_option maxRecDepth 10000
noncomputable def F13 (C : Oracle) (n : Nat) (a0 a1 : Value) (H : Heap) : Option (Value × Heap) :=
  bnd (boxS 23 a1 H) fun x0 H =>
  bnd (some (newBlk H 29 1 [(Value.int .i64 (0)), (Value.bool false), (Value.int .i64 (0)), (Value.int .i64 (0)), (Value.int .i64 (0)), (Value.slice none 0 0)])) fun x1 H =>
  bnd (some (a0, H)) fun x2 H =>
  bnd (C 23 [x2] H) fun x3 H =>
  bnd (some (x3, H)) fun x4 H =>
  bnd (extS 0 x4 H) fun x5 H =>
  bnd (extS 1 x4 H) fun x6 H =>
  bnd (some (x5, H)) fun x7 H =>
  bnd (some (x6, H)) fun x8 H =>
  bnd (some (x8, H)) fun x9 H =>
  bnd (pS (aun .not x9) H) fun x10 H =>
  brB x10 (bnd (pS (abuild Try.prog 29 []) H) fun x11 H =>
  bnd (stS 6 x1 x11 H) fun x12 H =>
  bnd (pS (ldn 6 x1 H) H) fun r0 _ =>
  some (r0, H)) (
  bnd (some (x7, H)) fun x13 H =>
  bnd (pS (ldn 3 x0 H) H) fun x14 H =>
  bnd (C 24 [x13, x14] H) fun x15 H =>
  bnd (stS 6 x1 x15 H) fun x16 H =>
  bnd (pS (ldn 6 x1 H) H) fun r0 _ =>
  some (r0, H))

theorem F13_eq (G : Oracle) (n : Nat) (a0 a1 : Value) (H : Heap) : run G (n + 1) 13 [a0, a1] H = F13 (run G n) n a0 a1 H := by
  unfold run; rw [acall_k (fn := Try.f13) (keep := [0, 1, 4, 6, 13, 5, 3]) (notBad 13 rfl) (by kernel_rfl) (by kernel_rfl)]
  kernel_rfl

abbrev F18_st (v0 : Value := undef) (v1 : Value := undef) (v4 : Value := undef) (v8 : Value := undef) (v7 : Value := undef) (v9 : Value := undef) (v5 : Value := undef) (v16 : Value := undef) : List Value := [v0, v1, v4, v8, v7, v9, v5, v16]

noncomputable def F18_b0 (C : Oracle) (n : Nat) (vs : List Value) (H : Heap) : AOut :=
  bnd (pS (abin Try.prog .lss 3 (sl [0, 1, 4, 8, 7, 9, 5, 16] vs 8) (sl [0, 1, 4, 8, 7, 9, 5, 16] vs 7)) H) fun x4 H =>
  brB x4 (bnd (some ((sl [0, 1, 4, 8, 7, 9, 5, 16] vs 8), H)) fun x5 H =>
  bnd (some (x5, H)) fun x6 H =>
  bnd (some ((sl [0, 1, 4, 8, 7, 9, 5, 16] vs 1), H)) fun x7 H =>
  bnd (some ((sl [0, 1, 4, 8, 7, 9, 5, 16] vs 0), H)) fun x8 H =>
  bnd (some (x6, H)) fun x9 H =>
  bnd (iadS 13 x8 x9 H) fun x10 H =>
  bnd (pS (ldn 13 x10 H) H) fun x11 H =>
  bnd (dynC Try.prog.funcs.size C x7 [x11] H) fun x12 H =>
  brB x12 (bnd (some (x6, H)) fun x13 H =>
  bnd (some (x13, H)) fun x14 H =>
  fin .ret [(sl [0, 1, 4, 8, 7, 9, 5, 16] vs 0), (sl [0, 1, 4, 8, 7, 9, 5, 16] vs 1), x14, (sl [0, 1, 4, 8, 7, 9, 5, 16] vs 8), (sl [0, 1, 4, 8, 7, 9, 5, 16] vs 7), x4, x6, x12] H) (
  bnd (pS (abin Try.prog .add 3 (sl [0, 1, 4, 8, 7, 9, 5, 16] vs 8) (Value.int .i64 (1))) H) fun x15 H =>
  bnd (some (x15, H)) fun x16 H =>
  fin .normal [(sl [0, 1, 4, 8, 7, 9, 5, 16] vs 0), (sl [0, 1, 4, 8, 7, 9, 5, 16] vs 1), (sl [0, 1, 4, 8, 7, 9, 5, 16] vs 4), x16, (sl [0, 1, 4, 8, 7, 9, 5, 16] vs 7), x4, x6, x12] H)) (
  fin (.exit 0) [(sl [0, 1, 4, 8, 7, 9, 5, 16] vs 0), (sl [0, 1, 4, 8, 7, 9, 5, 16] vs 1), (sl [0, 1, 4, 8, 7, 9, 5, 16] vs 4), (sl [0, 1, 4, 8, 7, 9, 5, 16] vs 8), (sl [0, 1, 4, 8, 7, 9, 5, 16] vs 7), x4, (sl [0, 1, 4, 8, 7, 9, 5, 16] vs 5), (sl [0, 1, 4, 8, 7, 9, 5, 16] vs 16)] H)

noncomputable def F18_b0v (C : Oracle) (n : Nat) (v0 v1 v4 v8 v7 v9 v5 v16 : Value) (H : Heap) : AOut :=
  bnd (pS (abin Try.prog .lss 3 v8 v7) H) fun x4 H =>
  brB x4 (bnd (some (v8, H)) fun x5 H =>
  bnd (some (x5, H)) fun x6 H =>
  bnd (some (v1, H)) fun x7 H =>
  bnd (some (v0, H)) fun x8 H =>
  bnd (some (x6, H)) fun x9 H =>
  bnd (iadS 13 x8 x9 H) fun x10 H =>
  bnd (pS (ldn 13 x10 H) H) fun x11 H =>
  bnd (dynC Try.prog.funcs.size C x7 [x11] H) fun x12 H =>
  brB x12 (bnd (some (x6, H)) fun x13 H =>
  bnd (some (x13, H)) fun x14 H =>
  fin .ret [v0, v1, x14, v8, v7, x4, x6, x12] H) (
  bnd (pS (abin Try.prog .add 3 v8 (Value.int .i64 (1))) H) fun x15 H =>
  bnd (some (x15, H)) fun x16 H =>
  fin .normal [v0, v1, v4, x16, v7, x4, x6, x12] H)) (
  fin (.exit 0) [v0, v1, v4, v8, v7, x4, v5, v16] H)

theorem F18_b0_v (C : Oracle) (n : Nat) (v0 v1 v4 v8 v7 v9 v5 v16 : Value) (H : Heap) : F18_b0 C n [v0, v1, v4, v8, v7, v9, v5, v16] H = F18_b0v C n v0 v1 v4 v8 v7 v9 v5 v16 H := by
  kernel_rfl

noncomputable def F18_j1 (C : Oracle) (n : Nat) (vs : List Value) (H : Heap) : Option (Value × Heap) :=
  bnd (some ((Value.int .i64 (-1)), H)) fun x17 H =>
  some (x17, H)

noncomputable def F18_j1v (C : Oracle) (n : Nat) (v0 v1 v4 v8 v7 v9 v5 v16 : Value) (H : Heap) : Option (Value × Heap) :=
  bnd (some ((Value.int .i64 (-1)), H)) fun x17 H =>
  some (x17, H)

theorem F18_j1_v (C : Oracle) (n : Nat) (v0 v1 v4 v8 v7 v9 v5 v16 : Value) (H : Heap) : F18_j1 C n [v0, v1, v4, v8, v7, v9, v5, v16] H = F18_j1v C n v0 v1 v4 v8 v7 v9 v5 v16 H := by
  kernel_rfl

noncomputable def F18 (C : Oracle) (n : Nat) (a0 a1 : Value) (H : Heap) : Option (Value × Heap) :=
  bnd (some ((Value.int .i64 (0)), H)) fun x0 H =>
  bnd (some (a0, H)) fun x1 H =>
  bnd (pS (slen x1) H) fun x2 H =>
  bnd (some ((Value.int .i64 (0)), H)) fun x3 H =>
  onOut (iter n (F18_b0 C n) [a0, a1, x0, x3, x2, undef, undef, undef] H) (kBlk 0 (kSeq (F18_j1 C n) (kRet Try.prog [.tmp 4] [0, 1, 4, 8, 7, 9, 5, 16])))

theorem F18_eq (G : Oracle) (n : Nat) (a0 a1 : Value) (H : Heap) : run G (n + 1) 18 [a0, a1] H = F18 (run G n) n a0 a1 H := by
  unfold run; rw [acall_k (fn := Try.f18) (keep := [0, 1, 4, 8, 7, 9, 5, 16]) (notBad 18 rfl) (by kernel_rfl) (by kernel_rfl)]
  kernel_rfl

noncomputable def F19 (C : Oracle) (n : Nat) (a0 a1 : Value) (H : Heap) : Option (Value × Heap) :=
  bnd (boxS 31 a0 H) fun x0 H =>
  bnd (some ((Value.bool false), H)) fun x1 H =>
  bnd (pS (ld1 a1 H) H) fun x2 H =>
  bnd (pS (ldn 13 x0 H) H) fun x3 H =>
  bnd (C 20 [x2, x3] H) fun x4 H =>
  bnd (pS (aun .not x4) H) fun x5 H =>
  bnd (some (x5, H)) fun x6 H =>
  some (x6, H)

theorem F19_eq (G : Oracle) (n : Nat) (a0 a1 : Value) (H : Heap) : run G (n + 1) 19 [a0, a1] H = F19 (run G n) n a0 a1 H := by
  unfold run; rw [acall_k (fn := Try.f19) (keep := [0, 3, 1, 2]) (notBad 19 rfl) (by kernel_rfl) (by kernel_rfl)]
  kernel_rfl

noncomputable def F21 (C : Oracle) (n : Nat) (a0 a1 : Value) (H : Heap) : Option (Value × Heap) :=
  bnd (boxS 31 a1 H) fun x0 H =>
  bnd (some ((Value.bool false), H)) fun x1 H =>
  bnd (some (a0, H)) fun x2 H =>
  bnd (nckS x2 H) fun x3 H =>
  bnd (fadS 1 x3 H) fun x4 H =>
  bnd (pS (ld1 x4 H) H) fun x5 H =>
  bnd (fadS 1 x0 H) fun x6 H =>
  bnd (pS (ld1 x6 H) H) fun x7 H =>
  bnd (C 38 [x5, x7] H) fun x8 H =>
  bnd (some (x8, H)) fun x9 H =>
  bnd (fadS 0 x0 H) fun x10 H =>
  bnd (pS (ld1 x10 H) H) fun x11 H =>
  bnd (pS (abin Try.prog .eql 3 x11 (Value.int .i64 (4))) H) fun x12 H =>
  bnd (some (x12, H)) fun x13 H =>
  brB x13 (bnd (some (a0, H)) fun x14 H =>
  bnd (nckS x14 H) fun x15 H =>
  bnd (fadS 1 x15 H) fun x16 H =>
  bnd (pS (ld1 x16 H) H) fun x17 H =>
  bnd (pS (slen x17) H) fun x18 H =>
  bnd (pS (abin Try.prog .gtr 3 x18 (Value.int .i64 (0))) H) fun x19 H =>
  bnd (some (x19, H)) fun x20 H =>
  bnd (gd (wantV x20 false) (some (a0, H)) H) fun x21 H =>
  bnd (gd (wantV x20 false) (nckS x21 H) H) fun x22 H =>
  bnd (gd (wantV x20 false) (fadS 0 x22 H) H) fun x23 H =>
  bnd (gd (wantV x20 false) (pS (ld1 x23 H) H) H) fun x24 H =>
  bnd (gd (wantV x20 false) (pS (slen x24) H) H) fun x25 H =>
  bnd (gd (wantV x20 false) (pS (abin Try.prog .gtr 3 x25 (Value.int .i64 (0))) H) H) fun x26 H =>
  bnd (pickS x20 (Value.bool true) x26 H) fun x27 H =>
  bnd (some (x27, H)) fun x28 H =>
  bnd (gd (wantV x28 false) (fadS 6 x0 H) H) fun x29 H =>
  bnd (gd (wantV x28 false) (fadS 5 x29 H) H) fun x30 H =>
  bnd (gd (wantV x28 false) (pS (ld1 x30 H) H) H) fun x31 H =>
  bnd (gd (wantV x28 false) (C 25 [x31] H) H) fun x32 H =>
  bnd (gd (wantV x28 false) (pS (aun .not x32) H) H) fun x33 H =>
  bnd (pickS x28 (Value.bool true) x33 H) fun x34 H =>
  brB x34 (bnd (some ((Value.bool false), H)) fun x35 H =>
  some (x35, H)) (
  bnd (some (a0, H)) fun x36 H =>
  bnd (abuildSlice Try.prog 27 0 [] H) fun x37 H =>
  bnd (fadS 6 x0 H) fun x38 H =>
  bnd (fadS 5 x38 H) fun x39 H =>
  bnd (pS (ld1 x39 H) H) fun x40 H =>
  bnd (appS 26 2 16 x37 x40 H) fun x41 H =>
  bnd (nckS x36 H) fun x42 H =>
  bnd (fadS 0 x42 H) fun x43 H =>
  bnd (stS 1 x43 x41 H) fun x44 H =>
  bnd (some ((Value.bool true), H)) fun x45 H =>
  some (x45, H))) (
  bnd (pS (abin Try.prog .eql 3 x11 (Value.int .i64 (1))) H) fun x46 H =>
  bnd (some (x46, H)) fun x47 H =>
  brB x47 (bnd (fadS 1 x0 H) fun x48 H =>
  bnd (pS (ld1 x48 H) H) fun x49 H =>
  bnd (pS (abin Try.prog .lss 3 x49 (Value.int .i64 (0))) H) fun x50 H =>
  bnd (some (x50, H)) fun x51 H =>
  bnd (gd (wantV x51 false) (some (x9, H)) H) fun x52 H =>
  bnd (gd (wantV x51 false) (pS (abin Try.prog .geq 3 x52 (Value.int .i64 (0))) H) H) fun x53 H =>
  bnd (pickS x51 (Value.bool true) x53 H) fun x54 H =>
  bnd (some (x54, H)) fun x55 H =>
  bnd (gd (wantV x55 false) (fadS 3 x0 H) H) fun x56 H =>
  bnd (gd (wantV x55 false) (fadS 0 x56 H) H) fun x57 H =>
  bnd (gd (wantV x55 false) (pS (ld1 x57 H) H) H) fun x58 H =>
  bnd (gd (wantV x55 false) (pS (abin Try.prog .lss 3 x58 (Value.int .i64 (1))) H) H) fun x59 H =>
  bnd (pickS x55 (Value.bool true) x59 H) fun x60 H =>
  bnd (some (x60, H)) fun x61 H =>
  bnd (gd (wantV x61 false) (fadS 3 x0 H) H) fun x62 H =>
  bnd (gd (wantV x61 false) (fadS 0 x62 H) H) fun x63 H =>
  bnd (gd (wantV x61 false) (pS (ld1 x63 H) H) H) fun x64 H =>
  bnd (gd (wantV x61 false) (pS (abin Try.prog .gtr 3 x64 (Value.int .i64 (10))) H) H) fun x65 H =>
  bnd (pickS x61 (Value.bool true) x65 H) fun x66 H =>
  bnd (some (x66, H)) fun x67 H =>
  bnd (gd (wantV x67 false) (fadS 2 x0 H) H) fun x68 H =>
  bnd (gd (wantV x67 false) (pS (ld1 x68 H) H) H) fun x69 H =>
  bnd (gd (wantV x67 false) (some (a0, H)) H) fun x70 H =>
  bnd (gd (wantV x67 false) (nckS x70 H) H) fun x71 H =>
  bnd (gd (wantV x67 false) (fadS 2 x71 H) H) fun x72 H =>
  bnd (gd (wantV x67 false) (pS (ld1 x72 H) H) H) fun x73 H =>
  bnd (gd (wantV x67 false) (pS (abin Try.prog .neq 3 x69 x73) H) H) fun x74 H =>
  bnd (pickS x67 (Value.bool true) x74 H) fun x75 H =>
  brB x75 (bnd (some ((Value.bool false), H)) fun x76 H =>
  some (x76, H)) (
  bnd (some (a0, H)) fun x77 H =>
  bnd (nckS x77 H) fun x78 H =>
  bnd (fadS 2 x78 H) fun x79 H =>
  bnd (pS (ld1 x79 H) H) fun x80 H =>
  bnd (pS (abin Try.prog .add 3 x80 (Value.int .i64 (1))) H) fun x81 H =>
  bnd (nckS x77 H) fun x82 H =>
  bnd (fadS 2 x82 H) fun x83 H =>
  bnd (stS 1 x83 x81 H) fun x84 H =>
  bnd (some (a0, H)) fun x85 Hx85 =>
  bnd (some (a0, Hx85)) fun x86 Hx86 =>
  bnd (nckS x86 Hx86) fun x87 Hx87 =>
  bnd (fadS 1 x87 Hx87) fun x88 Hx88 =>
  bnd (pS (ld1 x88 Hx88) Hx88) fun x89 Hx89 =>
  bnd (fadS 1 x0 Hx89) fun x90 Hx90 =>
  bnd (pS (ld1 x90 Hx90) Hx90) fun x91 Hx91 =>
  bnd (fadS 2 x0 Hx91) fun x92 Hx92 =>
  bnd (pS (ld1 x92 Hx92) Hx92) fun x93 Hx93 =>
  bnd (fadS 3 x0 Hx93) fun x94 Hx94 =>
  bnd (pS (ldn 3 x94 Hx94) Hx94) fun x95 Hx95 =>
  bnd (some (a0, Hx95)) fun x96 Hx96 =>
  bnd (nckS x96 Hx96) fun x97 Hx97 =>
  bnd (fadS 0 x97 Hx97) fun x98 Hx98 =>
  bnd (pS (ld1 x98 Hx98) Hx98) fun x99 Hx99 =>
  bnd (abuildSlice Try.prog 76 1 [(0, x99)] Hx99) fun x100 Hx100 =>
  bnd (pS (abuild Try.prog 78 [(0, x91), (1, x93), (2, x95), (5, x100)]) Hx100) fun x101 Hx101 =>
  bnd (abuildSlice Try.prog 59 1 [(0, x101)] Hx101) fun x102 Hx102 =>
  bnd (appS 78 8 96 x89 x102 Hx102) fun x103 Hx103 =>
  bnd (nckS x85 Hx103) fun x104 Hx104 =>
  bnd (fadS 1 x104 Hx104) fun x105 Hx105 =>
  bnd (stS 1 x105 x103 Hx105) fun x106 Hx106 =>
  if (cfS (some true) (some true) (pS (ld1 x88 Hx88) Hx88) (pS (ld1 x88 Hx99) Hx99) (pS (ld1 x88 Hx100) Hx100) && (cfS (some true) (some true) (pS (ld1 x88 Hx88) Hx88) (pS (ld1 x88 Hx101) Hx101) (pS (ld1 x88 Hx102) Hx102) && (cfS (some true) (some true) (pS (ld1 x90 Hx90) Hx90) (pS (ld1 x90 Hx99) Hx99) (pS (ld1 x90 Hx100) Hx100) && (cfS (some true) (some true) (pS (ld1 x92 Hx92) Hx92) (pS (ld1 x92 Hx99) Hx99) (pS (ld1 x92 Hx100) Hx100) && (cfS (some true) (some true) (pS (ldn 3 x94 Hx94) Hx94) (pS (ldn 3 x94 Hx99) Hx99) (pS (ldn 3 x94 Hx100) Hx100) && true))))) = true then (fun H =>
  bnd (some ((Value.bool true), H)) fun x107 H =>
  some (x107, H)) Hx106 else none)) (
  bnd (pS (abin Try.prog .eql 3 x11 (Value.int .i64 (2))) H) fun x108 H =>
  bnd (some (x108, H)) fun x109 H =>
  brB x109 (bnd (some (a0, H)) fun x110 H =>
  bnd (pS (ldn 13 x0 H) H) fun x111 H =>
  bnd (C 39 [x110, x111] H) fun x112 H =>
  bnd (some (x112, H)) fun x113 H =>
  some (x113, H)) (
  bnd (pS (abin Try.prog .eql 3 x11 (Value.int .i64 (3))) H) fun x114 H =>
  bnd (some (x114, H)) fun x115 H =>
  brB x115 (bnd (some (x9, H)) fun x116 H =>
  bnd (pS (abin Try.prog .lss 3 x116 (Value.int .i64 (0))) H) fun x117 H =>
  bnd (some (x117, H)) fun x118 H =>
  bnd (gd (wantV x118 false) (fadS 2 x0 H) H) fun x119 H =>
  bnd (gd (wantV x118 false) (pS (ld1 x119 H) H) H) fun x120 H =>
  bnd (gd (wantV x118 false) (some (a0, H)) H) fun x121 H =>
  bnd (gd (wantV x118 false) (nckS x121 H) H) fun x122 H =>
  bnd (gd (wantV x118 false) (fadS 1 x122 H) H) fun x123 H =>
  bnd (gd (wantV x118 false) (pS (ld1 x123 H) H) H) fun x124 H =>
  bnd (gd (wantV x118 false) (some (x9, H)) H) fun x125 H =>
  bnd (gd (wantV x118 false) (iadS 8 x124 x125 H) H) fun x126 H =>
  bnd (gd (wantV x118 false) (fadS 1 x126 H) H) fun x127 H =>
  bnd (gd (wantV x118 false) (pS (ld1 x127 H) H) H) fun x128 H =>
  bnd (gd (wantV x118 false) (pS (abin Try.prog .neq 3 x120 x128) H) H) fun x129 H =>
  bnd (pickS x118 (Value.bool true) x129 H) fun x130 H =>
  bnd (some (x130, H)) fun x131 H =>
  bnd (gd (wantV x131 false) (fadS 6 x0 H) H) fun x132 H =>
  bnd (gd (wantV x131 false) (pS (ldn 6 x132 H) H) H) fun x133 H =>
  bnd (gd (wantV x131 false) (some (a0, H)) H) fun x134 H =>
  bnd (gd (wantV x131 false) (nckS x134 H) H) fun x135 H =>
  bnd (gd (wantV x131 false) (fadS 1 x135 H) H) fun x136 H =>
  bnd (gd (wantV x131 false) (pS (ld1 x136 H) H) H) fun x137 H =>
  bnd (gd (wantV x131 false) (some (x9, H)) H) fun x138 H =>
  bnd (gd (wantV x131 false) (iadS 8 x137 x138 H) H) fun x139 H =>
  bnd (gd (wantV x131 false) (pS (ldn 8 x139 H) H) H) fun x140 H =>
  bnd (gd (wantV x131 false) (C 40 [x133, x140] H) H) fun x141 H =>
  bnd (gd (wantV x131 false) (pS (aun .not x141) H) H) fun x142 H =>
  bnd (pickS x131 (Value.bool true) x142 H) fun x143 H =>
  brB x143 (bnd (some ((Value.bool false), H)) fun x144 H =>
  some (x144, H)) (
  bnd (abuildSlice Try.prog 59 0 [] H) fun x145 H =>
  bnd (some (a0, H)) fun x146 H =>
  bnd (nckS x146 H) fun x147 H =>
  bnd (fadS 1 x147 H) fun x148 H =>
  bnd (pS (ld1 x148 H) H) fun x149 H =>
  bnd (some (x9, H)) fun x150 H =>
  bnd (pS (scut 8 H x149 none (some x150)) H) fun x151 H =>
  bnd (appS 78 8 96 x145 x151 H) fun x152 H =>
  bnd (some (x152, H)) fun x153 H =>
  bnd (some (a0, H)) fun x154 H =>
  bnd (some (x153, H)) fun x155 H =>
  bnd (some (a0, H)) fun x156 H =>
  bnd (nckS x156 H) fun x157 H =>
  bnd (fadS 1 x157 H) fun x158 H =>
  bnd (pS (ld1 x158 H) H) fun x159 H =>
  bnd (some (x9, H)) fun x160 H =>
  bnd (pS (abin Try.prog .add 3 x160 (Value.int .i64 (1))) H) fun x161 H =>
  bnd (pS (scut 8 H x159 (some x161) none) H) fun x162 H =>
  bnd (appS 78 8 96 x155 x162 H) fun x163 H =>
  bnd (nckS x154 H) fun x164 H =>
  bnd (fadS 1 x164 H) fun x165 H =>
  bnd (stS 1 x165 x163 H) fun x166 H =>
  bnd (some ((Value.bool true), H)) fun x167 H =>
  some (x167, H))) (
  bnd (some ((Value.bool false), H)) fun x168 H =>
  some (x168, H)))))

theorem F21_eq (G : Oracle) (n : Nat) (a0 a1 : Value) (H : Heap) : run G (n + 1) 21 [a0, a1] H = F21 (run G n) n a0 a1 H := by
  unfold run; rw [acall_k (fn := Try.f21) (keep := [0, 1, 4, 3, 15, 16, 38, 47, 5, 76, 105, 110, 139, 6]) (notBad 21 rfl) (by kernel_rfl) (by kernel_rfl)]
  kernel_rfl

abbrev F22_st (v0 : Value := undef) (v1 : Value := undef) (v2 : Value := undef) (v6 : Value := undef) (v7 : Value := undef) (v8 : Value := undef) (v35 : Value := undef) : List Value := [v0, v1, v2, v6, v7, v8, v35]

noncomputable def F22_j0 (C : Oracle) (n : Nat) (vs : List Value) (H : Heap) : Option (Value × Heap) :=
  bnd (some ((sl [0, 1, 2, 6, 7, 8, 35] vs 8), H)) fun x18 H =>
  bnd (some ((sl [0, 1, 2, 6, 7, 8, 35] vs 0), H)) fun x19 H =>
  bnd (some ((sl [0, 1, 2, 6, 7, 8, 35] vs 7), H)) fun x20 H =>
  bnd (pS (scut 2 H x19 (some x20) none) H) fun x21 H =>
  bnd (appS 26 2 16 x18 x21 H) fun x22 H =>
  bnd (some (x22, H)) fun x23 H =>
  some (x23, H)

noncomputable def F22_j0v (C : Oracle) (n : Nat) (v0 v1 v2 v6 v7 v8 v35 : Value) (H : Heap) : Option (Value × Heap) :=
  bnd (some (v8, H)) fun x18 H =>
  bnd (some (v0, H)) fun x19 H =>
  bnd (some (v7, H)) fun x20 H =>
  bnd (pS (scut 2 H x19 (some x20) none) H) fun x21 H =>
  bnd (appS 26 2 16 x18 x21 H) fun x22 H =>
  bnd (some (x22, H)) fun x23 H =>
  some (x23, H)

theorem F22_j0_v (C : Oracle) (n : Nat) (v0 v1 v2 v6 v7 v8 v35 : Value) (H : Heap) : F22_j0 C n [v0, v1, v2, v6, v7, v8, v35] H = F22_j0v C n v0 v1 v2 v6 v7 v8 v35 H := by
  kernel_rfl

noncomputable def F22 (C : Oracle) (n : Nat) (a0 a1 a2 : Value) (H : Heap) : Option (Value × Heap) :=
  bnd (some ((Value.slice none 0 0), H)) fun x0 H =>
  bnd (some (a0, H)) fun x1 H =>
  bnd (some (a1, H)) fun x2 H =>
  bnd (C 41 [x1, x2] H) fun x3 H =>
  bnd (some (x3, H)) fun x4 H =>
  bnd (abuildSlice Try.prog 27 0 [] H) fun x5 H =>
  bnd (some (a0, H)) fun x6 H =>
  bnd (some (x4, H)) fun x7 H =>
  bnd (pS (scut 2 H x6 none (some x7)) H) fun x8 H =>
  bnd (appS 26 2 16 x5 x8 H) fun x9 H =>
  bnd (some (x9, H)) fun x10 H =>
  bnd (some (x10, H)) fun x11 H =>
  bnd (some (a1, H)) fun x12 H =>
  bnd (some (a2, H)) fun x13 H =>
  bnd (pS (abuild Try.prog 26 [(0, x12), (1, x13)]) H) fun x14 H =>
  bnd (abuildSlice Try.prog 27 1 [(0, x14)] H) fun x15 H =>
  bnd (appS 26 2 16 x11 x15 H) fun x16 H =>
  bnd (some (x16, H)) fun x17 H =>
  bnd (some (x4, H)) fun x24 H =>
  bnd (some (a0, H)) fun x25 H =>
  bnd (pS (slen x25) H) fun x26 H =>
  bnd (pS (abin Try.prog .lss 3 x24 x26) H) fun x27 H =>
  bnd (some (x27, H)) fun x28 H =>
  bnd (gd (wantV x28 true) (some (a0, H)) H) fun x29 H =>
  bnd (gd (wantV x28 true) (some (x4, H)) H) fun x30 H =>
  bnd (gd (wantV x28 true) (iadS 2 x29 x30 H) H) fun x31 H =>
  bnd (gd (wantV x28 true) (fadS 0 x31 H) H) fun x32 H =>
  bnd (gd (wantV x28 true) (pS (ld1 x32 H) H) H) fun x33 H =>
  bnd (gd (wantV x28 true) (some (a1, H)) H) fun x34 H =>
  bnd (gd (wantV x28 true) (pS (abin Try.prog .eql 2 x33 x34) H) H) fun x35 H =>
  bnd (pickS x28 x35 (Value.bool false) H) fun x36 H =>
  brB x36 (bnd (some (x4, H)) fun x37 H =>
  bnd (pS (abin Try.prog .add 3 x37 (Value.int .i64 (1))) H) fun x38 H =>
  bnd (some (x38, H)) fun x39 H =>
  F22_j0 C n [a0, a1, a2, x0, x39, x17, x36] H) (
  F22_j0 C n [a0, a1, a2, x0, x4, x17, x36] H)

theorem F22_eq (G : Oracle) (n : Nat) (a0 a1 a2 : Value) (H : Heap) : run G (n + 1) 22 [a0, a1, a2] H = F22 (run G n) n a0 a1 a2 H := by
  unfold run; rw [acall_k (fn := Try.f22) (keep := [0, 1, 2, 6, 7, 8, 35]) (notBad 22 rfl) (by kernel_rfl) (by kernel_rfl)]
  kernel_rfl

noncomputable def F29 (C : Oracle) (n : Nat) (a0 a1 : Value) (H : Heap) : Option (Value × Heap) :=
  bnd (some (newBlk H 26 1 [(Value.int .i64 (0)), (Value.int .i64 (0))])) fun x0 H =>
  bnd (some ((Value.bool false), H)) fun x1 H =>
  bnd (some (a0, H)) fun x2 H =>
  bnd (some (a1, H)) fun x3 H =>
  bnd (C 41 [x2, x3] H) fun x4 H =>
  bnd (some (x4, H)) fun x5 H =>
  bnd (some (x5, H)) fun x6 H =>
  bnd (some (a0, H)) fun x7 H =>
  bnd (pS (slen x7) H) fun x8 H =>
  bnd (pS (abin Try.prog .eql 3 x6 x8) H) fun x9 H =>
  brB x9 (bnd (pS (abuild Try.prog 26 []) H) fun x10 H =>
  bnd (stS 2 x0 x10 H) fun x11 H =>
  bnd (some ((Value.bool false), H)) fun x12 H =>
  bnd (pS (ldn 2 x0 H) H) fun r0 _ =>
  some (Value.tuple #[r0, x12], H)) (
  bnd (some (a0, H)) fun x13 H =>
  bnd (some (x5, H)) fun x14 H =>
  bnd (iadS 2 x13 x14 H) fun x15 H =>
  bnd (pS (ldn 2 x15 H) H) fun x16 H =>
  bnd (stS 2 x0 x16 H) fun x17 H =>
  bnd (some ((Value.bool true), H)) fun x18 H =>
  bnd (pS (ldn 2 x0 H) H) fun r0 _ =>
  some (Value.tuple #[r0, x18], H))

theorem F29_eq (G : Oracle) (n : Nat) (a0 a1 : Value) (H : Heap) : run G (n + 1) 29 [a0, a1] H = F29 (run G n) n a0 a1 H := by
  unfold run; rw [acall_k (fn := Try.f29) (keep := [0, 1, 4, 5, 6, 13]) (notBad 29 rfl) (by kernel_rfl) (by kernel_rfl)]
  kernel_rfl

abbrev F32_st (v0 : Value := undef) (v1 : Value := undef) (v4 : Value := undef) (v3 : Value := undef) (v9 : Value := undef) (v15 : Value := undef) (v5 : Value := undef) : List Value := [v0, v1, v4, v3, v9, v15, v5]

noncomputable def F32_j0 (C : Oracle) (n : Nat) (vs : List Value) (H : Heap) : Option (Value × Heap) :=
  bnd (some ((sl [0, 1, 4, 3, 9, 15, 5] vs 5), H)) fun x11 H =>
  bnd (some (x11, H)) fun x12 H =>
  some (x12, H)

noncomputable def F32_j0v (C : Oracle) (n : Nat) (v0 v1 v4 v3 v9 v15 v5 : Value) (H : Heap) : Option (Value × Heap) :=
  bnd (some (v5, H)) fun x11 H =>
  bnd (some (x11, H)) fun x12 H =>
  some (x12, H)

theorem F32_j0_v (C : Oracle) (n : Nat) (v0 v1 v4 v3 v9 v15 v5 : Value) (H : Heap) : F32_j0 C n [v0, v1, v4, v3, v9, v15, v5] H = F32_j0v C n v0 v1 v4 v3 v9 v15 v5 H := by
  kernel_rfl

noncomputable def F32 (C : Oracle) (n : Nat) (a0 a1 : Value) (H : Heap) : Option (Value × Heap) :=
  bnd (boxS 23 a1 H) fun x0 H =>
  bnd (some ((Value.pointer none), H)) fun x1 H =>
  bnd (some (a0, H)) fun x2 H =>
  bnd (pS (ldn 3 x0 H) H) fun x3 H =>
  bnd (C 48 [x2, x3] H) fun x4 H =>
  bnd (pS (aun .not x4) H) fun x5 H =>
  brB x5 (bnd (some (a0, H)) fun x6 H =>
  bnd (some (x6, H)) fun x7 H =>
  some (x7, H)) (
  bnd (some (a0, H)) fun x8 H =>
  bnd (C 49 [x8] H) fun x9 H =>
  bnd (some (x9, H)) fun x10 H =>
  bnd (fadS 0 x0 H) fun x13 H =>
  bnd (pS (ld1 x13 H) H) fun x14 H =>
  bnd (pS (abin Try.prog .eql 3 x14 (Value.int .i64 (3))) H) fun x15 H =>
  brB x15 (bnd (some (x10, H)) fun x16 H =>
  bnd (fadS 1 x0 H) fun x17 H =>
  bnd (pS (ld1 x17 H) H) fun x18 H =>
  bnd (C 50 [x16, x18] H) fun x19 H =>
  F32_j0 C n [a0, a1, x1, x0, x5, x15, x10] H) (
  bnd (some (x10, H)) fun x20 H =>
  bnd (fadS 1 x0 H) fun x21 H =>
  bnd (pS (ld1 x21 H) H) fun x22 H =>
  bnd (fadS 2 x0 H) fun x23 H =>
  bnd (pS (ld1 x23 H) H) fun x24 H =>
  bnd (C 42 [x20, x22, x24] H) fun x25 H =>
  F32_j0 C n [a0, a1, x1, x0, x5, x15, x10] H))

theorem F32_eq (G : Oracle) (n : Nat) (a0 a1 : Value) (H : Heap) : run G (n + 1) 32 [a0, a1] H = F32 (run G n) n a0 a1 H := by
  unfold run; rw [acall_k (fn := Try.f32) (keep := [0, 1, 4, 3, 9, 15, 5]) (notBad 32 rfl) (by kernel_rfl) (by kernel_rfl)]
  kernel_rfl

noncomputable def F36 (C : Oracle) (n : Nat) (a0 a1 : Value) (H : Heap) : Option (Value × Heap) :=
  bnd (boxS 31 a1 H) fun x0 H =>
  bnd (some ((Value.bool false), H)) fun x1 H =>
  bnd (some (a0, H)) fun x2 H =>
  bnd (nckS x2 H) fun x3 H =>
  bnd (fadS 1 x3 H) fun x4 H =>
  bnd (pS (ld1 x4 H) H) fun x5 H =>
  bnd (fadS 1 x0 H) fun x6 H =>
  bnd (pS (ld1 x6 H) H) fun x7 H =>
  bnd (pS (mlook .i64 (Value.pointer none) false x5 x7 H) H) fun x8 H =>
  bnd (some (x8, H)) fun x9 H =>
  bnd (some (x9, H)) fun x10 Hx10 =>
  bnd (pS (abin Try.prog .eql 92 x10 (Value.pointer none)) Hx10) fun x11 Hx11 =>
  bnd (some (x11, Hx11)) fun x12 Hx12 =>
  bnd (gd (wantV x12 false) (some (x9, Hx12)) Hx12) fun x13 Hx13 =>
  bnd (gd (wantV x12 false) (nckS x13 Hx13) Hx13) fun x14 Hx14 =>
  bnd (gd (wantV x12 false) (fadS 3 x14 Hx14) Hx14) fun x15 Hx15 =>
  bnd (gd (wantV x12 false) (pS (ld1 x15 Hx15) Hx15) Hx15) fun x16 Hx16 =>
  bnd (gd (wantV x12 false) (fadS 2 x0 Hx16) Hx16) fun x17 Hx17 =>
  bnd (gd (wantV x12 false) (pS (ld1 x17 Hx17) Hx17) Hx17) fun x18 Hx18 =>
  bnd (gd (wantV x12 false) (pS (abin Try.prog .neq 3 x16 x18) Hx18) Hx18) fun x19 Hx19 =>
  bnd (pickS x12 (Value.bool true) x19 Hx19) fun x20 Hx20 =>
  bnd (some (x20, Hx20)) fun x21 Hx21 =>
  bnd (gd (wantV x21 false) (some (x9, Hx21)) Hx21) fun x22 Hx22 =>
  bnd (gd (wantV x21 false) (nckS x22 Hx22) Hx22) fun x23 Hx23 =>
  bnd (gd (wantV x21 false) (fadS 5 x23 Hx23) Hx23) fun x24 Hx24 =>
  bnd (gd (wantV x21 false) (pS (ld1 x24 Hx24) Hx24) Hx24) fun x25 Hx25 =>
  bnd (pickS x21 (Value.bool true) x25 Hx25) fun x26 Hx26 =>
  bnd (some (x26, Hx26)) fun x27 Hx27 =>
  bnd (gd (wantV x27 false) (some (a0, Hx27)) Hx27) fun x28 Hx28 =>
  bnd (gd (wantV x27 false) (C 51 [x28] Hx28) Hx28) fun x29 Hx29 =>
  bnd (gd (wantV x27 false) (some (x9, Hx29)) Hx29) fun x30 Hx30 =>
  bnd (gd (wantV x27 false) (nckS x30 Hx30) Hx30) fun x31 Hx31 =>
  bnd (gd (wantV x27 false) (fadS 0 x31 Hx31) Hx31) fun x32 Hx32 =>
  bnd (gd (wantV x27 false) (pS (ldn 3 x32 Hx32) Hx32) Hx32) fun x33 Hx33 =>
  bnd (gd (wantV x27 false) (C 48 [x29, x33] Hx33) Hx33) fun x34 Hx34 =>
  bnd (gd (wantV x27 false) (pS (aun .not x34) Hx34) Hx34) fun x35 Hx35 =>
  bnd (pickS x27 (Value.bool true) x35 Hx35) fun x36 Hx36 =>
  if (cfS (wantV x27 false) (wantV x27 false) (pS (ldn 3 x32 Hx32) Hx32) (pS (ldn 3 x32 Hx28) Hx28) (pS (ldn 3 x32 Hx29) Hx29) && true) = true then (fun H =>
  brB x36 (bnd (some ((Value.bool false), H)) fun x37 H =>
  some (x37, H)) (
  bnd (some (x9, H)) fun x38 Hx38 =>
  bnd (some (x9, Hx38)) fun x39 Hx39 =>
  bnd (some (a0, Hx39)) fun x40 Hx40 =>
  bnd (C 51 [x40] Hx40) fun x41 Hx41 =>
  bnd (some (x9, Hx41)) fun x42 Hx42 =>
  bnd (nckS x42 Hx42) fun x43 Hx43 =>
  bnd (fadS 0 x43 Hx43) fun x44 Hx44 =>
  bnd (pS (ldn 3 x44 Hx44) Hx44) fun x45 Hx45 =>
  bnd (C 24 [x41, x45] Hx45) fun x46 Hx46 =>
  bnd (nckS x38 Hx46) fun x47 Hx47 =>
  bnd (fadS 5 x47 Hx47) fun x48 Hx48 =>
  bnd (stS 1 x48 (Value.bool true) Hx48) fun x49 Hx49 =>
  bnd (nckS x39 Hx49) fun x50 Hx50 =>
  bnd (fadS 6 x50 Hx50) fun x51 Hx51 =>
  bnd (stS 6 x51 x46 Hx51) fun x52 Hx52 =>
  if (cfS (some true) (some true) (pS (ldn 3 x44 Hx44) Hx44) (pS (ldn 3 x44 Hx40) Hx40) (pS (ldn 3 x44 Hx41) Hx41) && true) = true then (fun H =>
  bnd (some (a0, H)) fun x53 Hx53 =>
  bnd (some (a0, Hx53)) fun x54 Hx54 =>
  bnd (nckS x54 Hx54) fun x55 Hx55 =>
  bnd (fadS 0 x55 Hx55) fun x56 Hx56 =>
  bnd (pS (ld1 x56 Hx56) Hx56) fun x57 Hx57 =>
  bnd (some (a0, Hx57)) fun x58 Hx58 =>
  bnd (C 51 [x58] Hx58) fun x59 Hx59 =>
  bnd (some (x9, Hx59)) fun x60 Hx60 =>
  bnd (nckS x60 Hx60) fun x61 Hx61 =>
  bnd (fadS 0 x61 Hx61) fun x62 Hx62 =>
  bnd (pS (ldn 3 x62 Hx62) Hx62) fun x63 Hx63 =>
  bnd (C 32 [x59, x63] Hx63) fun x64 Hx64 =>
  bnd (abuildSlice Try.prog 52 1 [(0, x64)] Hx64) fun x65 Hx65 =>
  bnd (appS 48 1 8 x57 x65 Hx65) fun x66 Hx66 =>
  bnd (nckS x53 Hx66) fun x67 Hx67 =>
  bnd (fadS 0 x67 Hx67) fun x68 Hx68 =>
  bnd (stS 1 x68 x66 Hx68) fun x69 Hx69 =>
  if (cfS (some true) (some true) (pS (ld1 x56 Hx56) Hx56) (pS (ld1 x56 Hx58) Hx58) (pS (ld1 x56 Hx59) Hx59) && (cfS (some true) (some true) (pS (ld1 x56 Hx56) Hx56) (pS (ld1 x56 Hx63) Hx63) (pS (ld1 x56 Hx64) Hx64) && (cfS (some true) (some true) (pS (ld1 x56 Hx56) Hx56) (pS (ld1 x56 Hx64) Hx64) (pS (ld1 x56 Hx65) Hx65) && (cfS (some true) (some true) (pS (ldn 3 x62 Hx62) Hx62) (pS (ldn 3 x62 Hx58) Hx58) (pS (ldn 3 x62 Hx59) Hx59) && true)))) = true then (fun H =>
  bnd (some ((Value.bool true), H)) fun x70 H =>
  some (x70, H)) Hx69 else none) Hx52 else none)) Hx36 else none

theorem F36_eq (G : Oracle) (n : Nat) (a0 a1 : Value) (H : Heap) : run G (n + 1) 36 [a0, a1] H = F36 (run G n) n a0 a1 H := by
  unfold run; rw [acall_k (fn := Try.f36) (keep := [0, 1, 4, 3, 5, 39]) (notBad 36 rfl) (by kernel_rfl) (by kernel_rfl)]
  kernel_rfl

abbrev F39_st (v0 : Value := undef) (v1 : Value := undef) (v4 : Value := undef) (v3 : Value := undef) (v5 : Value := undef) (v53 : Value := undef) (v6 : Value := undef) (v8 : Value := undef) (v86 : Value := undef) (v9 : Value := undef) (v120 : Value := undef) : List Value := [v0, v1, v4, v3, v5, v53, v6, v8, v86, v9, v120]

noncomputable def F39_b0 (C : Oracle) (n : Nat) (vs : List Value) (H : Heap) : AOut :=
  bnd (some ((sl [0, 1, 4, 3, 5, 53, 6, 8, 86, 9, 120] vs 9), H)) fun x117 H =>
  bnd (some ((sl [0, 1, 4, 3, 5, 53, 6, 8, 86, 9, 120] vs 0), H)) fun x118 H =>
  bnd (nckS x118 H) fun x119 H =>
  bnd (fadS 1 x119 H) fun x120 H =>
  bnd (pS (ld1 x120 H) H) fun x121 H =>
  bnd (pS (slen x121) H) fun x122 H =>
  bnd (pS (abin Try.prog .lss 3 x117 x122) H) fun x123 H =>
  brB x123 (bnd (some ((sl [0, 1, 4, 3, 5, 53, 6, 8, 86, 9, 120] vs 0), H)) fun x124 Hx124 =>
  bnd (nckS x124 Hx124) fun x125 Hx125 =>
  bnd (fadS 1 x125 Hx125) fun x126 Hx126 =>
  bnd (pS (ld1 x126 Hx126) Hx126) fun x127 Hx127 =>
  bnd (some ((sl [0, 1, 4, 3, 5, 53, 6, 8, 86, 9, 120] vs 9), Hx127)) fun x128 Hx128 =>
  bnd (some ((sl [0, 1, 4, 3, 5, 53, 6, 8, 86, 9, 120] vs 0), Hx128)) fun x129 Hx129 =>
  bnd (nckS x129 Hx129) fun x130 Hx130 =>
  bnd (fadS 1 x130 Hx130) fun x131 Hx131 =>
  bnd (pS (ld1 x131 Hx131) Hx131) fun x132 Hx132 =>
  bnd (some ((sl [0, 1, 4, 3, 5, 53, 6, 8, 86, 9, 120] vs 9), Hx132)) fun x133 Hx133 =>
  bnd (iadS 8 x132 x133 Hx133) fun x134 Hx134 =>
  bnd (fadS 7 x134 Hx134) fun x135 Hx135 =>
  bnd (pS (ld1 x135 Hx135) Hx135) fun x136 Hx136 =>
  bnd (some ((sl [0, 1, 4, 3, 5, 53, 6, 8, 86, 9, 120] vs 0), Hx136)) fun x137 Hx137 =>
  bnd (nckS x137 Hx137) fun x138 Hx138 =>
  bnd (fadS 0 x138 Hx138) fun x139 Hx139 =>
  bnd (pS (ld1 x139 Hx139) Hx139) fun x140 Hx140 =>
  bnd (abuildSlice Try.prog 76 1 [(0, x140)] Hx140) fun x141 Hx141 =>
  bnd (appS 27 1 24 x136 x141 Hx141) fun x142 Hx142 =>
  bnd (iadS 8 x127 x128 Hx142) fun x143 Hx143 =>
  bnd (fadS 7 x143 Hx143) fun x144 Hx144 =>
  bnd (stS 1 x144 x142 Hx144) fun x145 Hx145 =>
  if (cfS (some true) (some true) (pS (ld1 x126 Hx126) Hx126) (pS (ld1 x126 Hx140) Hx140) (pS (ld1 x126 Hx141) Hx141) && (cfS (some true) (some true) (pS (ld1 x126 Hx126) Hx126) (pS (ld1 x126 Hx141) Hx141) (pS (ld1 x126 Hx142) Hx142) && (cfS (some true) (some true) (pS (ld1 x131 Hx131) Hx131) (pS (ld1 x131 Hx140) Hx140) (pS (ld1 x131 Hx141) Hx141) && (cfS (some true) (some true) (pS (ld1 x135 Hx135) Hx135) (pS (ld1 x135 Hx140) Hx140) (pS (ld1 x135 Hx141) Hx141) && true)))) = true then (fun H =>
  bnd (some ((sl [0, 1, 4, 3, 5, 53, 6, 8, 86, 9, 120] vs 9), H)) fun x146 H =>
  bnd (pS (abin Try.prog .add 3 x146 (Value.int .i64 (1))) H) fun x147 H =>
  bnd (some (x147, H)) fun x148 H =>
  fin .normal [(sl [0, 1, 4, 3, 5, 53, 6, 8, 86, 9, 120] vs 0), (sl [0, 1, 4, 3, 5, 53, 6, 8, 86, 9, 120] vs 1), (sl [0, 1, 4, 3, 5, 53, 6, 8, 86, 9, 120] vs 4), (sl [0, 1, 4, 3, 5, 53, 6, 8, 86, 9, 120] vs 3), (sl [0, 1, 4, 3, 5, 53, 6, 8, 86, 9, 120] vs 5), (sl [0, 1, 4, 3, 5, 53, 6, 8, 86, 9, 120] vs 53), (sl [0, 1, 4, 3, 5, 53, 6, 8, 86, 9, 120] vs 6), (sl [0, 1, 4, 3, 5, 53, 6, 8, 86, 9, 120] vs 8), (sl [0, 1, 4, 3, 5, 53, 6, 8, 86, 9, 120] vs 86), x148, x123] H) Hx145 else none) (
  fin (.exit 0) [(sl [0, 1, 4, 3, 5, 53, 6, 8, 86, 9, 120] vs 0), (sl [0, 1, 4, 3, 5, 53, 6, 8, 86, 9, 120] vs 1), (sl [0, 1, 4, 3, 5, 53, 6, 8, 86, 9, 120] vs 4), (sl [0, 1, 4, 3, 5, 53, 6, 8, 86, 9, 120] vs 3), (sl [0, 1, 4, 3, 5, 53, 6, 8, 86, 9, 120] vs 5), (sl [0, 1, 4, 3, 5, 53, 6, 8, 86, 9, 120] vs 53), (sl [0, 1, 4, 3, 5, 53, 6, 8, 86, 9, 120] vs 6), (sl [0, 1, 4, 3, 5, 53, 6, 8, 86, 9, 120] vs 8), (sl [0, 1, 4, 3, 5, 53, 6, 8, 86, 9, 120] vs 86), (sl [0, 1, 4, 3, 5, 53, 6, 8, 86, 9, 120] vs 9), x123] H)

noncomputable def F39_b0v (C : Oracle) (n : Nat) (v0 v1 v4 v3 v5 v53 v6 v8 v86 v9 v120 : Value) (H : Heap) : AOut :=
  bnd (some (v9, H)) fun x117 H =>
  bnd (some (v0, H)) fun x118 H =>
  bnd (nckS x118 H) fun x119 H =>
  bnd (fadS 1 x119 H) fun x120 H =>
  bnd (pS (ld1 x120 H) H) fun x121 H =>
  bnd (pS (slen x121) H) fun x122 H =>
  bnd (pS (abin Try.prog .lss 3 x117 x122) H) fun x123 H =>
  brB x123 (bnd (some (v0, H)) fun x124 Hx124 =>
  bnd (nckS x124 Hx124) fun x125 Hx125 =>
  bnd (fadS 1 x125 Hx125) fun x126 Hx126 =>
  bnd (pS (ld1 x126 Hx126) Hx126) fun x127 Hx127 =>
  bnd (some (v9, Hx127)) fun x128 Hx128 =>
  bnd (some (v0, Hx128)) fun x129 Hx129 =>
  bnd (nckS x129 Hx129) fun x130 Hx130 =>
  bnd (fadS 1 x130 Hx130) fun x131 Hx131 =>
  bnd (pS (ld1 x131 Hx131) Hx131) fun x132 Hx132 =>
  bnd (some (v9, Hx132)) fun x133 Hx133 =>
  bnd (iadS 8 x132 x133 Hx133) fun x134 Hx134 =>
  bnd (fadS 7 x134 Hx134) fun x135 Hx135 =>
  bnd (pS (ld1 x135 Hx135) Hx135) fun x136 Hx136 =>
  bnd (some (v0, Hx136)) fun x137 Hx137 =>
  bnd (nckS x137 Hx137) fun x138 Hx138 =>
  bnd (fadS 0 x138 Hx138) fun x139 Hx139 =>
  bnd (pS (ld1 x139 Hx139) Hx139) fun x140 Hx140 =>
  bnd (abuildSlice Try.prog 76 1 [(0, x140)] Hx140) fun x141 Hx141 =>
  bnd (appS 27 1 24 x136 x141 Hx141) fun x142 Hx142 =>
  bnd (iadS 8 x127 x128 Hx142) fun x143 Hx143 =>
  bnd (fadS 7 x143 Hx143) fun x144 Hx144 =>
  bnd (stS 1 x144 x142 Hx144) fun x145 Hx145 =>
  if (cfS (some true) (some true) (pS (ld1 x126 Hx126) Hx126) (pS (ld1 x126 Hx140) Hx140) (pS (ld1 x126 Hx141) Hx141) && (cfS (some true) (some true) (pS (ld1 x126 Hx126) Hx126) (pS (ld1 x126 Hx141) Hx141) (pS (ld1 x126 Hx142) Hx142) && (cfS (some true) (some true) (pS (ld1 x131 Hx131) Hx131) (pS (ld1 x131 Hx140) Hx140) (pS (ld1 x131 Hx141) Hx141) && (cfS (some true) (some true) (pS (ld1 x135 Hx135) Hx135) (pS (ld1 x135 Hx140) Hx140) (pS (ld1 x135 Hx141) Hx141) && true)))) = true then (fun H =>
  bnd (some (v9, H)) fun x146 H =>
  bnd (pS (abin Try.prog .add 3 x146 (Value.int .i64 (1))) H) fun x147 H =>
  bnd (some (x147, H)) fun x148 H =>
  fin .normal [v0, v1, v4, v3, v5, v53, v6, v8, v86, x148, x123] H) Hx145 else none) (
  fin (.exit 0) [v0, v1, v4, v3, v5, v53, v6, v8, v86, v9, x123] H)

theorem F39_b0_v (C : Oracle) (n : Nat) (v0 v1 v4 v3 v5 v53 v6 v8 v86 v9 v120 : Value) (H : Heap) : F39_b0 C n [v0, v1, v4, v3, v5, v53, v6, v8, v86, v9, v120] H = F39_b0v C n v0 v1 v4 v3 v5 v53 v6 v8 v86 v9 v120 H := by
  kernel_rfl

noncomputable def F39_j1 (C : Oracle) (n : Nat) (vs : List Value) (H : Heap) : Option (Value × Heap) :=
  bnd (some ((Value.bool true), H)) fun x149 H =>
  some (x149, H)

noncomputable def F39_j1v (C : Oracle) (n : Nat) (v0 v1 v4 v3 v5 v53 v6 v8 v86 v9 v120 : Value) (H : Heap) : Option (Value × Heap) :=
  bnd (some ((Value.bool true), H)) fun x149 H =>
  some (x149, H)

theorem F39_j1_v (C : Oracle) (n : Nat) (v0 v1 v4 v3 v5 v53 v6 v8 v86 v9 v120 : Value) (H : Heap) : F39_j1 C n [v0, v1, v4, v3, v5, v53, v6, v8, v86, v9, v120] H = F39_j1v C n v0 v1 v4 v3 v5 v53 v6 v8 v86 v9 v120 H := by
  kernel_rfl

noncomputable def F39 (C : Oracle) (n : Nat) (a0 a1 : Value) (H : Heap) : Option (Value × Heap) :=
  bnd (boxS 31 a1 H) fun x0 H =>
  bnd (some ((Value.bool false), H)) fun x1 H =>
  bnd (some (a0, H)) fun x2 H =>
  bnd (nckS x2 H) fun x3 H =>
  bnd (fadS 1 x3 H) fun x4 H =>
  bnd (pS (ld1 x4 H) H) fun x5 H =>
  bnd (fadS 1 x0 H) fun x6 H =>
  bnd (pS (ld1 x6 H) H) fun x7 H =>
  bnd (C 38 [x5, x7] H) fun x8 H =>
  bnd (some (x8, H)) fun x9 H =>
  bnd (some (x9, H)) fun x10 H =>
  bnd (pS (abin Try.prog .lss 3 x10 (Value.int .i64 (0))) H) fun x11 H =>
  bnd (some (x11, H)) fun x12 H =>
  bnd (gd (wantV x12 false) (some (a0, H)) H) fun x13 H =>
  bnd (gd (wantV x12 false) (nckS x13 H) H) fun x14 H =>
  bnd (gd (wantV x12 false) (fadS 1 x14 H) H) fun x15 H =>
  bnd (gd (wantV x12 false) (pS (ld1 x15 H) H) H) fun x16 H =>
  bnd (gd (wantV x12 false) (some (x9, H)) H) fun x17 H =>
  bnd (gd (wantV x12 false) (iadS 8 x16 x17 H) H) fun x18 H =>
  bnd (gd (wantV x12 false) (fadS 5 x18 H) H) fun x19 H =>
  bnd (gd (wantV x12 false) (pS (ld1 x19 H) H) H) fun x20 H =>
  bnd (pickS x12 (Value.bool true) x20 H) fun x21 H =>
  bnd (some (x21, H)) fun x22 H =>
  bnd (gd (wantV x22 false) (some (a0, H)) H) fun x23 H =>
  bnd (gd (wantV x22 false) (nckS x23 H) H) fun x24 H =>
  bnd (gd (wantV x22 false) (fadS 1 x24 H) H) fun x25 H =>
  bnd (gd (wantV x22 false) (pS (ld1 x25 H) H) H) fun x26 H =>
  bnd (gd (wantV x22 false) (some (x9, H)) H) fun x27 H =>
  bnd (gd (wantV x22 false) (iadS 8 x26 x27 H) H) fun x28 H =>
  bnd (gd (wantV x22 false) (fadS 2 x28 H) H) fun x29 H =>
  bnd (gd (wantV x22 false) (pS (ldn 3 x29 H) H) H) fun x30 H =>
  bnd (gd (wantV x22 false) (C 54 [x30] H) H) fun x31 H =>
  bnd (gd (wantV x22 false) (pS (aun .not x31) H) H) fun x32 H =>
  bnd (pickS x22 (Value.bool true) x32 H) fun x33 H =>
  bnd (some (x33, H)) fun x34 H =>
  bnd (gd (wantV x34 false) (fadS 2 x0 H) H) fun x35 H =>
  bnd (gd (wantV x34 false) (pS (ld1 x35 H) H) H) fun x36 H =>
  bnd (gd (wantV x34 false) (some (a0, H)) H) fun x37 H =>
  bnd (gd (wantV x34 false) (nckS x37 H) H) fun x38 H =>
  bnd (gd (wantV x34 false) (fadS 1 x38 H) H) fun x39 H =>
  bnd (gd (wantV x34 false) (pS (ld1 x39 H) H) H) fun x40 H =>
  bnd (gd (wantV x34 false) (some (x9, H)) H) fun x41 H =>
  bnd (gd (wantV x34 false) (iadS 8 x40 x41 H) H) fun x42 H =>
  bnd (gd (wantV x34 false) (fadS 1 x42 H) H) fun x43 H =>
  bnd (gd (wantV x34 false) (pS (ld1 x43 H) H) H) fun x44 H =>
  bnd (gd (wantV x34 false) (pS (abin Try.prog .neq 3 x36 x44) H) H) fun x45 H =>
  bnd (pickS x34 (Value.bool true) x45 H) fun x46 H =>
  brB x46 (bnd (some ((Value.bool false), H)) fun x47 H =>
  some (x47, H)) (
  bnd (some (a0, H)) fun x48 H =>
  bnd (nckS x48 H) fun x49 H =>
  bnd (fadS 1 x49 H) fun x50 H =>
  bnd (pS (ld1 x50 H) H) fun x51 H =>
  bnd (some (x9, H)) fun x52 H =>
  bnd (iadS 8 x51 x52 H) fun x53 H =>
  bnd (fadS 2 x53 H) fun x54 H =>
  bnd (pS (ldn 3 x54 H) H) fun x55 H =>
  bnd (some (newBlk H 23 1 [(Value.int .i64 (0)), (Value.int .i64 (0)), (Value.int .i64 (0))])) fun x56 H =>
  bnd (stS 3 x56 x55 H) fun x57 H =>
  bnd (some (a0, H)) fun x58 H =>
  bnd (nckS x58 H) fun x59 H =>
  bnd (fadS 0 x59 H) fun x60 H =>
  bnd (pS (ld1 x60 H) H) fun x61 H =>
  bnd (fadS 1 x56 H) fun x62 H =>
  bnd (pS (ld1 x62 H) H) fun x63 H =>
  bnd (C 26 [x61, x63] H) fun x64 H =>
  bnd (some (x64, H)) fun x65 H =>
  bnd (extS 0 x65 H) fun x66 H =>
  bnd (extS 1 x65 H) fun x67 H =>
  bnd (some (x66, H)) fun x68 H =>
  bnd (some (x67, H)) fun x69 H =>
  bnd (fadS 0 x56 H) fun x70 H =>
  bnd (pS (ld1 x70 H) H) fun x71 H =>
  bnd (pS (abin Try.prog .eql 3 x71 (Value.int .i64 (1))) H) fun x72 H =>
  bnd (some (x72, H)) fun x73 H =>
  bnd (gd (wantV x73 true) (some (x69, H)) H) fun x74 H =>
  bnd (pickS x73 x74 (Value.bool false) H) fun x75 H =>
  bnd (some (x75, H)) fun x76 H =>
  bnd (gd (wantV x76 false) (fadS 0 x56 H) H) fun x77 H =>
  bnd (gd (wantV x76 false) (pS (ld1 x77 H) H) H) fun x78 H =>
  bnd (gd (wantV x76 false) (pS (abin Try.prog .eql 3 x78 (Value.int .i64 (3))) H) H) fun x79 H =>
  bnd (gd (wantV x76 false) (some (x79, H)) H) fun x80 H =>
  bnd (gd (wantV x80 true) (some (x69, H)) H) fun x81 H =>
  bnd (gd (wantV x80 true) (pS (aun .not x81) H) H) fun x82 H =>
  bnd (gd (wantV x76 false) (pickS x80 x82 (Value.bool false) H) H) fun x83 H =>
  bnd (pickS x76 (Value.bool true) x83 H) fun x84 H =>
  brB x84 (bnd (some ((Value.bool false), H)) fun x85 H =>
  some (x85, H)) (
  bnd (some (a0, H)) fun x86 H =>
  bnd (nckS x86 H) fun x87 H =>
  bnd (fadS 1 x87 H) fun x88 H =>
  bnd (pS (ld1 x88 H) H) fun x89 H =>
  bnd (some (x9, H)) fun x90 H =>
  bnd (iadS 8 x89 x90 H) fun x91 H =>
  bnd (fadS 5 x91 H) fun x92 H =>
  bnd (stS 1 x92 (Value.bool true) H) fun x93 H =>
  bnd (some (a0, H)) fun x94 H =>
  bnd (nckS x94 H) fun x95 H =>
  bnd (fadS 1 x95 H) fun x96 H =>
  bnd (pS (ld1 x96 H) H) fun x97 H =>
  bnd (some (x9, H)) fun x98 H =>
  bnd (some (a0, H)) fun x99 H =>
  bnd (nckS x99 H) fun x100 H =>
  bnd (fadS 0 x100 H) fun x101 H =>
  bnd (pS (ld1 x101 H) H) fun x102 H =>
  bnd (iadS 8 x97 x98 H) fun x103 H =>
  bnd (fadS 6 x103 H) fun x104 H =>
  bnd (stS 1 x104 x102 H) fun x105 H =>
  bnd (some (a0, H)) fun x106 H =>
  bnd (some (a0, H)) fun x107 H =>
  bnd (nckS x107 H) fun x108 H =>
  bnd (fadS 0 x108 H) fun x109 H =>
  bnd (pS (ld1 x109 H) H) fun x110 H =>
  bnd (pS (ldn 3 x56 H) H) fun x111 H =>
  bnd (C 17 [x110, x111] H) fun x112 H =>
  bnd (nckS x106 H) fun x113 H =>
  bnd (fadS 0 x113 H) fun x114 H =>
  bnd (stS 1 x114 x112 H) fun x115 H =>
  bnd (some ((Value.int .i64 (0)), H)) fun x116 H =>
  onOut (iter n (F39_b0 C n) [a0, a1, x1, x0, x9, x46, x56, x69, x84, x116, undef] H) (kBlk 0 (kSeq (F39_j1 C n) (kRet Try.prog [.tmp 4] [0, 1, 4, 3, 5, 53, 6, 8, 86, 9, 120])))))

theorem F39_eq (G : Oracle) (n : Nat) (a0 a1 : Value) (H : Heap) : run G (n + 1) 39 [a0, a1] H = F39 (run G n) n a0 a1 H := by
  unfold run; rw [acall_k (fn := Try.f39) (keep := [0, 1, 4, 3, 5, 53, 6, 8, 86, 9, 120]) (notBad 39 rfl) (by kernel_rfl) (by kernel_rfl)]
  kernel_rfl

abbrev F41_st (v0 : Value := undef) (v1 : Value := undef) (v4 : Value := undef) (v5 : Value := undef) (v18 : Value := undef) : List Value := [v0, v1, v4, v5, v18]

noncomputable def F41_b0 (C : Oracle) (n : Nat) (vs : List Value) (H : Heap) : AOut :=
  bnd (some ((sl [0, 1, 4, 5, 18] vs 5), H)) fun x2 H =>
  bnd (some ((sl [0, 1, 4, 5, 18] vs 0), H)) fun x3 H =>
  bnd (pS (slen x3) H) fun x4 H =>
  bnd (pS (abin Try.prog .lss 3 x2 x4) H) fun x5 H =>
  bnd (some (x5, H)) fun x6 H =>
  bnd (gd (wantV x6 true) (some ((sl [0, 1, 4, 5, 18] vs 0), H)) H) fun x7 H =>
  bnd (gd (wantV x6 true) (some ((sl [0, 1, 4, 5, 18] vs 5), H)) H) fun x8 H =>
  bnd (gd (wantV x6 true) (iadS 2 x7 x8 H) H) fun x9 H =>
  bnd (gd (wantV x6 true) (fadS 0 x9 H) H) fun x10 H =>
  bnd (gd (wantV x6 true) (pS (ld1 x10 H) H) H) fun x11 H =>
  bnd (gd (wantV x6 true) (some ((sl [0, 1, 4, 5, 18] vs 1), H)) H) fun x12 H =>
  bnd (gd (wantV x6 true) (pS (abin Try.prog .lss 2 x11 x12) H) H) fun x13 H =>
  bnd (pickS x6 x13 (Value.bool false) H) fun x14 H =>
  brB x14 (bnd (some ((sl [0, 1, 4, 5, 18] vs 5), H)) fun x15 H =>
  bnd (pS (abin Try.prog .add 3 x15 (Value.int .i64 (1))) H) fun x16 H =>
  bnd (some (x16, H)) fun x17 H =>
  fin .normal [(sl [0, 1, 4, 5, 18] vs 0), (sl [0, 1, 4, 5, 18] vs 1), (sl [0, 1, 4, 5, 18] vs 4), x17, x14] H) (
  fin (.exit 0) [(sl [0, 1, 4, 5, 18] vs 0), (sl [0, 1, 4, 5, 18] vs 1), (sl [0, 1, 4, 5, 18] vs 4), (sl [0, 1, 4, 5, 18] vs 5), x14] H)

noncomputable def F41_b0v (C : Oracle) (n : Nat) (v0 v1 v4 v5 v18 : Value) (H : Heap) : AOut :=
  bnd (some (v5, H)) fun x2 H =>
  bnd (some (v0, H)) fun x3 H =>
  bnd (pS (slen x3) H) fun x4 H =>
  bnd (pS (abin Try.prog .lss 3 x2 x4) H) fun x5 H =>
  bnd (some (x5, H)) fun x6 H =>
  bnd (gd (wantV x6 true) (some (v0, H)) H) fun x7 H =>
  bnd (gd (wantV x6 true) (some (v5, H)) H) fun x8 H =>
  bnd (gd (wantV x6 true) (iadS 2 x7 x8 H) H) fun x9 H =>
  bnd (gd (wantV x6 true) (fadS 0 x9 H) H) fun x10 H =>
  bnd (gd (wantV x6 true) (pS (ld1 x10 H) H) H) fun x11 H =>
  bnd (gd (wantV x6 true) (some (v1, H)) H) fun x12 H =>
  bnd (gd (wantV x6 true) (pS (abin Try.prog .lss 2 x11 x12) H) H) fun x13 H =>
  bnd (pickS x6 x13 (Value.bool false) H) fun x14 H =>
  brB x14 (bnd (some (v5, H)) fun x15 H =>
  bnd (pS (abin Try.prog .add 3 x15 (Value.int .i64 (1))) H) fun x16 H =>
  bnd (some (x16, H)) fun x17 H =>
  fin .normal [v0, v1, v4, x17, x14] H) (
  fin (.exit 0) [v0, v1, v4, v5, x14] H)

theorem F41_b0_v (C : Oracle) (n : Nat) (v0 v1 v4 v5 v18 : Value) (H : Heap) : F41_b0 C n [v0, v1, v4, v5, v18] H = F41_b0v C n v0 v1 v4 v5 v18 H := by
  kernel_rfl

noncomputable def F41_j1 (C : Oracle) (n : Nat) (vs : List Value) (H : Heap) : Option (Value × Heap) :=
  bnd (some ((sl [0, 1, 4, 5, 18] vs 5), H)) fun x18 H =>
  bnd (some (x18, H)) fun x19 H =>
  some (x19, H)

noncomputable def F41_j1v (C : Oracle) (n : Nat) (v0 v1 v4 v5 v18 : Value) (H : Heap) : Option (Value × Heap) :=
  bnd (some (v5, H)) fun x18 H =>
  bnd (some (x18, H)) fun x19 H =>
  some (x19, H)

theorem F41_j1_v (C : Oracle) (n : Nat) (v0 v1 v4 v5 v18 : Value) (H : Heap) : F41_j1 C n [v0, v1, v4, v5, v18] H = F41_j1v C n v0 v1 v4 v5 v18 H := by
  kernel_rfl

noncomputable def F41 (C : Oracle) (n : Nat) (a0 a1 : Value) (H : Heap) : Option (Value × Heap) :=
  bnd (some ((Value.int .i64 (0)), H)) fun x0 H =>
  bnd (some ((Value.int .i64 (0)), H)) fun x1 H =>
  onOut (iter n (F41_b0 C n) [a0, a1, x0, x1, undef] H) (kBlk 0 (kSeq (F41_j1 C n) (kRet Try.prog [.tmp 4] [0, 1, 4, 5, 18])))

theorem F41_eq (G : Oracle) (n : Nat) (a0 a1 : Value) (H : Heap) : run G (n + 1) 41 [a0, a1] H = F41 (run G n) n a0 a1 H := by
  unfold run; rw [acall_k (fn := Try.f41) (keep := [0, 1, 4, 5, 18]) (notBad 41 rfl) (by kernel_rfl) (by kernel_rfl)]
  kernel_rfl

noncomputable def F43 (C : Oracle) (n : Nat) (a0 a1 : Value) (H : Heap) : Option (Value × Heap) :=
  bnd (some ((Value.int .i64 (0)), H)) fun x0 H =>
  bnd (some ((Value.bool false), H)) fun x1 H =>
  bnd (some (a0, H)) fun x2 H =>
  bnd (some (a1, H)) fun x3 H =>
  bnd (C 57 [x2, x3] H) fun x4 H =>
  bnd (some (x4, H)) fun x5 H =>
  bnd (extS 0 x5 H) fun x6 H =>
  bnd (extS 1 x5 H) fun x7 H =>
  bnd (extS 2 x5 H) fun x8 H =>
  bnd (some (x6, H)) fun x9 H =>
  bnd (some (x7, H)) fun x10 H =>
  bnd (some (x8, H)) fun x11 H =>
  bnd (some (x10, H)) fun x12 H =>
  bnd (some (x11, H)) fun x13 H =>
  bnd (some (x12, H)) fun x14 H =>
  bnd (some (x13, H)) fun x15 H =>
  some (Value.tuple #[x14, x15], H)

theorem F43_eq (G : Oracle) (n : Nat) (a0 a1 : Value) (H : Heap) : run G (n + 1) 43 [a0, a1] H = F43 (run G n) n a0 a1 H := by
  unfold run; rw [acall_k (fn := Try.f43) (keep := [0, 1, 4, 5, 7, 8]) (notBad 43 rfl) (by kernel_rfl) (by kernel_rfl)]
  kernel_rfl

noncomputable def F44 (C : Oracle) (n : Nat) (a0 a1 a2 : Value) (H : Heap) : Option (Value × Heap) :=
  bnd (some (newBlk H 29 1 [(Value.int .i64 (0)), (Value.bool false), (Value.int .i64 (0)), (Value.int .i64 (0)), (Value.int .i64 (0)), (Value.slice none 0 0)])) fun x0 H =>
  bnd (some (a2, H)) fun x1 H =>
  bnd (pS (aun .not x1) H) fun x2 H =>
  brB x2 (bnd (pS (abuild Try.prog 29 []) H) fun x3 H =>
  bnd (stS 6 x0 x3 H) fun x4 H =>
  bnd (pS (ldn 6 x0 H) H) fun r0 _ =>
  some (r0, H)) (
  bnd (some (a0, H)) fun x5 H =>
  bnd (some (a1, H)) fun x6 H =>
  bnd (pS (abuild Try.prog 26 [(0, x5), (1, x6)]) H) fun x7 H =>
  bnd (pS (abuild Try.prog 29 [(1, (Value.bool true)), (2, x7)]) H) fun x8 H =>
  bnd (stS 6 x0 x8 H) fun x9 H =>
  bnd (pS (ldn 6 x0 H) H) fun r0 _ =>
  some (r0, H))

theorem F44_eq (G : Oracle) (n : Nat) (a0 a1 a2 : Value) (H : Heap) : run G (n + 1) 44 [a0, a1, a2] H = F44 (run G n) n a0 a1 a2 H := by
  unfold run; rw [acall_k (fn := Try.f44) (keep := [0, 1, 2, 6, 8]) (notBad 44 rfl) (by kernel_rfl) (by kernel_rfl)]
  kernel_rfl

noncomputable def F52 (C : Oracle) (n : Nat) (a0 : Value) (H : Heap) : Option (Value × Heap) :=
  bnd (some ((Value.int .i64 (0)), H)) fun x0 H =>
  bnd (some (a0, H)) fun x1 H =>
  bnd (nckS x1 H) fun x2 H =>
  bnd (fadS 0 x2 H) fun x3 H =>
  bnd (pS (ld1 x3 H) H) fun x4 H =>
  bnd (pS (slen x4) H) fun x5 H =>
  bnd (some (x5, H)) fun x6 H =>
  some (x6, H)

theorem F52_eq (G : Oracle) (n : Nat) (a0 : Value) (H : Heap) : run G (n + 1) 52 [a0] H = F52 (run G n) n a0 H := by
  unfold run; rw [acall_k (fn := Try.f52) (keep := [0, 2]) (notBad 52 rfl) (by kernel_rfl) (by kernel_rfl)]
  kernel_rfl

noncomputable def F53 (C : Oracle) (n : Nat) (a0 a1 a2 : Value) (H : Heap) : Option (Value × Heap) :=
  bnd (boxS 92 a1 H) fun x0 H =>
  bnd (boxS 29 a2 H) fun x1 H =>
  bnd (some ((Value.bool false), H)) fun x2 H =>
  bnd (pS (ld1 x0 H) H) fun x3 H =>
  bnd (nckS x3 H) fun x4 H =>
  bnd (fadS 5 x4 H) fun x5 H =>
  bnd (pS (ld1 x5 H) H) fun x6 H =>
  bnd (some (x6, H)) fun x7 H =>
  brB x7 (bnd (pS (ldn 6 x1 H) H) fun x8 H =>
  bnd (pS (ld1 x0 H) H) fun x9 H =>
  bnd (nckS x9 H) fun x10 H =>
  bnd (fadS 6 x10 H) fun x11 H =>
  bnd (pS (ldn 6 x11 H) H) fun x12 H =>
  bnd (C 63 [x8, x12] H) fun x13 H =>
  bnd (some (x13, H)) fun x14 H =>
  some (x14, H)) (
  bnd (pS (ld1 x0 H) H) fun x15 H =>
  bnd (nckS x15 H) fun x16 H =>
  bnd (fadS 0 x16 H) fun x17 H =>
  bnd (fadS 0 x17 H) fun x18 H =>
  bnd (pS (ld1 x18 H) H) fun x19 H =>
  bnd (pS (abin Try.prog .leq 3 x19 (Value.int .i64 (3))) H) fun x20 H =>
  bnd (some (x20, H)) fun x21 H =>
  bnd (gd (wantV x21 true) (pS (ldn 6 x1 H) H) H) fun x22 H =>
  bnd (gd (wantV x21 true) (pS (abuild Try.prog 29 [(0, (Value.int .i64 (8)))]) H) H) fun x23 H =>
  bnd (gd (wantV x21 true) (C 63 [x22, x23] H) H) fun x24 H =>
  bnd (pickS x21 x24 (Value.bool false) H) fun x25 H =>
  bnd (some (x25, H)) fun x26 H =>
  brB x26 (bnd (some ((Value.bool true), H)) fun x27 H =>
  some (x27, H)) (
  bnd (pS (ld1 x0 H) H) fun x28 H =>
  bnd (nckS x28 H) fun x29 H =>
  bnd (fadS 0 x29 H) fun x30 H =>
  bnd (fadS 0 x30 H) fun x31 H =>
  bnd (pS (ld1 x31 H) H) fun x32 H =>
  bnd (pS (abin Try.prog .gtr 3 x32 (Value.int .i64 (4))) H) fun x33 H =>
  bnd (some (x33, H)) fun x34 H =>
  bnd (gd (wantV x34 true) (pS (ldn 6 x1 H) H) H) fun x35 H =>
  bnd (gd (wantV x34 true) (pS (abuild Try.prog 29 [(0, (Value.int .i64 (9)))]) H) H) fun x36 H =>
  bnd (gd (wantV x34 true) (C 63 [x35, x36] H) H) fun x37 H =>
  bnd (pickS x34 x37 (Value.bool false) H) fun x38 H =>
  bnd (some (x38, H)) fun x39 H =>
  brB x39 (bnd (some ((Value.bool true), H)) fun x40 H =>
  some (x40, H)) (
  bnd (some (a0, H)) fun x41 H =>
  bnd (nckS x41 H) fun x42 H =>
  bnd (fadS 0 x42 H) fun x43 H =>
  bnd (pS (ld1 x43 H) H) fun x44 H =>
  bnd (pS (ld1 x0 H) H) fun x45 H =>
  bnd (nckS x45 H) fun x46 H =>
  bnd (fadS 4 x46 H) fun x47 H =>
  bnd (pS (ld1 x47 H) H) fun x48 H =>
  bnd (pS (scut 1 H x44 (some x48) none) H) fun x49 H =>
  bnd (some (Value.func (.func 65) #[] #[x0, x1], H)) fun x50 H =>
  bnd (C 64 [x49, x50] H) fun x51 H =>
  bnd (some (x51, H)) fun x52 H =>
  some (x52, H))))

theorem F53_eq (G : Oracle) (n : Nat) (a0 a1 a2 : Value) (H : Heap) : run G (n + 1) 53 [a0, a1, a2] H = F53 (run G n) n a0 a1 a2 H := by
  unfold run; rw [acall_k (fn := Try.f53) (keep := [0, 1, 2, 6, 4, 7, 5, 18, 30]) (notBad 53 rfl) (by kernel_rfl) (by kernel_rfl)]
  kernel_rfl

noncomputable def F57 (C : Oracle) (n : Nat) (a0 a1 : Value) (H : Heap) : Option (Value × Heap) :=
  bnd (some ((Value.int .i64 (0)), H)) fun x0 H =>
  bnd (some ((Value.int .i64 (0)), H)) fun x1 H =>
  bnd (some ((Value.bool false), H)) fun x2 H =>
  bnd (some (a0, H)) fun x3 H =>
  bnd (nckS x3 H) fun x4 H =>
  bnd (fadS 0 x4 H) fun x5 H =>
  bnd (pS (ld1 x5 H) H) fun x6 H =>
  bnd (some (a1, H)) fun x7 H =>
  bnd (C 55 [x6, x7] H) fun x8 H =>
  bnd (some (x8, H)) fun x9 H =>
  bnd (extS 0 x9 H) fun x10 H =>
  bnd (extS 1 x9 H) fun x11 H =>
  bnd (some (x10, H)) fun x12 H =>
  bnd (some (x11, H)) fun x13 H =>
  bnd (some (x13, H)) fun x14 H =>
  bnd (pS (aun .not x14) H) fun x15 H =>
  brB x15 (bnd (some ((Value.int .i64 (0)), H)) fun x16 H =>
  bnd (some (x12, H)) fun x17 H =>
  bnd (some (x16, H)) fun x18 H =>
  bnd (some (x17, H)) fun x19 H =>
  bnd (some (x18, H)) fun x20 H =>
  bnd (some ((Value.bool false), H)) fun x21 H =>
  some (Value.tuple #[x19, x20, x21], H)) (
  bnd (some (x12, H)) fun x22 H =>
  bnd (some (a0, H)) fun x23 H =>
  bnd (nckS x23 H) fun x24 H =>
  bnd (fadS 1 x24 H) fun x25 H =>
  bnd (pS (ld1 x25 H) H) fun x26 H =>
  bnd (some (x12, H)) fun x27 H =>
  bnd (iadS 1 x26 x27 H) fun x28 H =>
  bnd (pS (ld1 x28 H) H) fun x29 H =>
  bnd (some (x22, H)) fun x30 H =>
  bnd (some (x29, H)) fun x31 H =>
  bnd (some ((Value.bool true), H)) fun x32 H =>
  some (Value.tuple #[x30, x31, x32], H))

theorem F57_eq (G : Oracle) (n : Nat) (a0 a1 : Value) (H : Heap) : run G (n + 1) 57 [a0, a1] H = F57 (run G n) n a0 a1 H := by
  unfold run; rw [acall_k (fn := Try.f57) (keep := [0, 1, 4, 5, 6, 8, 20, 7, 9]) (notBad 57 rfl) (by kernel_rfl) (by kernel_rfl)]
  kernel_rfl

noncomputable def F63 (C : Oracle) (n : Nat) (a0 a1 : Value) (H : Heap) : Option (Value × Heap) :=
  bnd (boxS 29 a0 H) fun x0 H =>
  bnd (boxS 29 a1 H) fun x1 H =>
  bnd (some ((Value.bool false), H)) fun x2 H =>
  bnd (fadS 0 x0 H) fun x3 H =>
  bnd (pS (ld1 x3 H) H) fun x4 H =>
  bnd (fadS 0 x1 H) fun x5 H =>
  bnd (pS (ld1 x5 H) H) fun x6 H =>
  bnd (pS (abin Try.prog .eql 24 x4 x6) H) fun x7 H =>
  bnd (some (x7, H)) fun x8 H =>
  bnd (gd (wantV x8 true) (fadS 1 x0 H) H) fun x9 H =>
  bnd (gd (wantV x8 true) (pS (ld1 x9 H) H) H) fun x10 H =>
  bnd (gd (wantV x8 true) (fadS 1 x1 H) H) fun x11 H =>
  bnd (gd (wantV x8 true) (pS (ld1 x11 H) H) H) fun x12 H =>
  bnd (gd (wantV x8 true) (pS (abin Try.prog .eql 4 x10 x12) H) H) fun x13 H =>
  bnd (pickS x8 x13 (Value.bool false) H) fun x14 H =>
  bnd (some (x14, H)) fun x15 H =>
  bnd (gd (wantV x15 true) (fadS 2 x0 H) H) fun x16 H =>
  bnd (gd (wantV x15 true) (pS (ldn 2 x16 H) H) H) fun x17 H =>
  bnd (gd (wantV x15 true) (fadS 2 x1 H) H) fun x18 H =>
  bnd (gd (wantV x15 true) (pS (ldn 2 x18 H) H) H) fun x19 H =>
  bnd (gd (wantV x15 true) (pS (abin Try.prog .eql 26 x17 x19) H) H) fun x20 H =>
  bnd (pickS x15 x20 (Value.bool false) H) fun x21 H =>
  bnd (some (x21, H)) fun x22 H =>
  bnd (gd (wantV x22 true) (fadS 4 x0 H) H) fun x23 H =>
  bnd (gd (wantV x22 true) (pS (ld1 x23 H) H) H) fun x24 H =>
  bnd (gd (wantV x22 true) (fadS 4 x1 H) H) fun x25 H =>
  bnd (gd (wantV x22 true) (pS (ld1 x25 H) H) H) fun x26 H =>
  bnd (gd (wantV x22 true) (pS (abin Try.prog .eql 3 x24 x26) H) H) fun x27 H =>
  bnd (pickS x22 x27 (Value.bool false) H) fun x28 H =>
  bnd (some (x28, H)) fun x29 H =>
  bnd (gd (wantV x29 true) (fadS 5 x0 H) H) fun x30 H =>
  bnd (gd (wantV x29 true) (pS (ld1 x30 H) H) H) fun x31 H =>
  bnd (gd (wantV x29 true) (fadS 5 x1 H) H) fun x32 H =>
  bnd (gd (wantV x29 true) (pS (ld1 x32 H) H) H) fun x33 H =>
  bnd (gd (wantV x29 true) (C 71 [x31, x33] H) H) fun x34 H =>
  bnd (pickS x29 x34 (Value.bool false) H) fun x35 H =>
  bnd (some (x35, H)) fun x36 H =>
  some (x36, H)

theorem F63_eq (G : Oracle) (n : Nat) (a0 a1 : Value) (H : Heap) : run G (n + 1) 63 [a0, a1] H = F63 (run G n) n a0 a1 H := by
  unfold run; rw [acall_k (fn := Try.f63) (keep := [0, 1, 4, 2, 3]) (notBad 63 rfl) (by kernel_rfl) (by kernel_rfl)]
  kernel_rfl

noncomputable def F67 (C : Oracle) (n : Nat) (a0 : Value) (H : Heap) : Option (Value × Heap) :=
  bnd (some ((Value.bool false), H)) fun x0 H =>
  bnd (some (a0, H)) fun x1 H =>
  bnd (some (a0, H)) fun x2 H =>
  bnd (pS (abin Try.prog .neq 2 x1 x2) H) fun x3 H =>
  bnd (some (x3, H)) fun x4 H =>
  some (x4, H)

theorem F67_eq (G : Oracle) (n : Nat) (a0 : Value) (H : Heap) : run G (n + 1) 67 [a0] H = F67 (run G n) n a0 H := by
  unfold run; rw [acall_k (fn := Try.f67) (keep := [0, 2]) (notBad 67 rfl) (by kernel_rfl) (by kernel_rfl)]
  kernel_rfl

end Go.Proofs.Ytgakioiplkehgaa.Fun
