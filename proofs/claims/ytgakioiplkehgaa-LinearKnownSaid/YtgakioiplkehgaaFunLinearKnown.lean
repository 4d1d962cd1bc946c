/- The program's functions as plain terms, each with its equation; printed by wip/am/fun.py. -/
import Derived.Test.YtgakioiplkehgaaFunK
namespace Go.Proofs.Ytgakioiplkehgaa.Fun
open Go.RowKit Go.Proofs.YtgakioiplkehgaaA.Am
set_option linter.unusedVariables false
set_option maxRecDepth 10000
abbrev F3_st (v0 : Value := undef) (v5 : Value := undef) (v6 : Value := undef) (v7 : Value := undef) (v4 : Value := undef) (v8 : Value := undef) (v9 : Value := undef) (v10 : Value := undef) (v1 : Value := undef) (v2 : Value := undef) (v3 : Value := undef) (v13 : Value := undef) (v88 : Value := undef) (v11 : Value := undef) (v12 : Value := undef) (v98 : Value := undef) : List Value := [v0, v5, v6, v7, v4, v8, v9, v10, v1, v2, v3, v13, v88, v11, v12, v98]

noncomputable def F3_b0 (C : Oracle) (n : Nat) (vs : List Value) (H : Heap) : AOut :=
  bnd (some ((sl [0, 5, 6, 7, 4, 8, 9, 10, 1, 2, 3, 13, 88, 11, 12, 98] vs 13), H)) fun x104 H =>
  bnd (pS (abin Try.prog .lss 3 x104 (Value.int .i64 (9))) H) fun x105 H =>
  brB x105 (bnd (some ((sl [0, 5, 6, 7, 4, 8, 9, 10, 1, 2, 3, 13, 88, 11, 12, 98] vs 13), H)) fun x106 Hx106 =>
  bnd (iaaS 9 1 (sl [0, 5, 6, 7, 4, 8, 9, 10, 1, 2, 3, 13, 88, 11, 12, 98] vs 11) x106 Hx106) fun x107 Hx107 =>
  bnd (pS (ld1 x107 Hx107) Hx107) fun x108 Hx108 =>
  bnd (C 7 [x108] Hx108) fun x109 Hx109 =>
  bnd (some ((sl [0, 5, 6, 7, 4, 8, 9, 10, 1, 2, 3, 13, 88, 11, 12, 98] vs 13), Hx109)) fun x110 Hx110 =>
  bnd (iaaS 9 1 (sl [0, 5, 6, 7, 4, 8, 9, 10, 1, 2, 3, 13, 88, 11, 12, 98] vs 12) x110 Hx110) fun x111 Hx111 =>
  bnd (pS (ld1 x111 Hx111) Hx111) fun x112 Hx112 =>
  bnd (pS (abin Try.prog .neq 3 x109 x112) Hx112) fun x113 Hx113 =>
  if (cfS (some true) (some true) (pS (ld1 x111 Hx111) Hx111) (pS (ld1 x111 Hx108) Hx108) (pS (ld1 x111 Hx109) Hx109) && true) = true then (fun H =>
  brB x113 (bnd (some ((Value.bool false), H)) fun x114 H =>
  fin .ret [x114, (sl [0, 5, 6, 7, 4, 8, 9, 10, 1, 2, 3, 13, 88, 11, 12, 98] vs 5), (sl [0, 5, 6, 7, 4, 8, 9, 10, 1, 2, 3, 13, 88, 11, 12, 98] vs 6), (sl [0, 5, 6, 7, 4, 8, 9, 10, 1, 2, 3, 13, 88, 11, 12, 98] vs 7), (sl [0, 5, 6, 7, 4, 8, 9, 10, 1, 2, 3, 13, 88, 11, 12, 98] vs 4), (sl [0, 5, 6, 7, 4, 8, 9, 10, 1, 2, 3, 13, 88, 11, 12, 98] vs 8), (sl [0, 5, 6, 7, 4, 8, 9, 10, 1, 2, 3, 13, 88, 11, 12, 98] vs 9), (sl [0, 5, 6, 7, 4, 8, 9, 10, 1, 2, 3, 13, 88, 11, 12, 98] vs 10), (sl [0, 5, 6, 7, 4, 8, 9, 10, 1, 2, 3, 13, 88, 11, 12, 98] vs 1), (sl [0, 5, 6, 7, 4, 8, 9, 10, 1, 2, 3, 13, 88, 11, 12, 98] vs 2), (sl [0, 5, 6, 7, 4, 8, 9, 10, 1, 2, 3, 13, 88, 11, 12, 98] vs 3), (sl [0, 5, 6, 7, 4, 8, 9, 10, 1, 2, 3, 13, 88, 11, 12, 98] vs 13), x105, (sl [0, 5, 6, 7, 4, 8, 9, 10, 1, 2, 3, 13, 88, 11, 12, 98] vs 11), (sl [0, 5, 6, 7, 4, 8, 9, 10, 1, 2, 3, 13, 88, 11, 12, 98] vs 12), x113] H) (
  bnd (some ((sl [0, 5, 6, 7, 4, 8, 9, 10, 1, 2, 3, 13, 88, 11, 12, 98] vs 13), H)) fun x115 H =>
  bnd (pS (abin Try.prog .add 3 x115 (Value.int .i64 (1))) H) fun x116 H =>
  bnd (some (x116, H)) fun x117 H =>
  fin .normal [(sl [0, 5, 6, 7, 4, 8, 9, 10, 1, 2, 3, 13, 88, 11, 12, 98] vs 0), (sl [0, 5, 6, 7, 4, 8, 9, 10, 1, 2, 3, 13, 88, 11, 12, 98] vs 5), (sl [0, 5, 6, 7, 4, 8, 9, 10, 1, 2, 3, 13, 88, 11, 12, 98] vs 6), (sl [0, 5, 6, 7, 4, 8, 9, 10, 1, 2, 3, 13, 88, 11, 12, 98] vs 7), (sl [0, 5, 6, 7, 4, 8, 9, 10, 1, 2, 3, 13, 88, 11, 12, 98] vs 4), (sl [0, 5, 6, 7, 4, 8, 9, 10, 1, 2, 3, 13, 88, 11, 12, 98] vs 8), (sl [0, 5, 6, 7, 4, 8, 9, 10, 1, 2, 3, 13, 88, 11, 12, 98] vs 9), (sl [0, 5, 6, 7, 4, 8, 9, 10, 1, 2, 3, 13, 88, 11, 12, 98] vs 10), (sl [0, 5, 6, 7, 4, 8, 9, 10, 1, 2, 3, 13, 88, 11, 12, 98] vs 1), (sl [0, 5, 6, 7, 4, 8, 9, 10, 1, 2, 3, 13, 88, 11, 12, 98] vs 2), (sl [0, 5, 6, 7, 4, 8, 9, 10, 1, 2, 3, 13, 88, 11, 12, 98] vs 3), x117, x105, (sl [0, 5, 6, 7, 4, 8, 9, 10, 1, 2, 3, 13, 88, 11, 12, 98] vs 11), (sl [0, 5, 6, 7, 4, 8, 9, 10, 1, 2, 3, 13, 88, 11, 12, 98] vs 12), x113] H)) Hx113 else none) (
  fin (.exit 0) [(sl [0, 5, 6, 7, 4, 8, 9, 10, 1, 2, 3, 13, 88, 11, 12, 98] vs 0), (sl [0, 5, 6, 7, 4, 8, 9, 10, 1, 2, 3, 13, 88, 11, 12, 98] vs 5), (sl [0, 5, 6, 7, 4, 8, 9, 10, 1, 2, 3, 13, 88, 11, 12, 98] vs 6), (sl [0, 5, 6, 7, 4, 8, 9, 10, 1, 2, 3, 13, 88, 11, 12, 98] vs 7), (sl [0, 5, 6, 7, 4, 8, 9, 10, 1, 2, 3, 13, 88, 11, 12, 98] vs 4), (sl [0, 5, 6, 7, 4, 8, 9, 10, 1, 2, 3, 13, 88, 11, 12, 98] vs 8), (sl [0, 5, 6, 7, 4, 8, 9, 10, 1, 2, 3, 13, 88, 11, 12, 98] vs 9), (sl [0, 5, 6, 7, 4, 8, 9, 10, 1, 2, 3, 13, 88, 11, 12, 98] vs 10), (sl [0, 5, 6, 7, 4, 8, 9, 10, 1, 2, 3, 13, 88, 11, 12, 98] vs 1), (sl [0, 5, 6, 7, 4, 8, 9, 10, 1, 2, 3, 13, 88, 11, 12, 98] vs 2), (sl [0, 5, 6, 7, 4, 8, 9, 10, 1, 2, 3, 13, 88, 11, 12, 98] vs 3), (sl [0, 5, 6, 7, 4, 8, 9, 10, 1, 2, 3, 13, 88, 11, 12, 98] vs 13), x105, (sl [0, 5, 6, 7, 4, 8, 9, 10, 1, 2, 3, 13, 88, 11, 12, 98] vs 11), (sl [0, 5, 6, 7, 4, 8, 9, 10, 1, 2, 3, 13, 88, 11, 12, 98] vs 12), (sl [0, 5, 6, 7, 4, 8, 9, 10, 1, 2, 3, 13, 88, 11, 12, 98] vs 98)] H)

noncomputable def F3_b0v (C : Oracle) (n : Nat) (v0 v5 v6 v7 v4 v8 v9 v10 v1 v2 v3 v13 v88 v11 v12 v98 : Value) (H : Heap) : AOut :=
  bnd (some (v13, H)) fun x104 H =>
  bnd (pS (abin Try.prog .lss 3 x104 (Value.int .i64 (9))) H) fun x105 H =>
  brB x105 (bnd (some (v13, H)) fun x106 Hx106 =>
  bnd (iaaS 9 1 v11 x106 Hx106) fun x107 Hx107 =>
  bnd (pS (ld1 x107 Hx107) Hx107) fun x108 Hx108 =>
  bnd (C 7 [x108] Hx108) fun x109 Hx109 =>
  bnd (some (v13, Hx109)) fun x110 Hx110 =>
  bnd (iaaS 9 1 v12 x110 Hx110) fun x111 Hx111 =>
  bnd (pS (ld1 x111 Hx111) Hx111) fun x112 Hx112 =>
  bnd (pS (abin Try.prog .neq 3 x109 x112) Hx112) fun x113 Hx113 =>
  if (cfS (some true) (some true) (pS (ld1 x111 Hx111) Hx111) (pS (ld1 x111 Hx108) Hx108) (pS (ld1 x111 Hx109) Hx109) && true) = true then (fun H =>
  brB x113 (bnd (some ((Value.bool false), H)) fun x114 H =>
  fin .ret [x114, v5, v6, v7, v4, v8, v9, v10, v1, v2, v3, v13, x105, v11, v12, x113] H) (
  bnd (some (v13, H)) fun x115 H =>
  bnd (pS (abin Try.prog .add 3 x115 (Value.int .i64 (1))) H) fun x116 H =>
  bnd (some (x116, H)) fun x117 H =>
  fin .normal [v0, v5, v6, v7, v4, v8, v9, v10, v1, v2, v3, x117, x105, v11, v12, x113] H)) Hx113 else none) (
  fin (.exit 0) [v0, v5, v6, v7, v4, v8, v9, v10, v1, v2, v3, v13, x105, v11, v12, v98] H)

theorem F3_b0_v (C : Oracle) (n : Nat) (v0 v5 v6 v7 v4 v8 v9 v10 v1 v2 v3 v13 v88 v11 v12 v98 : Value) (H : Heap) : F3_b0 C n [v0, v5, v6, v7, v4, v8, v9, v10, v1, v2, v3, v13, v88, v11, v12, v98] H = F3_b0v C n v0 v5 v6 v7 v4 v8 v9 v10 v1 v2 v3 v13 v88 v11 v12 v98 H := by
  kernel_rfl

noncomputable def F3_j1 (C : Oracle) (n : Nat) (vs : List Value) (H : Heap) : Option (Value × Heap) :=
  bnd (C 8 [] H) fun x118 H =>
  bnd (some (x118, H)) fun x119 H =>
  bnd (gd (wantV x119 true) (pS (abuild Try.prog 26 [(0, (Value.int .i64 (2)))]) H) H) fun x120 H =>
  bnd (gd (wantV x119 true) (pS (abuild Try.prog 26 [(0, (Value.int .i64 (2)))]) H) H) fun x121 H =>
  bnd (gd (wantV x119 true) (abuildSlice Try.prog 27 2 [(0, x120), (1, x121)] H) H) fun x122 H =>
  bnd (gd (wantV x119 true) (pS (abuild Try.prog 29 [(4, x122)]) H) H) fun x123 H =>
  bnd (gd (wantV x119 true) (pS (abuild Try.prog 31 [(0, (Value.int .i64 (4))), (4, x123)]) H) H) fun x124 H =>
  bnd (gd (wantV x119 true) (abuildSlice Try.prog 32 1 [(0, x124)] H) H) fun x125 H =>
  bnd (gd (wantV x119 true) (C 7 [x125] H) H) fun x126 H =>
  bnd (gd (wantV x119 true) (pS (abin Try.prog .eql 3 x126 (Value.int .i64 (0))) H) H) fun x127 H =>
  bnd (pickS x119 x127 (Value.bool false) H) fun x128 H =>
  bnd (some (x128, H)) fun x129 H =>
  bnd (gd (wantV x129 true) (pS (ldn 13 (sl [0, 5, 6, 7, 4, 8, 9, 10, 1, 2, 3, 13, 88, 11, 12, 98] vs 1) H) H) H) fun x130 H =>
  bnd (gd (wantV x129 true) (pS (abuild Try.prog 31 [(0, (Value.int .i64 (4)))]) H) H) fun x131 H =>
  bnd (gd (wantV x129 true) (abuildSlice Try.prog 32 2 [(0, x130), (1, x131)] H) H) fun x132 H =>
  bnd (gd (wantV x129 true) (C 7 [x132] H) H) fun x133 H =>
  bnd (gd (wantV x129 true) (pS (abin Try.prog .eql 3 x133 (Value.int .i64 (1))) H) H) fun x134 H =>
  bnd (pickS x129 x134 (Value.bool false) H) fun x135 H =>
  bnd (some (x135, H)) fun x136 H =>
  some (x136, H)

noncomputable def F3_j1v (C : Oracle) (n : Nat) (v0 v5 v6 v7 v4 v8 v9 v10 v1 v2 v3 v13 v88 v11 v12 v98 : Value) (H : Heap) : Option (Value × Heap) :=
  bnd (C 8 [] H) fun x118 H =>
  bnd (some (x118, H)) fun x119 H =>
  bnd (gd (wantV x119 true) (pS (abuild Try.prog 26 [(0, (Value.int .i64 (2)))]) H) H) fun x120 H =>
  bnd (gd (wantV x119 true) (pS (abuild Try.prog 26 [(0, (Value.int .i64 (2)))]) H) H) fun x121 H =>
  bnd (gd (wantV x119 true) (abuildSlice Try.prog 27 2 [(0, x120), (1, x121)] H) H) fun x122 H =>
  bnd (gd (wantV x119 true) (pS (abuild Try.prog 29 [(4, x122)]) H) H) fun x123 H =>
  bnd (gd (wantV x119 true) (pS (abuild Try.prog 31 [(0, (Value.int .i64 (4))), (4, x123)]) H) H) fun x124 H =>
  bnd (gd (wantV x119 true) (abuildSlice Try.prog 32 1 [(0, x124)] H) H) fun x125 H =>
  bnd (gd (wantV x119 true) (C 7 [x125] H) H) fun x126 H =>
  bnd (gd (wantV x119 true) (pS (abin Try.prog .eql 3 x126 (Value.int .i64 (0))) H) H) fun x127 H =>
  bnd (pickS x119 x127 (Value.bool false) H) fun x128 H =>
  bnd (some (x128, H)) fun x129 H =>
  bnd (gd (wantV x129 true) (pS (ldn 13 v1 H) H) H) fun x130 H =>
  bnd (gd (wantV x129 true) (pS (abuild Try.prog 31 [(0, (Value.int .i64 (4)))]) H) H) fun x131 H =>
  bnd (gd (wantV x129 true) (abuildSlice Try.prog 32 2 [(0, x130), (1, x131)] H) H) fun x132 H =>
  bnd (gd (wantV x129 true) (C 7 [x132] H) H) fun x133 H =>
  bnd (gd (wantV x129 true) (pS (abin Try.prog .eql 3 x133 (Value.int .i64 (1))) H) H) fun x134 H =>
  bnd (pickS x129 x134 (Value.bool false) H) fun x135 H =>
  bnd (some (x135, H)) fun x136 H =>
  some (x136, H)

theorem F3_j1_v (C : Oracle) (n : Nat) (v0 v5 v6 v7 v4 v8 v9 v10 v1 v2 v3 v13 v88 v11 v12 v98 : Value) (H : Heap) : F3_j1 C n [v0, v5, v6, v7, v4, v8, v9, v10, v1, v2, v3, v13, v88, v11, v12, v98] H = F3_j1v C n v0 v5 v6 v7 v4 v8 v9 v10 v1 v2 v3 v13 v88 v11 v12 v98 H := by
  kernel_rfl

noncomputable def F3 (C : Oracle) (n : Nat) (H : Heap) : Option (Value × Heap) :=
  bnd (some ((Value.bool false), H)) fun x0 H =>
  bnd (pS (abuild Try.prog 23 [(0, (Value.int .i64 (1))), (1, (Value.int .i64 (1))), (2, (Value.int .i64 (10)))]) H) fun x1 H =>
  bnd (pS (abuild Try.prog 31 [(0, (Value.int .i64 (1))), (3, x1)]) H) fun x2 H =>
  bnd (some (newBlk H 31 1 [(Value.int .i64 (0)), (Value.int .i64 (0)), (Value.int .i64 (0)), (Value.int .i64 (0)), (Value.int .i64 (0)), (Value.int .i64 (0)), (Value.int .i64 (0)), (Value.bool false), (Value.int .i64 (0)), (Value.int .i64 (0)), (Value.int .i64 (0)), (Value.slice none 0 0), (Value.int .i64 (0))])) fun x3 H =>
  bnd (stS 13 x3 x2 H) fun x4 H =>
  bnd (pS (abuild Try.prog 23 [(0, (Value.int .i64 (9))), (1, (Value.int .i64 (0))), (2, (Value.int .i64 (9)))]) H) fun x5 H =>
  bnd (pS (abuild Try.prog 31 [(0, (Value.int .i64 (1))), (1, (Value.int .i64 (1))), (2, (Value.int .i64 (1))), (3, x5)]) H) fun x6 H =>
  bnd (some (newBlk H 31 1 [(Value.int .i64 (0)), (Value.int .i64 (0)), (Value.int .i64 (0)), (Value.int .i64 (0)), (Value.int .i64 (0)), (Value.int .i64 (0)), (Value.int .i64 (0)), (Value.bool false), (Value.int .i64 (0)), (Value.int .i64 (0)), (Value.int .i64 (0)), (Value.slice none 0 0), (Value.int .i64 (0))])) fun x7 H =>
  bnd (stS 13 x7 x6 H) fun x8 H =>
  bnd (pS (abuild Try.prog 31 [(0, (Value.int .i64 (2)))]) H) fun x9 H =>
  bnd (some (newBlk H 31 1 [(Value.int .i64 (0)), (Value.int .i64 (0)), (Value.int .i64 (0)), (Value.int .i64 (0)), (Value.int .i64 (0)), (Value.int .i64 (0)), (Value.int .i64 (0)), (Value.bool false), (Value.int .i64 (0)), (Value.int .i64 (0)), (Value.int .i64 (0)), (Value.slice none 0 0), (Value.int .i64 (0))])) fun x10 H =>
  bnd (stS 13 x10 x9 H) fun x11 H =>
  bnd (pS (abuild Try.prog 31 [(0, (Value.int .i64 (3)))]) H) fun x12 H =>
  bnd (some (newBlk H 31 1 [(Value.int .i64 (0)), (Value.int .i64 (0)), (Value.int .i64 (0)), (Value.int .i64 (0)), (Value.int .i64 (0)), (Value.int .i64 (0)), (Value.int .i64 (0)), (Value.bool false), (Value.int .i64 (0)), (Value.int .i64 (0)), (Value.int .i64 (0)), (Value.slice none 0 0), (Value.int .i64 (0))])) fun x13 H =>
  bnd (stS 13 x13 x12 H) fun x14 H =>
  bnd (pS (abuild Try.prog 31 [(0, (Value.int .i64 (3))), (1, (Value.int .i64 (1))), (2, (Value.int .i64 (1)))]) H) fun x15 H =>
  bnd (some (newBlk H 31 1 [(Value.int .i64 (0)), (Value.int .i64 (0)), (Value.int .i64 (0)), (Value.int .i64 (0)), (Value.int .i64 (0)), (Value.int .i64 (0)), (Value.int .i64 (0)), (Value.bool false), (Value.int .i64 (0)), (Value.int .i64 (0)), (Value.int .i64 (0)), (Value.slice none 0 0), (Value.int .i64 (0))])) fun x16 H =>
  bnd (stS 13 x16 x15 H) fun x17 H =>
  bnd (pS (ldn 13 x16 H) H) fun x18 H =>
  bnd (some (newBlk H 31 1 [(Value.int .i64 (0)), (Value.int .i64 (0)), (Value.int .i64 (0)), (Value.int .i64 (0)), (Value.int .i64 (0)), (Value.int .i64 (0)), (Value.int .i64 (0)), (Value.bool false), (Value.int .i64 (0)), (Value.int .i64 (0)), (Value.int .i64 (0)), (Value.slice none 0 0), (Value.int .i64 (0))])) fun x19 H =>
  bnd (stS 13 x19 x18 H) fun x20 H =>
  bnd (pS (abuild Try.prog 26 [(0, (Value.int .i64 (1))), (1, (Value.int .i64 (10)))]) H) fun x21 H =>
  bnd (abuildSlice Try.prog 27 1 [(0, x21)] H) fun x22 H =>
  bnd (fadS 6 x19 H) fun x23 H =>
  bnd (fadS 5 x23 H) fun x24 H =>
  bnd (stS 1 x24 x22 H) fun x25 H =>
  bnd (pS (ldn 13 x16 H) H) fun x26 H =>
  bnd (some (newBlk H 31 1 [(Value.int .i64 (0)), (Value.int .i64 (0)), (Value.int .i64 (0)), (Value.int .i64 (0)), (Value.int .i64 (0)), (Value.int .i64 (0)), (Value.int .i64 (0)), (Value.bool false), (Value.int .i64 (0)), (Value.int .i64 (0)), (Value.int .i64 (0)), (Value.slice none 0 0), (Value.int .i64 (0))])) fun x27 H =>
  bnd (stS 13 x27 x26 H) fun x28 H =>
  bnd (pS (abuild Try.prog 26 [(0, (Value.int .i64 (2))), (1, (Value.int .i64 (10)))]) H) fun x29 H =>
  bnd (abuildSlice Try.prog 27 1 [(0, x29)] H) fun x30 H =>
  bnd (fadS 6 x27 H) fun x31 H =>
  bnd (fadS 5 x31 H) fun x32 H =>
  bnd (stS 1 x32 x30 H) fun x33 H =>
  bnd (pS (ldn 13 x13 H) H) fun x34 H =>
  bnd (some (newBlk H 31 1 [(Value.int .i64 (0)), (Value.int .i64 (0)), (Value.int .i64 (0)), (Value.int .i64 (0)), (Value.int .i64 (0)), (Value.int .i64 (0)), (Value.int .i64 (0)), (Value.bool false), (Value.int .i64 (0)), (Value.int .i64 (0)), (Value.int .i64 (0)), (Value.slice none 0 0), (Value.int .i64 (0))])) fun x35 H =>
  bnd (stS 13 x35 x34 H) fun x36 H =>
  bnd (pS (abuild Try.prog 26 [(0, (Value.int .i64 (1))), (1, (Value.int .i64 (10)))]) H) fun x37 H =>
  bnd (pS (abuild Try.prog 29 [(1, (Value.bool true)), (2, x37)]) H) fun x38 H =>
  bnd (fadS 6 x35 H) fun x39 H =>
  bnd (stS 6 x39 x38 H) fun x40 H =>
  bnd (pS (ldn 13 x13 H) H) fun x41 H =>
  bnd (some (newBlk H 31 1 [(Value.int .i64 (0)), (Value.int .i64 (0)), (Value.int .i64 (0)), (Value.int .i64 (0)), (Value.int .i64 (0)), (Value.int .i64 (0)), (Value.int .i64 (0)), (Value.bool false), (Value.int .i64 (0)), (Value.int .i64 (0)), (Value.int .i64 (0)), (Value.slice none 0 0), (Value.int .i64 (0))])) fun x42 H =>
  bnd (stS 13 x42 x41 H) fun x43 H =>
  bnd (fadS 6 x42 H) fun x44 H =>
  bnd (fadS 0 x44 H) fun x45 H =>
  bnd (stS 1 x45 (Value.int .i64 (8)) H) fun x46 H =>
  bnd (pS (ldn 13 x16 H) H) fun x47 H =>
  bnd (some (newBlk H 31 1 [(Value.int .i64 (0)), (Value.int .i64 (0)), (Value.int .i64 (0)), (Value.int .i64 (0)), (Value.int .i64 (0)), (Value.int .i64 (0)), (Value.int .i64 (0)), (Value.bool false), (Value.int .i64 (0)), (Value.int .i64 (0)), (Value.int .i64 (0)), (Value.slice none 0 0), (Value.int .i64 (0))])) fun x48 H =>
  bnd (stS 13 x48 x47 H) fun x49 H =>
  bnd (fadS 6 x48 H) fun x50 H =>
  bnd (fadS 0 x50 H) fun x51 H =>
  bnd (stS 1 x51 (Value.int .i64 (9)) H) fun x52 H =>
  bnd (pS (ldn 13 x3 H) H) fun x53 H =>
  bnd (pS (ldn 13 x7 H) H) fun x54 H =>
  bnd (pS (ldn 13 x10 H) H) fun x55 H =>
  bnd (pS (ldn 13 x13 H) H) fun x56 H =>
  bnd (pS (ldn 13 x16 H) H) fun x57 H =>
  bnd (abuildSlice Try.prog 32 5 [(0, x53), (1, x54), (2, x55), (3, x56), (4, x57)] H) fun x58 H =>
  bnd (pS (ldn 13 x3 H) H) fun x59 H =>
  bnd (pS (ldn 13 x7 H) H) fun x60 H =>
  bnd (pS (ldn 13 x10 H) H) fun x61 H =>
  bnd (pS (ldn 13 x13 H) H) fun x62 H =>
  bnd (pS (ldn 13 x19 H) H) fun x63 H =>
  bnd (abuildSlice Try.prog 32 5 [(0, x59), (1, x60), (2, x61), (3, x62), (4, x63)] H) fun x64 H =>
  bnd (pS (ldn 13 x3 H) H) fun x65 H =>
  bnd (pS (ldn 13 x10 H) H) fun x66 H =>
  bnd (pS (ldn 13 x7 H) H) fun x67 H =>
  bnd (pS (ldn 13 x19 H) H) fun x68 H =>
  bnd (abuildSlice Try.prog 32 4 [(0, x65), (1, x66), (2, x67), (3, x68)] H) fun x69 H =>
  bnd (pS (ldn 13 x3 H) H) fun x70 H =>
  bnd (pS (ldn 13 x10 H) H) fun x71 H =>
  bnd (pS (ldn 13 x7 H) H) fun x72 H =>
  bnd (pS (ldn 13 x16 H) H) fun x73 H =>
  bnd (abuildSlice Try.prog 32 4 [(0, x70), (1, x71), (2, x72), (3, x73)] H) fun x74 H =>
  bnd (pS (ldn 13 x3 H) H) fun x75 H =>
  bnd (pS (ldn 13 x7 H) H) fun x76 H =>
  bnd (pS (ldn 13 x10 H) H) fun x77 H =>
  bnd (pS (ldn 13 x27 H) H) fun x78 H =>
  bnd (abuildSlice Try.prog 32 4 [(0, x75), (1, x76), (2, x77), (3, x78)] H) fun x79 H =>
  bnd (pS (ldn 13 x3 H) H) fun x80 H =>
  bnd (pS (ldn 13 x7 H) H) fun x81 H =>
  bnd (pS (ldn 13 x13 H) H) fun x82 H =>
  bnd (abuildSlice Try.prog 32 3 [(0, x80), (1, x81), (2, x82)] H) fun x83 H =>
  bnd (pS (ldn 13 x3 H) H) fun x84 H =>
  bnd (pS (ldn 13 x10 H) H) fun x85 H =>
  bnd (pS (ldn 13 x10 H) H) fun x86 H =>
  bnd (abuildSlice Try.prog 32 3 [(0, x84), (1, x85), (2, x86)] H) fun x87 H =>
  bnd (pS (ldn 13 x3 H) H) fun x88 H =>
  bnd (pS (ldn 13 x10 H) H) fun x89 H =>
  bnd (pS (ldn 13 x35 H) H) fun x90 H =>
  bnd (abuildSlice Try.prog 32 3 [(0, x88), (1, x89), (2, x90)] H) fun x91 H =>
  bnd (pS (ldn 13 x3 H) H) fun x92 H =>
  bnd (pS (ldn 13 x42 H) H) fun x93 H =>
  bnd (pS (ldn 13 x7 H) H) fun x94 H =>
  bnd (pS (ldn 13 x48 H) H) fun x95 H =>
  bnd (abuildSlice Try.prog 32 4 [(0, x92), (1, x93), (2, x94), (3, x95)] H) fun x96 H =>
  bnd (pS (abuild Try.prog 33 [(0, x58), (1, x64), (2, x69), (3, x74), (4, x79), (5, x83), (6, x87), (7, x91), (8, x96)]) H) fun x97 H =>
  bnd (some (newBlk H 33 1 [(Value.slice none 0 0), (Value.slice none 0 0), (Value.slice none 0 0), (Value.slice none 0 0), (Value.slice none 0 0), (Value.slice none 0 0), (Value.slice none 0 0), (Value.slice none 0 0), (Value.slice none 0 0)])) fun x98 H =>
  bnd (stS 9 x98 x97 H) fun x99 H =>
  bnd (pS (abuild Try.prog 34 [(0, (Value.int .i64 (-1))), (1, (Value.int .i64 (-1))), (2, (Value.int .i64 (-1))), (3, (Value.int .i64 (3))), (4, (Value.int .i64 (3))), (5, (Value.int .i64 (2))), (6, (Value.int .i64 (2))), (7, (Value.int .i64 (2))), (8, (Value.int .i64 (-1)))]) H) fun x100 H =>
  bnd (some (newBlk H 34 1 [(Value.int .i64 (0)), (Value.int .i64 (0)), (Value.int .i64 (0)), (Value.int .i64 (0)), (Value.int .i64 (0)), (Value.int .i64 (0)), (Value.int .i64 (0)), (Value.int .i64 (0)), (Value.int .i64 (0))])) fun x101 H =>
  bnd (stS 9 x101 x100 H) fun x102 H =>
  bnd (some ((Value.int .i64 (0)), H)) fun x103 H =>
  onOut (iter n (F3_b0 C n) [x0, x16, x19, x27, x13, x35, x42, x48, x3, x7, x10, x103, undef, x98, x101, undef] H) (kBlk 0 (kSeq (F3_j1 C n) (kRet Try.prog [.tmp 0] [0, 5, 6, 7, 4, 8, 9, 10, 1, 2, 3, 13, 88, 11, 12, 98])))

theorem F3_eq (G : Oracle) (n : Nat) (H : Heap) : run G (n + 1) 3 [] H = F3 (run G n) n H := by
  unfold run; rw [acall_k (fn := Try.f3) (keep := [0, 5, 6, 7, 4, 8, 9, 10, 1, 2, 3, 13, 88, 11, 12, 98]) (notBad 3 rfl) (by kernel_rfl) (by kernel_rfl)]
  kernel_rfl

end Go.Proofs.Ytgakioiplkehgaa.Fun
