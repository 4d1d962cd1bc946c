/- The program's functions as plain terms, each with its equation; printed by wip/am/fun.py. -/
import Derived.Test.YtpenlcigickkbaaFunK
namespace Go.Proofs.Ytpenlcigickkbaa.Fun
open Go.RowKit Go.Proofs.YtpenlcigickkbaaA.Am
set_option linter.unusedVariables false
set_option maxRecDepth 10000
abbrev F9_st (v0 : Value := undef) (v1 : Value := undef) (v2 : Value := undef) (v3 : Value := undef) (v8 : Value := undef) (v19 : Value := undef) (v9 : Value := undef) (v10 : Value := undef) (v30 : Value := undef) (v12 : Value := undef) (v36 : Value := undef) (v11 : Value := undef) (v14 : Value := undef) (v13 : Value := undef) (v15 : Value := undef) (v102 : Value := undef) (v16 : Value := undef) (v105 : Value := undef) (v135 : Value := undef) : List Value := [v0, v1, v2, v3, v8, v19, v9, v10, v30, v12, v36, v11, v14, v13, v15, v102, v16, v105, v135]

noncomputable def F9_b0 (C : Oracle) (n : Nat) (vs : List Value) (H : Heap) : AOut :=
  bnd (some ((sl [0, 1, 2, 3, 8, 19, 9, 10, 30, 12, 36, 11, 14, 13, 15, 102, 16, 105, 135] vs 12), H)) fun x23 H =>
  bnd (some ((sl [0, 1, 2, 3, 8, 19, 9, 10, 30, 12, 36, 11, 14, 13, 15, 102, 16, 105, 135] vs 1), H)) fun x24 H =>
  bnd (pS (slen x24) H) fun x25 H =>
  bnd (pS (abin Try.prog .lss 3 x23 x25) H) fun x26 H =>
  brB x26 (bnd (some ((sl [0, 1, 2, 3, 8, 19, 9, 10, 30, 12, 36, 11, 14, 13, 15, 102, 16, 105, 135] vs 11), H)) fun x27 H =>
  bnd (some ((sl [0, 1, 2, 3, 8, 19, 9, 10, 30, 12, 36, 11, 14, 13, 15, 102, 16, 105, 135] vs 1), H)) fun x28 H =>
  bnd (some ((sl [0, 1, 2, 3, 8, 19, 9, 10, 30, 12, 36, 11, 14, 13, 15, 102, 16, 105, 135] vs 12), H)) fun x29 H =>
  bnd (iadS 1 x28 x29 H) fun x30 H =>
  bnd (pS (ld1 x30 H) H) fun x31 H =>
  bnd (pS (abin Try.prog .xor 2 x31 (Value.int .i64 (5))) H) fun x32 H =>
  bnd (abuildSlice Try.prog 28 1 [(0, x32)] H) fun x33 H =>
  bnd (appS 2 1 8 x27 x33 H) fun x34 H =>
  bnd (some (x34, H)) fun x35 H =>
  bnd (some ((sl [0, 1, 2, 3, 8, 19, 9, 10, 30, 12, 36, 11, 14, 13, 15, 102, 16, 105, 135] vs 12), H)) fun x36 H =>
  bnd (pS (abin Try.prog .add 3 x36 (Value.int .i64 (1))) H) fun x37 H =>
  bnd (some (x37, H)) fun x38 H =>
  fin .normal [(sl [0, 1, 2, 3, 8, 19, 9, 10, 30, 12, 36, 11, 14, 13, 15, 102, 16, 105, 135] vs 0), (sl [0, 1, 2, 3, 8, 19, 9, 10, 30, 12, 36, 11, 14, 13, 15, 102, 16, 105, 135] vs 1), (sl [0, 1, 2, 3, 8, 19, 9, 10, 30, 12, 36, 11, 14, 13, 15, 102, 16, 105, 135] vs 2), (sl [0, 1, 2, 3, 8, 19, 9, 10, 30, 12, 36, 11, 14, 13, 15, 102, 16, 105, 135] vs 3), (sl [0, 1, 2, 3, 8, 19, 9, 10, 30, 12, 36, 11, 14, 13, 15, 102, 16, 105, 135] vs 8), (sl [0, 1, 2, 3, 8, 19, 9, 10, 30, 12, 36, 11, 14, 13, 15, 102, 16, 105, 135] vs 19), (sl [0, 1, 2, 3, 8, 19, 9, 10, 30, 12, 36, 11, 14, 13, 15, 102, 16, 105, 135] vs 9), (sl [0, 1, 2, 3, 8, 19, 9, 10, 30, 12, 36, 11, 14, 13, 15, 102, 16, 105, 135] vs 10), (sl [0, 1, 2, 3, 8, 19, 9, 10, 30, 12, 36, 11, 14, 13, 15, 102, 16, 105, 135] vs 30), x38, x26, x35, (sl [0, 1, 2, 3, 8, 19, 9, 10, 30, 12, 36, 11, 14, 13, 15, 102, 16, 105, 135] vs 14), (sl [0, 1, 2, 3, 8, 19, 9, 10, 30, 12, 36, 11, 14, 13, 15, 102, 16, 105, 135] vs 13), (sl [0, 1, 2, 3, 8, 19, 9, 10, 30, 12, 36, 11, 14, 13, 15, 102, 16, 105, 135] vs 15), (sl [0, 1, 2, 3, 8, 19, 9, 10, 30, 12, 36, 11, 14, 13, 15, 102, 16, 105, 135] vs 102), (sl [0, 1, 2, 3, 8, 19, 9, 10, 30, 12, 36, 11, 14, 13, 15, 102, 16, 105, 135] vs 16), (sl [0, 1, 2, 3, 8, 19, 9, 10, 30, 12, 36, 11, 14, 13, 15, 102, 16, 105, 135] vs 105), (sl [0, 1, 2, 3, 8, 19, 9, 10, 30, 12, 36, 11, 14, 13, 15, 102, 16, 105, 135] vs 135)] H) (
  fin (.exit 0) [(sl [0, 1, 2, 3, 8, 19, 9, 10, 30, 12, 36, 11, 14, 13, 15, 102, 16, 105, 135] vs 0), (sl [0, 1, 2, 3, 8, 19, 9, 10, 30, 12, 36, 11, 14, 13, 15, 102, 16, 105, 135] vs 1), (sl [0, 1, 2, 3, 8, 19, 9, 10, 30, 12, 36, 11, 14, 13, 15, 102, 16, 105, 135] vs 2), (sl [0, 1, 2, 3, 8, 19, 9, 10, 30, 12, 36, 11, 14, 13, 15, 102, 16, 105, 135] vs 3), (sl [0, 1, 2, 3, 8, 19, 9, 10, 30, 12, 36, 11, 14, 13, 15, 102, 16, 105, 135] vs 8), (sl [0, 1, 2, 3, 8, 19, 9, 10, 30, 12, 36, 11, 14, 13, 15, 102, 16, 105, 135] vs 19), (sl [0, 1, 2, 3, 8, 19, 9, 10, 30, 12, 36, 11, 14, 13, 15, 102, 16, 105, 135] vs 9), (sl [0, 1, 2, 3, 8, 19, 9, 10, 30, 12, 36, 11, 14, 13, 15, 102, 16, 105, 135] vs 10), (sl [0, 1, 2, 3, 8, 19, 9, 10, 30, 12, 36, 11, 14, 13, 15, 102, 16, 105, 135] vs 30), (sl [0, 1, 2, 3, 8, 19, 9, 10, 30, 12, 36, 11, 14, 13, 15, 102, 16, 105, 135] vs 12), x26, (sl [0, 1, 2, 3, 8, 19, 9, 10, 30, 12, 36, 11, 14, 13, 15, 102, 16, 105, 135] vs 11), (sl [0, 1, 2, 3, 8, 19, 9, 10, 30, 12, 36, 11, 14, 13, 15, 102, 16, 105, 135] vs 14), (sl [0, 1, 2, 3, 8, 19, 9, 10, 30, 12, 36, 11, 14, 13, 15, 102, 16, 105, 135] vs 13), (sl [0, 1, 2, 3, 8, 19, 9, 10, 30, 12, 36, 11, 14, 13, 15, 102, 16, 105, 135] vs 15), (sl [0, 1, 2, 3, 8, 19, 9, 10, 30, 12, 36, 11, 14, 13, 15, 102, 16, 105, 135] vs 102), (sl [0, 1, 2, 3, 8, 19, 9, 10, 30, 12, 36, 11, 14, 13, 15, 102, 16, 105, 135] vs 16), (sl [0, 1, 2, 3, 8, 19, 9, 10, 30, 12, 36, 11, 14, 13, 15, 102, 16, 105, 135] vs 105), (sl [0, 1, 2, 3, 8, 19, 9, 10, 30, 12, 36, 11, 14, 13, 15, 102, 16, 105, 135] vs 135)] H)

noncomputable def F9_b0v (C : Oracle) (n : Nat) (v0 v1 v2 v3 v8 v19 v9 v10 v30 v12 v36 v11 v14 v13 v15 v102 v16 v105 v135 : Value) (H : Heap) : AOut :=
  bnd (some (v12, H)) fun x23 H =>
  bnd (some (v1, H)) fun x24 H =>
  bnd (pS (slen x24) H) fun x25 H =>
  bnd (pS (abin Try.prog .lss 3 x23 x25) H) fun x26 H =>
  brB x26 (bnd (some (v11, H)) fun x27 H =>
  bnd (some (v1, H)) fun x28 H =>
  bnd (some (v12, H)) fun x29 H =>
  bnd (iadS 1 x28 x29 H) fun x30 H =>
  bnd (pS (ld1 x30 H) H) fun x31 H =>
  bnd (pS (abin Try.prog .xor 2 x31 (Value.int .i64 (5))) H) fun x32 H =>
  bnd (abuildSlice Try.prog 28 1 [(0, x32)] H) fun x33 H =>
  bnd (appS 2 1 8 x27 x33 H) fun x34 H =>
  bnd (some (x34, H)) fun x35 H =>
  bnd (some (v12, H)) fun x36 H =>
  bnd (pS (abin Try.prog .add 3 x36 (Value.int .i64 (1))) H) fun x37 H =>
  bnd (some (x37, H)) fun x38 H =>
  fin .normal [v0, v1, v2, v3, v8, v19, v9, v10, v30, x38, x26, x35, v14, v13, v15, v102, v16, v105, v135] H) (
  fin (.exit 0) [v0, v1, v2, v3, v8, v19, v9, v10, v30, v12, x26, v11, v14, v13, v15, v102, v16, v105, v135] H)

theorem F9_b0_v (C : Oracle) (n : Nat) (v0 v1 v2 v3 v8 v19 v9 v10 v30 v12 v36 v11 v14 v13 v15 v102 v16 v105 v135 : Value) (H : Heap) : F9_b0 C n [v0, v1, v2, v3, v8, v19, v9, v10, v30, v12, v36, v11, v14, v13, v15, v102, v16, v105, v135] H = F9_b0v C n v0 v1 v2 v3 v8 v19 v9 v10 v30 v12 v36 v11 v14 v13 v15 v102 v16 v105 v135 H := by
  kernel_rfl

noncomputable def F9_b2 (C : Oracle) (n : Nat) (vs : List Value) (H : Heap) : AOut :=
  bnd (some ((sl [0, 1, 2, 3, 8, 19, 9, 10, 30, 12, 36, 11, 14, 13, 15, 102, 16, 105, 135] vs 16), H)) fun x100 H =>
  bnd (some ((sl [0, 1, 2, 3, 8, 19, 9, 10, 30, 12, 36, 11, 14, 13, 15, 102, 16, 105, 135] vs 15), H)) fun x101 H =>
  bnd (pS (abin Try.prog .lss 3 x100 x101) H) fun x102 H =>
  brB x102 (bnd (some ((sl [0, 1, 2, 3, 8, 19, 9, 10, 30, 12, 36, 11, 14, 13, 15, 102, 16, 105, 135] vs 9), H)) fun x103 Hx103 =>
  bnd (some ((sl [0, 1, 2, 3, 8, 19, 9, 10, 30, 12, 36, 11, 14, 13, 15, 102, 16, 105, 135] vs 13), Hx103)) fun x104 Hx104 =>
  bnd (some ((sl [0, 1, 2, 3, 8, 19, 9, 10, 30, 12, 36, 11, 14, 13, 15, 102, 16, 105, 135] vs 15), Hx104)) fun x105 Hx105 =>
  bnd (some ((sl [0, 1, 2, 3, 8, 19, 9, 10, 30, 12, 36, 11, 14, 13, 15, 102, 16, 105, 135] vs 16), Hx105)) fun x106 Hx106 =>
  bnd (C 49 [x104, x105, x106] Hx106) fun x107 Hx107 =>
  bnd (C 28 [x103, x107] Hx107) fun x108 Hx108 =>
  bnd (some ((sl [0, 1, 2, 3, 8, 19, 9, 10, 30, 12, 36, 11, 14, 13, 15, 102, 16, 105, 135] vs 11), Hx108)) fun x109 Hx109 =>
  bnd (some ((sl [0, 1, 2, 3, 8, 19, 9, 10, 30, 12, 36, 11, 14, 13, 15, 102, 16, 105, 135] vs 16), Hx109)) fun x110 Hx110 =>
  bnd (iadS 1 x109 x110 Hx110) fun x111 Hx111 =>
  bnd (pS (ld1 x111 Hx111) Hx111) fun x112 Hx112 =>
  bnd (pS (abin Try.prog .neq 2 x108 x112) Hx112) fun x113 Hx113 =>
  bnd (some (x113, Hx113)) fun x114 Hx114 =>
  bnd (gd (wantV x114 false) (some ((sl [0, 1, 2, 3, 8, 19, 9, 10, 30, 12, 36, 11, 14, 13, 15, 102, 16, 105, 135] vs 16), Hx114)) Hx114) fun x115 Hx115 =>
  bnd (gd (wantV x114 false) (pS (abin Try.prog .gtr 3 x115 (Value.int .i64 (0))) Hx115) Hx115) fun x116 Hx116 =>
  bnd (gd (wantV x114 false) (some (x116, Hx116)) Hx116) fun x117 Hx117 =>
  bnd (gd (wantV x117 true) (some ((sl [0, 1, 2, 3, 8, 19, 9, 10, 30, 12, 36, 11, 14, 13, 15, 102, 16, 105, 135] vs 9), Hx117)) Hx117) fun x118 Hx118 =>
  bnd (gd (wantV x117 true) (some ((sl [0, 1, 2, 3, 8, 19, 9, 10, 30, 12, 36, 11, 14, 13, 15, 102, 16, 105, 135] vs 13), Hx118)) Hx118) fun x119 Hx119 =>
  bnd (gd (wantV x117 true) (some ((sl [0, 1, 2, 3, 8, 19, 9, 10, 30, 12, 36, 11, 14, 13, 15, 102, 16, 105, 135] vs 16), Hx119)) Hx119) fun x120 Hx120 =>
  bnd (gd (wantV x117 true) (C 47 [x119, x120] Hx120) Hx120) fun x121 Hx121 =>
  bnd (gd (wantV x117 true) (C 28 [x118, x121] Hx121) Hx121) fun x122 Hx122 =>
  bnd (gd (wantV x117 true) (some ((sl [0, 1, 2, 3, 8, 19, 9, 10, 30, 12, 36, 11, 14, 13, 15, 102, 16, 105, 135] vs 1), Hx122)) Hx122) fun x123 Hx123 =>
  bnd (gd (wantV x117 true) (some ((sl [0, 1, 2, 3, 8, 19, 9, 10, 30, 12, 36, 11, 14, 13, 15, 102, 16, 105, 135] vs 16), Hx123)) Hx123) fun x124 Hx124 =>
  bnd (gd (wantV x117 true) (pS (abin Try.prog .sub 3 x124 (Value.int .i64 (1))) Hx124) Hx124) fun x125 Hx125 =>
  bnd (gd (wantV x117 true) (iadS 1 x123 x125 Hx125) Hx125) fun x126 Hx126 =>
  bnd (gd (wantV x117 true) (pS (ld1 x126 Hx126) Hx126) Hx126) fun x127 Hx127 =>
  bnd (gd (wantV x117 true) (pS (abin Try.prog .neq 2 x122 x127) Hx127) Hx127) fun x128 Hx128 =>
  bnd (gd (wantV x114 false) (pickS x117 x128 (Value.bool false) Hx128) Hx128) fun x129 Hx129 =>
  bnd (pickS x114 (Value.bool true) x129 Hx129) fun x130 Hx130 =>
  (fun H => if (cfS (some true) (some true) (pS (ld1 x111 Hx111) Hx111) (pS (ld1 x111 Hx106) Hx106) (pS (ld1 x111 Hx107) Hx107) && (cfS (some true) (some true) (pS (ld1 x111 Hx111) Hx111) (pS (ld1 x111 Hx107) Hx107) (pS (ld1 x111 Hx108) Hx108) && (cfS (wantV x117 true) (wantV x117 true) (pS (ld1 x126 Hx126) Hx126) (pS (ld1 x126 Hx120) Hx120) (pS (ld1 x126 Hx121) Hx121) && (cfS (wantV x117 true) (wantV x117 true) (pS (ld1 x126 Hx126) Hx126) (pS (ld1 x126 Hx121) Hx121) (pS (ld1 x126 Hx122) Hx122) && true)))) = true then
  brB x130 (bnd (some ((Value.bool false), H)) fun x131 H =>
  fin .ret [(sl [0, 1, 2, 3, 8, 19, 9, 10, 30, 12, 36, 11, 14, 13, 15, 102, 16, 105, 135] vs 0), (sl [0, 1, 2, 3, 8, 19, 9, 10, 30, 12, 36, 11, 14, 13, 15, 102, 16, 105, 135] vs 1), (sl [0, 1, 2, 3, 8, 19, 9, 10, 30, 12, 36, 11, 14, 13, 15, 102, 16, 105, 135] vs 2), (sl [0, 1, 2, 3, 8, 19, 9, 10, 30, 12, 36, 11, 14, 13, 15, 102, 16, 105, 135] vs 3), x131, (sl [0, 1, 2, 3, 8, 19, 9, 10, 30, 12, 36, 11, 14, 13, 15, 102, 16, 105, 135] vs 19), (sl [0, 1, 2, 3, 8, 19, 9, 10, 30, 12, 36, 11, 14, 13, 15, 102, 16, 105, 135] vs 9), (sl [0, 1, 2, 3, 8, 19, 9, 10, 30, 12, 36, 11, 14, 13, 15, 102, 16, 105, 135] vs 10), (sl [0, 1, 2, 3, 8, 19, 9, 10, 30, 12, 36, 11, 14, 13, 15, 102, 16, 105, 135] vs 30), (sl [0, 1, 2, 3, 8, 19, 9, 10, 30, 12, 36, 11, 14, 13, 15, 102, 16, 105, 135] vs 12), (sl [0, 1, 2, 3, 8, 19, 9, 10, 30, 12, 36, 11, 14, 13, 15, 102, 16, 105, 135] vs 36), (sl [0, 1, 2, 3, 8, 19, 9, 10, 30, 12, 36, 11, 14, 13, 15, 102, 16, 105, 135] vs 11), (sl [0, 1, 2, 3, 8, 19, 9, 10, 30, 12, 36, 11, 14, 13, 15, 102, 16, 105, 135] vs 14), (sl [0, 1, 2, 3, 8, 19, 9, 10, 30, 12, 36, 11, 14, 13, 15, 102, 16, 105, 135] vs 13), (sl [0, 1, 2, 3, 8, 19, 9, 10, 30, 12, 36, 11, 14, 13, 15, 102, 16, 105, 135] vs 15), (sl [0, 1, 2, 3, 8, 19, 9, 10, 30, 12, 36, 11, 14, 13, 15, 102, 16, 105, 135] vs 102), (sl [0, 1, 2, 3, 8, 19, 9, 10, 30, 12, 36, 11, 14, 13, 15, 102, 16, 105, 135] vs 16), x102, x130] H) (
  bnd (some ((sl [0, 1, 2, 3, 8, 19, 9, 10, 30, 12, 36, 11, 14, 13, 15, 102, 16, 105, 135] vs 16), H)) fun x132 H =>
  bnd (pS (abin Try.prog .add 3 x132 (Value.int .i64 (1))) H) fun x133 H =>
  bnd (some (x133, H)) fun x134 H =>
  fin .normal [(sl [0, 1, 2, 3, 8, 19, 9, 10, 30, 12, 36, 11, 14, 13, 15, 102, 16, 105, 135] vs 0), (sl [0, 1, 2, 3, 8, 19, 9, 10, 30, 12, 36, 11, 14, 13, 15, 102, 16, 105, 135] vs 1), (sl [0, 1, 2, 3, 8, 19, 9, 10, 30, 12, 36, 11, 14, 13, 15, 102, 16, 105, 135] vs 2), (sl [0, 1, 2, 3, 8, 19, 9, 10, 30, 12, 36, 11, 14, 13, 15, 102, 16, 105, 135] vs 3), (sl [0, 1, 2, 3, 8, 19, 9, 10, 30, 12, 36, 11, 14, 13, 15, 102, 16, 105, 135] vs 8), (sl [0, 1, 2, 3, 8, 19, 9, 10, 30, 12, 36, 11, 14, 13, 15, 102, 16, 105, 135] vs 19), (sl [0, 1, 2, 3, 8, 19, 9, 10, 30, 12, 36, 11, 14, 13, 15, 102, 16, 105, 135] vs 9), (sl [0, 1, 2, 3, 8, 19, 9, 10, 30, 12, 36, 11, 14, 13, 15, 102, 16, 105, 135] vs 10), (sl [0, 1, 2, 3, 8, 19, 9, 10, 30, 12, 36, 11, 14, 13, 15, 102, 16, 105, 135] vs 30), (sl [0, 1, 2, 3, 8, 19, 9, 10, 30, 12, 36, 11, 14, 13, 15, 102, 16, 105, 135] vs 12), (sl [0, 1, 2, 3, 8, 19, 9, 10, 30, 12, 36, 11, 14, 13, 15, 102, 16, 105, 135] vs 36), (sl [0, 1, 2, 3, 8, 19, 9, 10, 30, 12, 36, 11, 14, 13, 15, 102, 16, 105, 135] vs 11), (sl [0, 1, 2, 3, 8, 19, 9, 10, 30, 12, 36, 11, 14, 13, 15, 102, 16, 105, 135] vs 14), (sl [0, 1, 2, 3, 8, 19, 9, 10, 30, 12, 36, 11, 14, 13, 15, 102, 16, 105, 135] vs 13), (sl [0, 1, 2, 3, 8, 19, 9, 10, 30, 12, 36, 11, 14, 13, 15, 102, 16, 105, 135] vs 15), (sl [0, 1, 2, 3, 8, 19, 9, 10, 30, 12, 36, 11, 14, 13, 15, 102, 16, 105, 135] vs 102), x134, x102, x130] H) else none) Hx130) (
  fin (.exit 2) [(sl [0, 1, 2, 3, 8, 19, 9, 10, 30, 12, 36, 11, 14, 13, 15, 102, 16, 105, 135] vs 0), (sl [0, 1, 2, 3, 8, 19, 9, 10, 30, 12, 36, 11, 14, 13, 15, 102, 16, 105, 135] vs 1), (sl [0, 1, 2, 3, 8, 19, 9, 10, 30, 12, 36, 11, 14, 13, 15, 102, 16, 105, 135] vs 2), (sl [0, 1, 2, 3, 8, 19, 9, 10, 30, 12, 36, 11, 14, 13, 15, 102, 16, 105, 135] vs 3), (sl [0, 1, 2, 3, 8, 19, 9, 10, 30, 12, 36, 11, 14, 13, 15, 102, 16, 105, 135] vs 8), (sl [0, 1, 2, 3, 8, 19, 9, 10, 30, 12, 36, 11, 14, 13, 15, 102, 16, 105, 135] vs 19), (sl [0, 1, 2, 3, 8, 19, 9, 10, 30, 12, 36, 11, 14, 13, 15, 102, 16, 105, 135] vs 9), (sl [0, 1, 2, 3, 8, 19, 9, 10, 30, 12, 36, 11, 14, 13, 15, 102, 16, 105, 135] vs 10), (sl [0, 1, 2, 3, 8, 19, 9, 10, 30, 12, 36, 11, 14, 13, 15, 102, 16, 105, 135] vs 30), (sl [0, 1, 2, 3, 8, 19, 9, 10, 30, 12, 36, 11, 14, 13, 15, 102, 16, 105, 135] vs 12), (sl [0, 1, 2, 3, 8, 19, 9, 10, 30, 12, 36, 11, 14, 13, 15, 102, 16, 105, 135] vs 36), (sl [0, 1, 2, 3, 8, 19, 9, 10, 30, 12, 36, 11, 14, 13, 15, 102, 16, 105, 135] vs 11), (sl [0, 1, 2, 3, 8, 19, 9, 10, 30, 12, 36, 11, 14, 13, 15, 102, 16, 105, 135] vs 14), (sl [0, 1, 2, 3, 8, 19, 9, 10, 30, 12, 36, 11, 14, 13, 15, 102, 16, 105, 135] vs 13), (sl [0, 1, 2, 3, 8, 19, 9, 10, 30, 12, 36, 11, 14, 13, 15, 102, 16, 105, 135] vs 15), (sl [0, 1, 2, 3, 8, 19, 9, 10, 30, 12, 36, 11, 14, 13, 15, 102, 16, 105, 135] vs 102), (sl [0, 1, 2, 3, 8, 19, 9, 10, 30, 12, 36, 11, 14, 13, 15, 102, 16, 105, 135] vs 16), x102, (sl [0, 1, 2, 3, 8, 19, 9, 10, 30, 12, 36, 11, 14, 13, 15, 102, 16, 105, 135] vs 135)] H)

noncomputable def F9_b2v (C : Oracle) (n : Nat) (v0 v1 v2 v3 v8 v19 v9 v10 v30 v12 v36 v11 v14 v13 v15 v102 v16 v105 v135 : Value) (H : Heap) : AOut :=
  bnd (some (v16, H)) fun x100 H =>
  bnd (some (v15, H)) fun x101 H =>
  bnd (pS (abin Try.prog .lss 3 x100 x101) H) fun x102 H =>
  brB x102 (bnd (some (v9, H)) fun x103 Hx103 =>
  bnd (some (v13, Hx103)) fun x104 Hx104 =>
  bnd (some (v15, Hx104)) fun x105 Hx105 =>
  bnd (some (v16, Hx105)) fun x106 Hx106 =>
  bnd (C 49 [x104, x105, x106] Hx106) fun x107 Hx107 =>
  bnd (C 28 [x103, x107] Hx107) fun x108 Hx108 =>
  bnd (some (v11, Hx108)) fun x109 Hx109 =>
  bnd (some (v16, Hx109)) fun x110 Hx110 =>
  bnd (iadS 1 x109 x110 Hx110) fun x111 Hx111 =>
  bnd (pS (ld1 x111 Hx111) Hx111) fun x112 Hx112 =>
  bnd (pS (abin Try.prog .neq 2 x108 x112) Hx112) fun x113 Hx113 =>
  bnd (some (x113, Hx113)) fun x114 Hx114 =>
  bnd (gd (wantV x114 false) (some (v16, Hx114)) Hx114) fun x115 Hx115 =>
  bnd (gd (wantV x114 false) (pS (abin Try.prog .gtr 3 x115 (Value.int .i64 (0))) Hx115) Hx115) fun x116 Hx116 =>
  bnd (gd (wantV x114 false) (some (x116, Hx116)) Hx116) fun x117 Hx117 =>
  bnd (gd (wantV x117 true) (some (v9, Hx117)) Hx117) fun x118 Hx118 =>
  bnd (gd (wantV x117 true) (some (v13, Hx118)) Hx118) fun x119 Hx119 =>
  bnd (gd (wantV x117 true) (some (v16, Hx119)) Hx119) fun x120 Hx120 =>
  bnd (gd (wantV x117 true) (C 47 [x119, x120] Hx120) Hx120) fun x121 Hx121 =>
  bnd (gd (wantV x117 true) (C 28 [x118, x121] Hx121) Hx121) fun x122 Hx122 =>
  bnd (gd (wantV x117 true) (some (v1, Hx122)) Hx122) fun x123 Hx123 =>
  bnd (gd (wantV x117 true) (some (v16, Hx123)) Hx123) fun x124 Hx124 =>
  bnd (gd (wantV x117 true) (pS (abin Try.prog .sub 3 x124 (Value.int .i64 (1))) Hx124) Hx124) fun x125 Hx125 =>
  bnd (gd (wantV x117 true) (iadS 1 x123 x125 Hx125) Hx125) fun x126 Hx126 =>
  bnd (gd (wantV x117 true) (pS (ld1 x126 Hx126) Hx126) Hx126) fun x127 Hx127 =>
  bnd (gd (wantV x117 true) (pS (abin Try.prog .neq 2 x122 x127) Hx127) Hx127) fun x128 Hx128 =>
  bnd (gd (wantV x114 false) (pickS x117 x128 (Value.bool false) Hx128) Hx128) fun x129 Hx129 =>
  bnd (pickS x114 (Value.bool true) x129 Hx129) fun x130 Hx130 =>
  (fun H => if (cfS (some true) (some true) (pS (ld1 x111 Hx111) Hx111) (pS (ld1 x111 Hx106) Hx106) (pS (ld1 x111 Hx107) Hx107) && (cfS (some true) (some true) (pS (ld1 x111 Hx111) Hx111) (pS (ld1 x111 Hx107) Hx107) (pS (ld1 x111 Hx108) Hx108) && (cfS (wantV x117 true) (wantV x117 true) (pS (ld1 x126 Hx126) Hx126) (pS (ld1 x126 Hx120) Hx120) (pS (ld1 x126 Hx121) Hx121) && (cfS (wantV x117 true) (wantV x117 true) (pS (ld1 x126 Hx126) Hx126) (pS (ld1 x126 Hx121) Hx121) (pS (ld1 x126 Hx122) Hx122) && true)))) = true then
  brB x130 (bnd (some ((Value.bool false), H)) fun x131 H =>
  fin .ret [v0, v1, v2, v3, x131, v19, v9, v10, v30, v12, v36, v11, v14, v13, v15, v102, v16, x102, x130] H) (
  bnd (some (v16, H)) fun x132 H =>
  bnd (pS (abin Try.prog .add 3 x132 (Value.int .i64 (1))) H) fun x133 H =>
  bnd (some (x133, H)) fun x134 H =>
  fin .normal [v0, v1, v2, v3, v8, v19, v9, v10, v30, v12, v36, v11, v14, v13, v15, v102, x134, x102, x130] H) else none) Hx130) (
  fin (.exit 2) [v0, v1, v2, v3, v8, v19, v9, v10, v30, v12, v36, v11, v14, v13, v15, v102, v16, x102, v135] H)

theorem F9_b2_v (C : Oracle) (n : Nat) (v0 v1 v2 v3 v8 v19 v9 v10 v30 v12 v36 v11 v14 v13 v15 v102 v16 v105 v135 : Value) (H : Heap) : F9_b2 C n [v0, v1, v2, v3, v8, v19, v9, v10, v30, v12, v36, v11, v14, v13, v15, v102, v16, v105, v135] H = F9_b2v C n v0 v1 v2 v3 v8 v19 v9 v10 v30 v12 v36 v11 v14 v13 v15 v102 v16 v105 v135 H := by
  kernel_rfl

noncomputable def F9_j3 (C : Oracle) (n : Nat) (vs : List Value) (H : Heap) : Option (Value × Heap) :=
  bnd (C 36 [] H) fun x135 H =>
  bnd (some (x135, H)) fun x136 H =>
  bnd (gd (wantV x136 true) (some ((sl [0, 1, 2, 3, 8, 19, 9, 10, 30, 12, 36, 11, 14, 13, 15, 102, 16, 105, 135] vs 13), H)) H) fun x137 H =>
  bnd (gd (wantV x136 true) (some ((sl [0, 1, 2, 3, 8, 19, 9, 10, 30, 12, 36, 11, 14, 13, 15, 102, 16, 105, 135] vs 15), H)) H) fun x138 H =>
  bnd (gd (wantV x136 true) (some ((sl [0, 1, 2, 3, 8, 19, 9, 10, 30, 12, 36, 11, 14, 13, 15, 102, 16, 105, 135] vs 15), H)) H) fun x139 H =>
  bnd (gd (wantV x136 true) (pS (abin Try.prog .sub 3 x139 (Value.int .i64 (1))) H) H) fun x140 H =>
  bnd (gd (wantV x136 true) (C 49 [x137, x138, x140] H) H) fun x141 H =>
  bnd (gd (wantV x136 true) (some ((sl [0, 1, 2, 3, 8, 19, 9, 10, 30, 12, 36, 11, 14, 13, 15, 102, 16, 105, 135] vs 9), H)) H) fun x142 H =>
  bnd (gd (wantV x136 true) (C 20 [x142] H) H) fun x143 H =>
  bnd (gd (wantV x136 true) (pS (abin Try.prog .eql 3 x141 x143) H) H) fun x144 H =>
  bnd (pickS x136 x144 (Value.bool false) H) fun x145 H =>
  bnd (some (x145, H)) fun x146 H =>
  bnd (gd (wantV x146 true) (some ((sl [0, 1, 2, 3, 8, 19, 9, 10, 30, 12, 36, 11, 14, 13, 15, 102, 16, 105, 135] vs 9), H)) H) fun x147 H =>
  bnd (gd (wantV x146 true) (C 20 [x147] H) H) fun x148 H =>
  bnd (gd (wantV x146 true) (some ((sl [0, 1, 2, 3, 8, 19, 9, 10, 30, 12, 36, 11, 14, 13, 15, 102, 16, 105, 135] vs 13), H)) H) fun x149 H =>
  bnd (gd (wantV x146 true) (some ((sl [0, 1, 2, 3, 8, 19, 9, 10, 30, 12, 36, 11, 14, 13, 15, 102, 16, 105, 135] vs 15), H)) H) fun x150 H =>
  bnd (gd (wantV x146 true) (pS (abin Try.prog .mul 3 (Value.int .i64 (2)) x150) H) H) fun x151 H =>
  bnd (gd (wantV x146 true) (pS (abin Try.prog .add 3 x149 x151) H) H) fun x152 H =>
  bnd (gd (wantV x146 true) (pS (abin Try.prog .add 3 x152 (Value.int .i64 (3))) H) H) fun x153 H =>
  bnd (gd (wantV x146 true) (pS (abin Try.prog .eql 3 x148 x153) H) H) fun x154 H =>
  bnd (pickS x146 x154 (Value.bool false) H) fun x155 H =>
  bnd (some (x155, H)) fun x156 H =>
  some (x156, H)

noncomputable def F9_j3v (C : Oracle) (n : Nat) (v0 v1 v2 v3 v8 v19 v9 v10 v30 v12 v36 v11 v14 v13 v15 v102 v16 v105 v135 : Value) (H : Heap) : Option (Value × Heap) :=
  bnd (C 36 [] H) fun x135 H =>
  bnd (some (x135, H)) fun x136 H =>
  bnd (gd (wantV x136 true) (some (v13, H)) H) fun x137 H =>
  bnd (gd (wantV x136 true) (some (v15, H)) H) fun x138 H =>
  bnd (gd (wantV x136 true) (some (v15, H)) H) fun x139 H =>
  bnd (gd (wantV x136 true) (pS (abin Try.prog .sub 3 x139 (Value.int .i64 (1))) H) H) fun x140 H =>
  bnd (gd (wantV x136 true) (C 49 [x137, x138, x140] H) H) fun x141 H =>
  bnd (gd (wantV x136 true) (some (v9, H)) H) fun x142 H =>
  bnd (gd (wantV x136 true) (C 20 [x142] H) H) fun x143 H =>
  bnd (gd (wantV x136 true) (pS (abin Try.prog .eql 3 x141 x143) H) H) fun x144 H =>
  bnd (pickS x136 x144 (Value.bool false) H) fun x145 H =>
  bnd (some (x145, H)) fun x146 H =>
  bnd (gd (wantV x146 true) (some (v9, H)) H) fun x147 H =>
  bnd (gd (wantV x146 true) (C 20 [x147] H) H) fun x148 H =>
  bnd (gd (wantV x146 true) (some (v13, H)) H) fun x149 H =>
  bnd (gd (wantV x146 true) (some (v15, H)) H) fun x150 H =>
  bnd (gd (wantV x146 true) (pS (abin Try.prog .mul 3 (Value.int .i64 (2)) x150) H) H) fun x151 H =>
  bnd (gd (wantV x146 true) (pS (abin Try.prog .add 3 x149 x151) H) H) fun x152 H =>
  bnd (gd (wantV x146 true) (pS (abin Try.prog .add 3 x152 (Value.int .i64 (3))) H) H) fun x153 H =>
  bnd (gd (wantV x146 true) (pS (abin Try.prog .eql 3 x148 x153) H) H) fun x154 H =>
  bnd (pickS x146 x154 (Value.bool false) H) fun x155 H =>
  bnd (some (x155, H)) fun x156 H =>
  some (x156, H)

theorem F9_j3_v (C : Oracle) (n : Nat) (v0 v1 v2 v3 v8 v19 v9 v10 v30 v12 v36 v11 v14 v13 v15 v102 v16 v105 v135 : Value) (H : Heap) : F9_j3 C n [v0, v1, v2, v3, v8, v19, v9, v10, v30, v12, v36, v11, v14, v13, v15, v102, v16, v105, v135] H = F9_j3v C n v0 v1 v2 v3 v8 v19 v9 v10 v30 v12 v36 v11 v14 v13 v15 v102 v16 v105 v135 H := by
  kernel_rfl

noncomputable def F9_j1 (C : Oracle) (n : Nat) (vs : List Value) (H : Heap) : Option (Value × Heap) :=
  bnd (some ((sl [0, 1, 2, 3, 8, 19, 9, 10, 30, 12, 36, 11, 14, 13, 15, 102, 16, 105, 135] vs 9), H)) fun x39 H =>
  bnd (some ((sl [0, 1, 2, 3, 8, 19, 9, 10, 30, 12, 36, 11, 14, 13, 15, 102, 16, 105, 135] vs 3), H)) fun x40 H =>
  bnd (C 15 [x40, (Value.int .i64 (20))] H) fun x41 H =>
  bnd (pS (abin Try.prog .add 3 (Value.int .i64 (1)) x41) H) fun x42 H =>
  bnd (mkS 2 1 8 [(Value.int .i64 (0))] x42 x42 H) fun x43 H =>
  bnd (C 17 [x39, x43] H) fun x44 H =>
  bnd (some ((sl [0, 1, 2, 3, 8, 19, 9, 10, 30, 12, 36, 11, 14, 13, 15, 102, 16, 105, 135] vs 9), H)) fun x45 H =>
  bnd (some ((sl [0, 1, 2, 3, 8, 19, 9, 10, 30, 12, 36, 11, 14, 13, 15, 102, 16, 105, 135] vs 0), H)) fun x46 H =>
  bnd (some ((sl [0, 1, 2, 3, 8, 19, 9, 10, 30, 12, 36, 11, 14, 13, 15, 102, 16, 105, 135] vs 1), H)) fun x47 H =>
  bnd (some ((sl [0, 1, 2, 3, 8, 19, 9, 10, 30, 12, 36, 11, 14, 13, 15, 102, 16, 105, 135] vs 11), H)) fun x48 H =>
  bnd (C 37 [x46, x47, x48] H) fun x49 H =>
  bnd (C 17 [x45, x49] H) fun x50 H =>
  bnd (some (x50, H)) fun x51 H =>
  bnd (extS 0 x51 H) fun x52 H =>
  bnd (extS 1 x51 H) fun x53 H =>
  bnd (some (x52, H)) fun x54 H =>
  bnd (some (x53, H)) fun x55 H =>
  bnd (some ((sl [0, 1, 2, 3, 8, 19, 9, 10, 30, 12, 36, 11, 14, 13, 15, 102, 16, 105, 135] vs 11), H)) fun x56 H =>
  bnd (pS (slen x56) H) fun x57 H =>
  bnd (some (x57, H)) fun x58 H =>
  bnd (some (x55, H)) fun x59 H =>
  bnd (pS (aun .not x59) H) fun x60 H =>
  bnd (some (x60, H)) fun x61 H =>
  bnd (gd (wantV x61 false) (some ((sl [0, 1, 2, 3, 8, 19, 9, 10, 30, 12, 36, 11, 14, 13, 15, 102, 16, 105, 135] vs 9), H)) H) fun x62 H =>
  bnd (gd (wantV x61 false) (some (x54, H)) H) fun x63 H =>
  bnd (gd (wantV x61 false) (pS (abin Try.prog .add 3 x63 (Value.int .i64 (0))) H) H) fun x64 H =>
  bnd (gd (wantV x61 false) (C 28 [x62, x64] H) H) fun x65 H =>
  bnd (gd (wantV x61 false) (some (x58, H)) H) fun x66 H =>
  bnd (gd (wantV x61 false) (pS (abin Try.prog .neq 2 x65 x66) H) H) fun x67 H =>
  bnd (pickS x61 (Value.bool true) x67 H) fun x68 H =>
  bnd (some (x68, H)) fun x69 H =>
  bnd (gd (wantV x69 false) (some ((sl [0, 1, 2, 3, 8, 19, 9, 10, 30, 12, 36, 11, 14, 13, 15, 102, 16, 105, 135] vs 9), H)) H) fun x70 H =>
  bnd (gd (wantV x69 false) (some (x54, H)) H) fun x71 H =>
  bnd (gd (wantV x69 false) (pS (abin Try.prog .add 3 x71 (Value.int .i64 (1))) H) H) fun x72 H =>
  bnd (gd (wantV x69 false) (C 28 [x70, x72] H) H) fun x73 H =>
  bnd (gd (wantV x69 false) (some ((sl [0, 1, 2, 3, 8, 19, 9, 10, 30, 12, 36, 11, 14, 13, 15, 102, 16, 105, 135] vs 0), H)) H) fun x74 H =>
  bnd (gd (wantV x69 false) (pS (abin Try.prog .neq 2 x73 x74) H) H) fun x75 H =>
  bnd (pickS x69 (Value.bool true) x75 H) fun x76 H =>
  bnd (some (x76, H)) fun x77 H =>
  bnd (gd (wantV x77 false) (some ((sl [0, 1, 2, 3, 8, 19, 9, 10, 30, 12, 36, 11, 14, 13, 15, 102, 16, 105, 135] vs 9), H)) H) fun x78 H =>
  bnd (gd (wantV x77 false) (some (x54, H)) H) fun x79 H =>
  bnd (gd (wantV x77 false) (pS (abin Try.prog .add 3 x79 (Value.int .i64 (2))) H) H) fun x80 H =>
  bnd (gd (wantV x77 false) (C 28 [x78, x80] H) H) fun x81 H =>
  bnd (gd (wantV x77 false) (pS (abin Try.prog .neq 2 x81 (Value.int .i64 (0))) H) H) fun x82 H =>
  bnd (pickS x77 (Value.bool true) x82 H) fun x83 H =>
  bnd (some (x83, H)) fun x84 H =>
  bnd (gd (wantV x84 false) (some ((sl [0, 1, 2, 3, 8, 19, 9, 10, 30, 12, 36, 11, 14, 13, 15, 102, 16, 105, 135] vs 9), H)) H) fun x85 H =>
  bnd (gd (wantV x84 false) (some (x54, H)) H) fun x86 H =>
  bnd (gd (wantV x84 false) (pS (abin Try.prog .add 3 x86 (Value.int .i64 (3))) H) H) fun x87 H =>
  bnd (gd (wantV x84 false) (C 28 [x85, x87] H) H) fun x88 H =>
  bnd (gd (wantV x84 false) (pS (abin Try.prog .neq 2 x88 (Value.int .i64 (0))) H) H) fun x89 H =>
  bnd (pickS x84 (Value.bool true) x89 H) fun x90 H =>
  bnd (some (x90, H)) fun x91 H =>
  bnd (gd (wantV x91 false) (some ((sl [0, 1, 2, 3, 8, 19, 9, 10, 30, 12, 36, 11, 14, 13, 15, 102, 16, 105, 135] vs 9), H)) H) fun x92 H =>
  bnd (gd (wantV x91 false) (some (x54, H)) H) fun x93 H =>
  bnd (gd (wantV x91 false) (pS (abin Try.prog .add 3 x93 (Value.int .i64 (4))) H) H) fun x94 H =>
  bnd (gd (wantV x91 false) (C 28 [x92, x94] H) H) fun x95 H =>
  bnd (gd (wantV x91 false) (pS (abin Try.prog .neq 2 x95 (Value.int .i64 (0))) H) H) fun x96 H =>
  bnd (pickS x91 (Value.bool true) x96 H) fun x97 H =>
  brB x97 (bnd (some ((Value.bool false), H)) fun x98 H =>
  some (x98, H)) (
  bnd (some ((Value.int .i64 (0)), H)) fun x99 H =>
  onOut (iter n (F9_b2 C n) [(sl [0, 1, 2, 3, 8, 19, 9, 10, 30, 12, 36, 11, 14, 13, 15, 102, 16, 105, 135] vs 0), (sl [0, 1, 2, 3, 8, 19, 9, 10, 30, 12, 36, 11, 14, 13, 15, 102, 16, 105, 135] vs 1), (sl [0, 1, 2, 3, 8, 19, 9, 10, 30, 12, 36, 11, 14, 13, 15, 102, 16, 105, 135] vs 2), (sl [0, 1, 2, 3, 8, 19, 9, 10, 30, 12, 36, 11, 14, 13, 15, 102, 16, 105, 135] vs 3), (sl [0, 1, 2, 3, 8, 19, 9, 10, 30, 12, 36, 11, 14, 13, 15, 102, 16, 105, 135] vs 8), (sl [0, 1, 2, 3, 8, 19, 9, 10, 30, 12, 36, 11, 14, 13, 15, 102, 16, 105, 135] vs 19), (sl [0, 1, 2, 3, 8, 19, 9, 10, 30, 12, 36, 11, 14, 13, 15, 102, 16, 105, 135] vs 9), (sl [0, 1, 2, 3, 8, 19, 9, 10, 30, 12, 36, 11, 14, 13, 15, 102, 16, 105, 135] vs 10), (sl [0, 1, 2, 3, 8, 19, 9, 10, 30, 12, 36, 11, 14, 13, 15, 102, 16, 105, 135] vs 30), (sl [0, 1, 2, 3, 8, 19, 9, 10, 30, 12, 36, 11, 14, 13, 15, 102, 16, 105, 135] vs 12), (sl [0, 1, 2, 3, 8, 19, 9, 10, 30, 12, 36, 11, 14, 13, 15, 102, 16, 105, 135] vs 36), (sl [0, 1, 2, 3, 8, 19, 9, 10, 30, 12, 36, 11, 14, 13, 15, 102, 16, 105, 135] vs 11), x55, x54, x58, x97, x99, (sl [0, 1, 2, 3, 8, 19, 9, 10, 30, 12, 36, 11, 14, 13, 15, 102, 16, 105, 135] vs 105), (sl [0, 1, 2, 3, 8, 19, 9, 10, 30, 12, 36, 11, 14, 13, 15, 102, 16, 105, 135] vs 135)] H) (kBlk 2 (kSeq (F9_j3 C n) (kRet Try.prog [.tmp 8] [0, 1, 2, 3, 8, 19, 9, 10, 30, 12, 36, 11, 14, 13, 15, 102, 16, 105, 135]))))

noncomputable def F9_j1v (C : Oracle) (n : Nat) (v0 v1 v2 v3 v8 v19 v9 v10 v30 v12 v36 v11 v14 v13 v15 v102 v16 v105 v135 : Value) (H : Heap) : Option (Value × Heap) :=
  bnd (some (v9, H)) fun x39 H =>
  bnd (some (v3, H)) fun x40 H =>
  bnd (C 15 [x40, (Value.int .i64 (20))] H) fun x41 H =>
  bnd (pS (abin Try.prog .add 3 (Value.int .i64 (1)) x41) H) fun x42 H =>
  bnd (mkS 2 1 8 [(Value.int .i64 (0))] x42 x42 H) fun x43 H =>
  bnd (C 17 [x39, x43] H) fun x44 H =>
  bnd (some (v9, H)) fun x45 H =>
  bnd (some (v0, H)) fun x46 H =>
  bnd (some (v1, H)) fun x47 H =>
  bnd (some (v11, H)) fun x48 H =>
  bnd (C 37 [x46, x47, x48] H) fun x49 H =>
  bnd (C 17 [x45, x49] H) fun x50 H =>
  bnd (some (x50, H)) fun x51 H =>
  bnd (extS 0 x51 H) fun x52 H =>
  bnd (extS 1 x51 H) fun x53 H =>
  bnd (some (x52, H)) fun x54 H =>
  bnd (some (x53, H)) fun x55 H =>
  bnd (some (v11, H)) fun x56 H =>
  bnd (pS (slen x56) H) fun x57 H =>
  bnd (some (x57, H)) fun x58 H =>
  bnd (some (x55, H)) fun x59 H =>
  bnd (pS (aun .not x59) H) fun x60 H =>
  bnd (some (x60, H)) fun x61 H =>
  bnd (gd (wantV x61 false) (some (v9, H)) H) fun x62 H =>
  bnd (gd (wantV x61 false) (some (x54, H)) H) fun x63 H =>
  bnd (gd (wantV x61 false) (pS (abin Try.prog .add 3 x63 (Value.int .i64 (0))) H) H) fun x64 H =>
  bnd (gd (wantV x61 false) (C 28 [x62, x64] H) H) fun x65 H =>
  bnd (gd (wantV x61 false) (some (x58, H)) H) fun x66 H =>
  bnd (gd (wantV x61 false) (pS (abin Try.prog .neq 2 x65 x66) H) H) fun x67 H =>
  bnd (pickS x61 (Value.bool true) x67 H) fun x68 H =>
  bnd (some (x68, H)) fun x69 H =>
  bnd (gd (wantV x69 false) (some (v9, H)) H) fun x70 H =>
  bnd (gd (wantV x69 false) (some (x54, H)) H) fun x71 H =>
  bnd (gd (wantV x69 false) (pS (abin Try.prog .add 3 x71 (Value.int .i64 (1))) H) H) fun x72 H =>
  bnd (gd (wantV x69 false) (C 28 [x70, x72] H) H) fun x73 H =>
  bnd (gd (wantV x69 false) (some (v0, H)) H) fun x74 H =>
  bnd (gd (wantV x69 false) (pS (abin Try.prog .neq 2 x73 x74) H) H) fun x75 H =>
  bnd (pickS x69 (Value.bool true) x75 H) fun x76 H =>
  bnd (some (x76, H)) fun x77 H =>
  bnd (gd (wantV x77 false) (some (v9, H)) H) fun x78 H =>
  bnd (gd (wantV x77 false) (some (x54, H)) H) fun x79 H =>
  bnd (gd (wantV x77 false) (pS (abin Try.prog .add 3 x79 (Value.int .i64 (2))) H) H) fun x80 H =>
  bnd (gd (wantV x77 false) (C 28 [x78, x80] H) H) fun x81 H =>
  bnd (gd (wantV x77 false) (pS (abin Try.prog .neq 2 x81 (Value.int .i64 (0))) H) H) fun x82 H =>
  bnd (pickS x77 (Value.bool true) x82 H) fun x83 H =>
  bnd (some (x83, H)) fun x84 H =>
  bnd (gd (wantV x84 false) (some (v9, H)) H) fun x85 H =>
  bnd (gd (wantV x84 false) (some (x54, H)) H) fun x86 H =>
  bnd (gd (wantV x84 false) (pS (abin Try.prog .add 3 x86 (Value.int .i64 (3))) H) H) fun x87 H =>
  bnd (gd (wantV x84 false) (C 28 [x85, x87] H) H) fun x88 H =>
  bnd (gd (wantV x84 false) (pS (abin Try.prog .neq 2 x88 (Value.int .i64 (0))) H) H) fun x89 H =>
  bnd (pickS x84 (Value.bool true) x89 H) fun x90 H =>
  bnd (some (x90, H)) fun x91 H =>
  bnd (gd (wantV x91 false) (some (v9, H)) H) fun x92 H =>
  bnd (gd (wantV x91 false) (some (x54, H)) H) fun x93 H =>
  bnd (gd (wantV x91 false) (pS (abin Try.prog .add 3 x93 (Value.int .i64 (4))) H) H) fun x94 H =>
  bnd (gd (wantV x91 false) (C 28 [x92, x94] H) H) fun x95 H =>
  bnd (gd (wantV x91 false) (pS (abin Try.prog .neq 2 x95 (Value.int .i64 (0))) H) H) fun x96 H =>
  bnd (pickS x91 (Value.bool true) x96 H) fun x97 H =>
  brB x97 (bnd (some ((Value.bool false), H)) fun x98 H =>
  some (x98, H)) (
  bnd (some ((Value.int .i64 (0)), H)) fun x99 H =>
  onOut (iter n (F9_b2 C n) [v0, v1, v2, v3, v8, v19, v9, v10, v30, v12, v36, v11, x55, x54, x58, x97, x99, v105, v135] H) (kBlk 2 (kSeq (F9_j3 C n) (kRet Try.prog [.tmp 8] [0, 1, 2, 3, 8, 19, 9, 10, 30, 12, 36, 11, 14, 13, 15, 102, 16, 105, 135]))))

theorem F9_j1_v (C : Oracle) (n : Nat) (v0 v1 v2 v3 v8 v19 v9 v10 v30 v12 v36 v11 v14 v13 v15 v102 v16 v105 v135 : Value) (H : Heap) : F9_j1 C n [v0, v1, v2, v3, v8, v19, v9, v10, v30, v12, v36, v11, v14, v13, v15, v102, v16, v105, v135] H = F9_j1v C n v0 v1 v2 v3 v8 v19 v9 v10 v30 v12 v36 v11 v14 v13 v15 v102 v16 v105 v135 H := by
  kernel_rfl

noncomputable def F9 (C : Oracle) (n : Nat) (a0 a1 a2 a3 : Value) (H : Heap) : Option (Value × Heap) :=
  bnd (some ((Value.bool false), H)) fun x0 H =>
  bnd (some (a1, H)) fun x1 H =>
  bnd (pS (slen x1) H) fun x2 H =>
  bnd (pS (abin Try.prog .gtr 3 x2 (Value.int .i64 (100))) H) fun x3 H =>
  brB x3 (bnd (C 36 [] H) fun x4 H =>
  bnd (some (x4, H)) fun x5 H =>
  some (x5, H)) (
  bnd (C 16 [(Value.int .i64 (400))] H) fun x6 H =>
  bnd (some (x6, H)) fun x7 H =>
  bnd (extS 0 x7 H) fun x8 H =>
  bnd (extS 1 x7 H) fun x9 H =>
  bnd (some (x8, H)) fun x10 H =>
  bnd (some (x9, H)) fun x11 H =>
  bnd (some (x10, H)) fun x12 H =>
  bnd (pS (abin Try.prog .eql 24 x12 (Value.pointer none)) H) fun x13 H =>
  bnd (some (x13, H)) fun x14 H =>
  bnd (gd (wantV x14 false) (some (x11, H)) H) fun x15 H =>
  bnd (gd (wantV x14 false) (pS (abin Try.prog .neq 25 x15 (Value.int .i64 (0))) H) H) fun x16 H =>
  bnd (pickS x14 (Value.bool true) x16 H) fun x17 H =>
  brB x17 (bnd (some ((Value.bool false), H)) fun x18 H =>
  some (x18, H)) (
  bnd (some (a2, H)) fun x19 H =>
  bnd (abuildSlice Try.prog 28 1 [(0, x19)] H) fun x20 H =>
  bnd (some (x20, H)) fun x21 H =>
  bnd (some ((Value.int .i64 (0)), H)) fun x22 H =>
  onOut (iter n (F9_b0 C n) [a0, a1, a2, a3, x0, x3, x10, x11, x17, x22, undef, x21, undef, undef, undef, undef, undef, undef, undef] H) (kBlk 0 (kSeq (F9_j1 C n) (kRet Try.prog [.tmp 8] [0, 1, 2, 3, 8, 19, 9, 10, 30, 12, 36, 11, 14, 13, 15, 102, 16, 105, 135])))))

theorem F9_eq (G : Oracle) (n : Nat) (a0 a1 a2 a3 : Value) (H : Heap) : run G (n + 1) 9 [a0, a1, a2, a3] H = F9 (run G n) n a0 a1 a2 a3 H := by
  unfold run; rw [acall_k (fn := Try.f9) (keep := [0, 1, 2, 3, 8, 19, 9, 10, 30, 12, 36, 11, 14, 13, 15, 102, 16, 105, 135]) (notBad 9 rfl) (by kernel_rfl) (by kernel_rfl)]
  kernel_rfl

end Go.Proofs.Ytpenlcigickkbaa.Fun
