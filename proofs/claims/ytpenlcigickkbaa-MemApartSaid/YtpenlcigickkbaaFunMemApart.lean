/- The program's functions as plain terms, each with its equation; printed by wip/am/fun.py. -/
import Derived.Test.YtpenlcigickkbaaFunK
namespace Go.Proofs.Ytpenlcigickkbaa.Fun
open Go.RowKit Go.Proofs.YtpenlcigickkbaaA.Am
set_option linter.unusedVariables false
set_option maxRecDepth 10000
abbrev F7_st (v0 : Value := undef) (v1 : Value := undef) (v2 : Value := undef) (v6 : Value := undef) (v19 : Value := undef) (v7 : Value := undef) (v8 : Value := undef) (v30 : Value := undef) (v9 : Value := undef) (v47 : Value := undef) (v11 : Value := undef) (v10 : Value := undef) (v53 : Value := undef) : List Value := [v0, v1, v2, v6, v19, v7, v8, v30, v9, v47, v11, v10, v53]

noncomputable def F7_b0 (C : Oracle) (n : Nat) (vs : List Value) (H : Heap) : AOut :=
  bnd (some ((sl [0, 1, 2, 6, 19, 7, 8, 30, 9, 47, 11, 10, 53] vs 11), H)) fun x47 H =>
  bnd (some ((sl [0, 1, 2, 6, 19, 7, 8, 30, 9, 47, 11, 10, 53] vs 10), H)) fun x48 H =>
  bnd (pS (slen x48) H) fun x49 H =>
  bnd (pS (abin Try.prog .lss 3 x47 x49) H) fun x50 H =>
  brB x50 (bnd (some ((sl [0, 1, 2, 6, 19, 7, 8, 30, 9, 47, 11, 10, 53] vs 10), H)) fun x51 H =>
  bnd (some ((sl [0, 1, 2, 6, 19, 7, 8, 30, 9, 47, 11, 10, 53] vs 11), H)) fun x52 H =>
  bnd (some ((sl [0, 1, 2, 6, 19, 7, 8, 30, 9, 47, 11, 10, 53] vs 10), H)) fun x53 H =>
  bnd (some ((sl [0, 1, 2, 6, 19, 7, 8, 30, 9, 47, 11, 10, 53] vs 11), H)) fun x54 H =>
  bnd (iadS 1 x53 x54 H) fun x55 H =>
  bnd (pS (ld1 x55 H) H) fun x56 H =>
  bnd (pS (abin Try.prog .xor 2 x56 (Value.int .i64 (1))) H) fun x57 H =>
  bnd (iadS 1 x51 x52 H) fun x58 H =>
  bnd (stS 1 x58 x57 H) fun x59 H =>
  bnd (some ((sl [0, 1, 2, 6, 19, 7, 8, 30, 9, 47, 11, 10, 53] vs 11), H)) fun x60 H =>
  bnd (pS (abin Try.prog .add 3 x60 (Value.int .i64 (1))) H) fun x61 H =>
  bnd (some (x61, H)) fun x62 H =>
  fin .normal [(sl [0, 1, 2, 6, 19, 7, 8, 30, 9, 47, 11, 10, 53] vs 0), (sl [0, 1, 2, 6, 19, 7, 8, 30, 9, 47, 11, 10, 53] vs 1), (sl [0, 1, 2, 6, 19, 7, 8, 30, 9, 47, 11, 10, 53] vs 2), (sl [0, 1, 2, 6, 19, 7, 8, 30, 9, 47, 11, 10, 53] vs 6), (sl [0, 1, 2, 6, 19, 7, 8, 30, 9, 47, 11, 10, 53] vs 19), (sl [0, 1, 2, 6, 19, 7, 8, 30, 9, 47, 11, 10, 53] vs 7), (sl [0, 1, 2, 6, 19, 7, 8, 30, 9, 47, 11, 10, 53] vs 8), (sl [0, 1, 2, 6, 19, 7, 8, 30, 9, 47, 11, 10, 53] vs 30), (sl [0, 1, 2, 6, 19, 7, 8, 30, 9, 47, 11, 10, 53] vs 9), (sl [0, 1, 2, 6, 19, 7, 8, 30, 9, 47, 11, 10, 53] vs 47), x62, (sl [0, 1, 2, 6, 19, 7, 8, 30, 9, 47, 11, 10, 53] vs 10), x50] H) (
  fin (.exit 0) [(sl [0, 1, 2, 6, 19, 7, 8, 30, 9, 47, 11, 10, 53] vs 0), (sl [0, 1, 2, 6, 19, 7, 8, 30, 9, 47, 11, 10, 53] vs 1), (sl [0, 1, 2, 6, 19, 7, 8, 30, 9, 47, 11, 10, 53] vs 2), (sl [0, 1, 2, 6, 19, 7, 8, 30, 9, 47, 11, 10, 53] vs 6), (sl [0, 1, 2, 6, 19, 7, 8, 30, 9, 47, 11, 10, 53] vs 19), (sl [0, 1, 2, 6, 19, 7, 8, 30, 9, 47, 11, 10, 53] vs 7), (sl [0, 1, 2, 6, 19, 7, 8, 30, 9, 47, 11, 10, 53] vs 8), (sl [0, 1, 2, 6, 19, 7, 8, 30, 9, 47, 11, 10, 53] vs 30), (sl [0, 1, 2, 6, 19, 7, 8, 30, 9, 47, 11, 10, 53] vs 9), (sl [0, 1, 2, 6, 19, 7, 8, 30, 9, 47, 11, 10, 53] vs 47), (sl [0, 1, 2, 6, 19, 7, 8, 30, 9, 47, 11, 10, 53] vs 11), (sl [0, 1, 2, 6, 19, 7, 8, 30, 9, 47, 11, 10, 53] vs 10), x50] H)

noncomputable def F7_b0v (C : Oracle) (n : Nat) (v0 v1 v2 v6 v19 v7 v8 v30 v9 v47 v11 v10 v53 : Value) (H : Heap) : AOut :=
  bnd (some (v11, H)) fun x47 H =>
  bnd (some (v10, H)) fun x48 H =>
  bnd (pS (slen x48) H) fun x49 H =>
  bnd (pS (abin Try.prog .lss 3 x47 x49) H) fun x50 H =>
  brB x50 (bnd (some (v10, H)) fun x51 H =>
  bnd (some (v11, H)) fun x52 H =>
  bnd (some (v10, H)) fun x53 H =>
  bnd (some (v11, H)) fun x54 H =>
  bnd (iadS 1 x53 x54 H) fun x55 H =>
  bnd (pS (ld1 x55 H) H) fun x56 H =>
  bnd (pS (abin Try.prog .xor 2 x56 (Value.int .i64 (1))) H) fun x57 H =>
  bnd (iadS 1 x51 x52 H) fun x58 H =>
  bnd (stS 1 x58 x57 H) fun x59 H =>
  bnd (some (v11, H)) fun x60 H =>
  bnd (pS (abin Try.prog .add 3 x60 (Value.int .i64 (1))) H) fun x61 H =>
  bnd (some (x61, H)) fun x62 H =>
  fin .normal [v0, v1, v2, v6, v19, v7, v8, v30, v9, v47, x62, v10, x50] H) (
  fin (.exit 0) [v0, v1, v2, v6, v19, v7, v8, v30, v9, v47, v11, v10, x50] H)

theorem F7_b0_v (C : Oracle) (n : Nat) (v0 v1 v2 v6 v19 v7 v8 v30 v9 v47 v11 v10 v53 : Value) (H : Heap) : F7_b0 C n [v0, v1, v2, v6, v19, v7, v8, v30, v9, v47, v11, v10, v53] H = F7_b0v C n v0 v1 v2 v6 v19 v7 v8 v30 v9 v47 v11 v10 v53 H := by
  kernel_rfl

noncomputable def F7_j1 (C : Oracle) (n : Nat) (vs : List Value) (H : Heap) : Option (Value × Heap) :=
  bnd (some ((sl [0, 1, 2, 6, 19, 7, 8, 30, 9, 47, 11, 10, 53] vs 1), H)) fun x63 H =>
  bnd (some ((sl [0, 1, 2, 6, 19, 7, 8, 30, 9, 47, 11, 10, 53] vs 0), H)) fun x64 H =>
  bnd (pS (slen x64) H) fun x65 H =>
  bnd (C 15 [x63, x65] H) fun x66 H =>
  bnd (pS (abin Try.prog .add 3 (Value.int .i64 (1)) x66) H) fun x67 H =>
  bnd (some (x67, H)) fun x68 H =>
  bnd (some ((sl [0, 1, 2, 6, 19, 7, 8, 30, 9, 47, 11, 10, 53] vs 7), H)) fun x69 H =>
  bnd (some (x68, H)) fun x70 H =>
  bnd (some ((sl [0, 1, 2, 6, 19, 7, 8, 30, 9, 47, 11, 10, 53] vs 2), H)) fun x71 H =>
  bnd (C 24 [x69, x70, x71] H) fun x72 H =>
  bnd (some ((sl [0, 1, 2, 6, 19, 7, 8, 30, 9, 47, 11, 10, 53] vs 9), H)) fun x73 H =>
  bnd (abuildSlice Try.prog 28 2 [(0, (Value.int .i64 (4))), (1, (Value.int .i64 (5)))] H) fun x74 H =>
  bnd (C 17 [x73, x74] H) fun x75 H =>
  bnd (C 19 [] H) fun x76 Hx76 =>
  bnd (some (x76, Hx76)) fun x77 Hx77 =>
  bnd (gd (wantV x77 true) (some ((sl [0, 1, 2, 6, 19, 7, 8, 30, 9, 47, 11, 10, 53] vs 9), Hx77)) Hx77) fun x78 Hx78 =>
  bnd (gd (wantV x77 true) (some (x68, Hx78)) Hx78) fun x79 Hx79 =>
  bnd (gd (wantV x77 true) (C 28 [x78, x79] Hx79) Hx79) fun x80 Hx80 =>
  bnd (gd (wantV x77 true) (some ((sl [0, 1, 2, 6, 19, 7, 8, 30, 9, 47, 11, 10, 53] vs 0), Hx80)) Hx80) fun x81 Hx81 =>
  bnd (gd (wantV x77 true) (some (x68, Hx81)) Hx81) fun x82 Hx82 =>
  bnd (gd (wantV x77 true) (pS (abin Try.prog .sub 3 x82 (Value.int .i64 (1))) Hx82) Hx82) fun x83 Hx83 =>
  bnd (gd (wantV x77 true) (iadS 1 x81 x83 Hx83) Hx83) fun x84 Hx84 =>
  bnd (gd (wantV x77 true) (pS (ld1 x84 Hx84) Hx84) Hx84) fun x85 Hx85 =>
  bnd (gd (wantV x77 true) (pS (abin Try.prog .eql 2 x80 x85) Hx85) Hx85) fun x86 Hx86 =>
  bnd (pickS x77 x86 (Value.bool false) Hx86) fun x87 Hx87 =>
  bnd (some (x87, Hx87)) fun x88 Hx88 =>
  bnd (gd (wantV x88 true) (some ((sl [0, 1, 2, 6, 19, 7, 8, 30, 9, 47, 11, 10, 53] vs 7), Hx88)) Hx88) fun x89 Hx89 =>
  bnd (gd (wantV x88 true) (some (x68, Hx89)) Hx89) fun x90 Hx90 =>
  bnd (gd (wantV x88 true) (C 28 [x89, x90] Hx90) Hx90) fun x91 Hx91 =>
  bnd (gd (wantV x88 true) (some ((sl [0, 1, 2, 6, 19, 7, 8, 30, 9, 47, 11, 10, 53] vs 2), Hx91)) Hx91) fun x92 Hx92 =>
  bnd (gd (wantV x88 true) (pS (abin Try.prog .eql 2 x91 x92) Hx92) Hx92) fun x93 Hx93 =>
  bnd (pickS x88 x93 (Value.bool false) Hx93) fun x94 Hx94 =>
  bnd (some (x94, Hx94)) fun x95 Hx95 =>
  bnd (gd (wantV x95 true) (some ((sl [0, 1, 2, 6, 19, 7, 8, 30, 9, 47, 11, 10, 53] vs 7), Hx95)) Hx95) fun x96 Hx96 =>
  bnd (gd (wantV x95 true) (C 20 [x96] Hx96) Hx96) fun x97 Hx97 =>
  bnd (gd (wantV x95 true) (some ((sl [0, 1, 2, 6, 19, 7, 8, 30, 9, 47, 11, 10, 53] vs 0), Hx97)) Hx97) fun x98 Hx98 =>
  bnd (gd (wantV x95 true) (pS (slen x98) Hx98) Hx98) fun x99 Hx99 =>
  bnd (gd (wantV x95 true) (pS (abin Try.prog .eql 3 x97 x99) Hx99) Hx99) fun x100 Hx100 =>
  bnd (pickS x95 x100 (Value.bool false) Hx100) fun x101 Hx101 =>
  bnd (some (x101, Hx101)) fun x102 Hx102 =>
  bnd (gd (wantV x102 true) (some ((sl [0, 1, 2, 6, 19, 7, 8, 30, 9, 47, 11, 10, 53] vs 9), Hx102)) Hx102) fun x103 Hx103 =>
  bnd (gd (wantV x102 true) (C 20 [x103] Hx103) Hx103) fun x104 Hx104 =>
  bnd (gd (wantV x102 true) (some ((sl [0, 1, 2, 6, 19, 7, 8, 30, 9, 47, 11, 10, 53] vs 0), Hx104)) Hx104) fun x105 Hx105 =>
  bnd (gd (wantV x102 true) (pS (slen x105) Hx105) Hx105) fun x106 Hx106 =>
  bnd (gd (wantV x102 true) (pS (abin Try.prog .add 3 x106 (Value.int .i64 (2))) Hx106) Hx106) fun x107 Hx107 =>
  bnd (gd (wantV x102 true) (pS (abin Try.prog .eql 3 x104 x107) Hx107) Hx107) fun x108 Hx108 =>
  bnd (pickS x102 x108 (Value.bool false) Hx108) fun x109 Hx109 =>
  bnd (some (x109, Hx109)) fun x110 Hx110 =>
  (fun H => if (cfS (wantV x77 true) (wantV x77 true) (pS (ld1 x84 Hx84) Hx84) (pS (ld1 x84 Hx79) Hx79) (pS (ld1 x84 Hx80) Hx80) && true) = true then
  some (x110, H) else none) Hx110

noncomputable def F7_j1v (C : Oracle) (n : Nat) (v0 v1 v2 v6 v19 v7 v8 v30 v9 v47 v11 v10 v53 : Value) (H : Heap) : Option (Value × Heap) :=
  bnd (some (v1, H)) fun x63 H =>
  bnd (some (v0, H)) fun x64 H =>
  bnd (pS (slen x64) H) fun x65 H =>
  bnd (C 15 [x63, x65] H) fun x66 H =>
  bnd (pS (abin Try.prog .add 3 (Value.int .i64 (1)) x66) H) fun x67 H =>
  bnd (some (x67, H)) fun x68 H =>
  bnd (some (v7, H)) fun x69 H =>
  bnd (some (x68, H)) fun x70 H =>
  bnd (some (v2, H)) fun x71 H =>
  bnd (C 24 [x69, x70, x71] H) fun x72 H =>
  bnd (some (v9, H)) fun x73 H =>
  bnd (abuildSlice Try.prog 28 2 [(0, (Value.int .i64 (4))), (1, (Value.int .i64 (5)))] H) fun x74 H =>
  bnd (C 17 [x73, x74] H) fun x75 H =>
  bnd (C 19 [] H) fun x76 Hx76 =>
  bnd (some (x76, Hx76)) fun x77 Hx77 =>
  bnd (gd (wantV x77 true) (some (v9, Hx77)) Hx77) fun x78 Hx78 =>
  bnd (gd (wantV x77 true) (some (x68, Hx78)) Hx78) fun x79 Hx79 =>
  bnd (gd (wantV x77 true) (C 28 [x78, x79] Hx79) Hx79) fun x80 Hx80 =>
  bnd (gd (wantV x77 true) (some (v0, Hx80)) Hx80) fun x81 Hx81 =>
  bnd (gd (wantV x77 true) (some (x68, Hx81)) Hx81) fun x82 Hx82 =>
  bnd (gd (wantV x77 true) (pS (abin Try.prog .sub 3 x82 (Value.int .i64 (1))) Hx82) Hx82) fun x83 Hx83 =>
  bnd (gd (wantV x77 true) (iadS 1 x81 x83 Hx83) Hx83) fun x84 Hx84 =>
  bnd (gd (wantV x77 true) (pS (ld1 x84 Hx84) Hx84) Hx84) fun x85 Hx85 =>
  bnd (gd (wantV x77 true) (pS (abin Try.prog .eql 2 x80 x85) Hx85) Hx85) fun x86 Hx86 =>
  bnd (pickS x77 x86 (Value.bool false) Hx86) fun x87 Hx87 =>
  bnd (some (x87, Hx87)) fun x88 Hx88 =>
  bnd (gd (wantV x88 true) (some (v7, Hx88)) Hx88) fun x89 Hx89 =>
  bnd (gd (wantV x88 true) (some (x68, Hx89)) Hx89) fun x90 Hx90 =>
  bnd (gd (wantV x88 true) (C 28 [x89, x90] Hx90) Hx90) fun x91 Hx91 =>
  bnd (gd (wantV x88 true) (some (v2, Hx91)) Hx91) fun x92 Hx92 =>
  bnd (gd (wantV x88 true) (pS (abin Try.prog .eql 2 x91 x92) Hx92) Hx92) fun x93 Hx93 =>
  bnd (pickS x88 x93 (Value.bool false) Hx93) fun x94 Hx94 =>
  bnd (some (x94, Hx94)) fun x95 Hx95 =>
  bnd (gd (wantV x95 true) (some (v7, Hx95)) Hx95) fun x96 Hx96 =>
  bnd (gd (wantV x95 true) (C 20 [x96] Hx96) Hx96) fun x97 Hx97 =>
  bnd (gd (wantV x95 true) (some (v0, Hx97)) Hx97) fun x98 Hx98 =>
  bnd (gd (wantV x95 true) (pS (slen x98) Hx98) Hx98) fun x99 Hx99 =>
  bnd (gd (wantV x95 true) (pS (abin Try.prog .eql 3 x97 x99) Hx99) Hx99) fun x100 Hx100 =>
  bnd (pickS x95 x100 (Value.bool false) Hx100) fun x101 Hx101 =>
  bnd (some (x101, Hx101)) fun x102 Hx102 =>
  bnd (gd (wantV x102 true) (some (v9, Hx102)) Hx102) fun x103 Hx103 =>
  bnd (gd (wantV x102 true) (C 20 [x103] Hx103) Hx103) fun x104 Hx104 =>
  bnd (gd (wantV x102 true) (some (v0, Hx104)) Hx104) fun x105 Hx105 =>
  bnd (gd (wantV x102 true) (pS (slen x105) Hx105) Hx105) fun x106 Hx106 =>
  bnd (gd (wantV x102 true) (pS (abin Try.prog .add 3 x106 (Value.int .i64 (2))) Hx106) Hx106) fun x107 Hx107 =>
  bnd (gd (wantV x102 true) (pS (abin Try.prog .eql 3 x104 x107) Hx107) Hx107) fun x108 Hx108 =>
  bnd (pickS x102 x108 (Value.bool false) Hx108) fun x109 Hx109 =>
  bnd (some (x109, Hx109)) fun x110 Hx110 =>
  (fun H => if (cfS (wantV x77 true) (wantV x77 true) (pS (ld1 x84 Hx84) Hx84) (pS (ld1 x84 Hx79) Hx79) (pS (ld1 x84 Hx80) Hx80) && true) = true then
  some (x110, H) else none) Hx110

theorem F7_j1_v (C : Oracle) (n : Nat) (v0 v1 v2 v6 v19 v7 v8 v30 v9 v47 v11 v10 v53 : Value) (H : Heap) : F7_j1 C n [v0, v1, v2, v6, v19, v7, v8, v30, v9, v47, v11, v10, v53] H = F7_j1v C n v0 v1 v2 v6 v19 v7 v8 v30 v9 v47 v11 v10 v53 H := by
  kernel_rfl

noncomputable def F7 (C : Oracle) (n : Nat) (a0 a1 a2 : Value) (H : Heap) : Option (Value × Heap) :=
  bnd (some ((Value.bool false), H)) fun x0 H =>
  bnd (some (a0, H)) fun x1 H =>
  bnd (pS (slen x1) H) fun x2 H =>
  bnd (pS (abin Try.prog .eql 3 x2 (Value.int .i64 (0))) H) fun x3 H =>
  bnd (some (x3, H)) fun x4 H =>
  bnd (gd (wantV x4 false) (some (a0, H)) H) fun x5 H =>
  bnd (gd (wantV x4 false) (pS (slen x5) H) H) fun x6 H =>
  bnd (gd (wantV x4 false) (pS (abin Try.prog .gtr 3 x6 (Value.int .i64 (200))) H) H) fun x7 H =>
  bnd (pickS x4 (Value.bool true) x7 H) fun x8 H =>
  brB x8 (bnd (C 19 [] H) fun x9 H =>
  bnd (some (x9, H)) fun x10 H =>
  some (x10, H)) (
  bnd (C 16 [(Value.int .i64 (300))] H) fun x11 H =>
  bnd (some (x11, H)) fun x12 H =>
  bnd (extS 0 x12 H) fun x13 H =>
  bnd (extS 1 x12 H) fun x14 H =>
  bnd (some (x13, H)) fun x15 H =>
  bnd (some (x14, H)) fun x16 H =>
  bnd (some (x15, H)) fun x17 H =>
  bnd (pS (abin Try.prog .eql 24 x17 (Value.pointer none)) H) fun x18 H =>
  bnd (some (x18, H)) fun x19 H =>
  bnd (gd (wantV x19 false) (some (x16, H)) H) fun x20 H =>
  bnd (gd (wantV x19 false) (pS (abin Try.prog .neq 25 x20 (Value.int .i64 (0))) H) H) fun x21 H =>
  bnd (pickS x19 (Value.bool true) x21 H) fun x22 H =>
  brB x22 (bnd (some ((Value.bool false), H)) fun x23 H =>
  some (x23, H)) (
  bnd (some (x15, H)) fun x24 H =>
  bnd (some (a0, H)) fun x25 H =>
  bnd (C 17 [x24, x25] H) fun x26 H =>
  bnd (some (x15, H)) fun x27 H =>
  bnd (C 30 [x27] H) fun x28 H =>
  bnd (some (x28, H)) fun x29 H =>
  bnd (some (x29, H)) fun x30 H =>
  bnd (pS (abin Try.prog .eql 24 x30 (Value.pointer none)) H) fun x31 H =>
  bnd (some (x31, H)) fun x32 H =>
  bnd (gd (wantV x32 false) (some (x29, H)) H) fun x33 H =>
  bnd (gd (wantV x32 false) (C 23 [x33] H) H) fun x34 H =>
  bnd (gd (wantV x32 false) (pS (abin Try.prog .neq 3 x34 (Value.int .i64 (1))) H) H) fun x35 H =>
  bnd (pickS x32 (Value.bool true) x35 H) fun x36 H =>
  bnd (some (x36, H)) fun x37 H =>
  bnd (gd (wantV x37 false) (some (x29, H)) H) fun x38 H =>
  bnd (gd (wantV x37 false) (C 35 [x38] H) H) fun x39 H =>
  bnd (gd (wantV x37 false) (pS (abin Try.prog .neq 3 x39 (Value.int .i64 (300))) H) H) fun x40 H =>
  bnd (pickS x37 (Value.bool true) x40 H) fun x41 H =>
  brB x41 (bnd (some ((Value.bool false), H)) fun x42 H =>
  some (x42, H)) (
  bnd (some (x15, H)) fun x43 H =>
  bnd (C 22 [x43] H) fun x44 H =>
  bnd (some (x44, H)) fun x45 H =>
  bnd (some ((Value.int .i64 (0)), H)) fun x46 H =>
  onOut (iter n (F7_b0 C n) [a0, a1, a2, x0, x8, x15, x16, x22, x29, x41, x46, x45, undef] H) (kBlk 0 (kSeq (F7_j1 C n) (kRet Try.prog [.tmp 6] [0, 1, 2, 6, 19, 7, 8, 30, 9, 47, 11, 10, 53]))))))

theorem F7_eq (G : Oracle) (n : Nat) (a0 a1 a2 : Value) (H : Heap) : run G (n + 1) 7 [a0, a1, a2] H = F7 (run G n) n a0 a1 a2 H := by
  unfold run; rw [acall_k (fn := Try.f7) (keep := [0, 1, 2, 6, 19, 7, 8, 30, 9, 47, 11, 10, 53]) (notBad 7 rfl) (by kernel_rfl) (by kernel_rfl)]
  kernel_rfl

end Go.Proofs.Ytpenlcigickkbaa.Fun
