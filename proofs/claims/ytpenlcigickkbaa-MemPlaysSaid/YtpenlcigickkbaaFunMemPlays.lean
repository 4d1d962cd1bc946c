/- The program's functions as plain terms, each with its equation; printed by wip/am/fun.py. -/
import Derived.Test.YtpenlcigickkbaaFunK
namespace Go.Proofs.Ytpenlcigickkbaa.Fun
open Go.RowKit Go.Proofs.YtpenlcigickkbaaA.Am
set_option linter.unusedVariables false
set_option maxRecDepth 10000
abbrev F6_st (v0 : Value := undef) (v1 : Value := undef) (v2 : Value := undef) (v6 : Value := undef) (v7 : Value := undef) (v9 : Value := undef) (v11 : Value := undef) (v8 : Value := undef) (v10 : Value := undef) (v40 : Value := undef) (v42 : Value := undef) (v12 : Value := undef) (v50 : Value := undef) (v59 : Value := undef) (v67 : Value := undef) (v13 : Value := undef) (v77 : Value := undef) (v112 : Value := undef) : List Value := [v0, v1, v2, v6, v7, v9, v11, v8, v10, v40, v42, v12, v50, v59, v67, v13, v77, v112]

noncomputable def F6_j1 (C : Oracle) (n : Nat) (vs : List Value) (H : Heap) : AOut :=
  bnd (some ((sl [0, 1, 2, 6, 7, 9, 11, 8, 10, 40, 42, 12, 50, 59, 67, 13, 77, 112] vs 12), H)) fun x46 H =>
  bnd (pS (abin Try.prog .add 3 x46 (Value.int .i64 (1))) H) fun x47 H =>
  bnd (some (x47, H)) fun x48 H =>
  fin .normal [(sl [0, 1, 2, 6, 7, 9, 11, 8, 10, 40, 42, 12, 50, 59, 67, 13, 77, 112] vs 0), (sl [0, 1, 2, 6, 7, 9, 11, 8, 10, 40, 42, 12, 50, 59, 67, 13, 77, 112] vs 1), (sl [0, 1, 2, 6, 7, 9, 11, 8, 10, 40, 42, 12, 50, 59, 67, 13, 77, 112] vs 2), (sl [0, 1, 2, 6, 7, 9, 11, 8, 10, 40, 42, 12, 50, 59, 67, 13, 77, 112] vs 6), (sl [0, 1, 2, 6, 7, 9, 11, 8, 10, 40, 42, 12, 50, 59, 67, 13, 77, 112] vs 7), (sl [0, 1, 2, 6, 7, 9, 11, 8, 10, 40, 42, 12, 50, 59, 67, 13, 77, 112] vs 9), (sl [0, 1, 2, 6, 7, 9, 11, 8, 10, 40, 42, 12, 50, 59, 67, 13, 77, 112] vs 11), (sl [0, 1, 2, 6, 7, 9, 11, 8, 10, 40, 42, 12, 50, 59, 67, 13, 77, 112] vs 8), (sl [0, 1, 2, 6, 7, 9, 11, 8, 10, 40, 42, 12, 50, 59, 67, 13, 77, 112] vs 10), (sl [0, 1, 2, 6, 7, 9, 11, 8, 10, 40, 42, 12, 50, 59, 67, 13, 77, 112] vs 40), (sl [0, 1, 2, 6, 7, 9, 11, 8, 10, 40, 42, 12, 50, 59, 67, 13, 77, 112] vs 42), x48, (sl [0, 1, 2, 6, 7, 9, 11, 8, 10, 40, 42, 12, 50, 59, 67, 13, 77, 112] vs 50), (sl [0, 1, 2, 6, 7, 9, 11, 8, 10, 40, 42, 12, 50, 59, 67, 13, 77, 112] vs 59), (sl [0, 1, 2, 6, 7, 9, 11, 8, 10, 40, 42, 12, 50, 59, 67, 13, 77, 112] vs 67), (sl [0, 1, 2, 6, 7, 9, 11, 8, 10, 40, 42, 12, 50, 59, 67, 13, 77, 112] vs 13), (sl [0, 1, 2, 6, 7, 9, 11, 8, 10, 40, 42, 12, 50, 59, 67, 13, 77, 112] vs 77), (sl [0, 1, 2, 6, 7, 9, 11, 8, 10, 40, 42, 12, 50, 59, 67, 13, 77, 112] vs 112)] H

noncomputable def F6_j1v (C : Oracle) (n : Nat) (v0 v1 v2 v6 v7 v9 v11 v8 v10 v40 v42 v12 v50 v59 v67 v13 v77 v112 : Value) (H : Heap) : AOut :=
  bnd (some (v12, H)) fun x46 H =>
  bnd (pS (abin Try.prog .add 3 x46 (Value.int .i64 (1))) H) fun x47 H =>
  bnd (some (x47, H)) fun x48 H =>
  fin .normal [v0, v1, v2, v6, v7, v9, v11, v8, v10, v40, v42, x48, v50, v59, v67, v13, v77, v112] H

theorem F6_j1_v (C : Oracle) (n : Nat) (v0 v1 v2 v6 v7 v9 v11 v8 v10 v40 v42 v12 v50 v59 v67 v13 v77 v112 : Value) (H : Heap) : F6_j1 C n [v0, v1, v2, v6, v7, v9, v11, v8, v10, v40, v42, v12, v50, v59, v67, v13, v77, v112] H = F6_j1v C n v0 v1 v2 v6 v7 v9 v11 v8 v10 v40 v42 v12 v50 v59 v67 v13 v77 v112 H := by
  kernel_rfl

noncomputable def F6_j2 (C : Oracle) (n : Nat) (vs : List Value) (H : Heap) : AOut :=
  bnd (some ((sl [0, 1, 2, 6, 7, 9, 11, 8, 10, 40, 42, 12, 50, 59, 67, 13, 77, 112] vs 8), H)) fun x58 Hx58 =>
  bnd (some ((sl [0, 1, 2, 6, 7, 9, 11, 8, 10, 40, 42, 12, 50, 59, 67, 13, 77, 112] vs 10), Hx58)) fun x59 Hx59 =>
  bnd (some ((sl [0, 1, 2, 6, 7, 9, 11, 8, 10, 40, 42, 12, 50, 59, 67, 13, 77, 112] vs 1), Hx59)) fun x60 Hx60 =>
  bnd (some ((sl [0, 1, 2, 6, 7, 9, 11, 8, 10, 40, 42, 12, 50, 59, 67, 13, 77, 112] vs 12), Hx60)) fun x61 Hx61 =>
  bnd (iadS 6 x60 x61 Hx61) fun x62 Hx62 =>
  bnd (pS (ldn 6 x62 Hx62) Hx62) fun x63 Hx63 =>
  bnd (C 31 [x58, x59, x63] Hx63) fun x64 Hx64 =>
  bnd (pS (aun .not x64) Hx64) fun x65 Hx65 =>
  bnd (some (x65, Hx65)) fun x66 Hx66 =>
  bnd (gd (wantV x66 false) (some ((sl [0, 1, 2, 6, 7, 9, 11, 8, 10, 40, 42, 12, 50, 59, 67, 13, 77, 112] vs 8), Hx66)) Hx66) fun x67 Hx67 =>
  bnd (gd (wantV x66 false) (C 23 [x67] Hx67) Hx67) fun x68 Hx68 =>
  bnd (gd (wantV x66 false) (some ((sl [0, 1, 2, 6, 7, 9, 11, 8, 10, 40, 42, 12, 50, 59, 67, 13, 77, 112] vs 10), Hx68)) Hx68) fun x69 Hx69 =>
  bnd (gd (wantV x66 false) (nckS x69 Hx69) Hx69) fun x70 Hx70 =>
  bnd (gd (wantV x66 false) (fadS 2 x70 Hx70) Hx70) fun x71 Hx71 =>
  bnd (gd (wantV x66 false) (pS (ld1 x71 Hx71) Hx71) Hx71) fun x72 Hx72 =>
  bnd (gd (wantV x66 false) (pS (abin Try.prog .neq 3 x68 x72) Hx72) Hx72) fun x73 Hx73 =>
  bnd (pickS x66 (Value.bool true) x73 Hx73) fun x74 Hx74 =>
  bnd (some (x74, Hx74)) fun x75 Hx75 =>
  bnd (gd (wantV x75 false) (some ((sl [0, 1, 2, 6, 7, 9, 11, 8, 10, 40, 42, 12, 50, 59, 67, 13, 77, 112] vs 8), Hx75)) Hx75) fun x76 Hx76 =>
  bnd (gd (wantV x75 false) (C 21 [x76] Hx76) Hx76) fun x77 Hx77 =>
  bnd (gd (wantV x75 false) (some ((sl [0, 1, 2, 6, 7, 9, 11, 8, 10, 40, 42, 12, 50, 59, 67, 13, 77, 112] vs 10), Hx77)) Hx77) fun x78 Hx78 =>
  bnd (gd (wantV x75 false) (nckS x78 Hx78) Hx78) fun x79 Hx79 =>
  bnd (gd (wantV x75 false) (fadS 3 x79 Hx79) Hx79) fun x80 Hx80 =>
  bnd (gd (wantV x75 false) (pS (ld1 x80 Hx80) Hx80) Hx80) fun x81 Hx81 =>
  bnd (gd (wantV x75 false) (pS (abin Try.prog .neq 3 x77 x81) Hx81) Hx81) fun x82 Hx82 =>
  bnd (pickS x75 (Value.bool true) x82 Hx82) fun x83 Hx83 =>
  bnd (some (x83, Hx83)) fun x84 Hx84 =>
  bnd (gd (wantV x84 false) (some ((sl [0, 1, 2, 6, 7, 9, 11, 8, 10, 40, 42, 12, 50, 59, 67, 13, 77, 112] vs 8), Hx84)) Hx84) fun x85 Hx85 =>
  bnd (gd (wantV x84 false) (C 32 [x85] Hx85) Hx85) fun x86 Hx86 =>
  bnd (gd (wantV x84 false) (some ((sl [0, 1, 2, 6, 7, 9, 11, 8, 10, 40, 42, 12, 50, 59, 67, 13, 77, 112] vs 10), Hx86)) Hx86) fun x87 Hx87 =>
  bnd (gd (wantV x84 false) (nckS x87 Hx87) Hx87) fun x88 Hx88 =>
  bnd (gd (wantV x84 false) (fadS 4 x88 Hx88) Hx88) fun x89 Hx89 =>
  bnd (gd (wantV x84 false) (pS (ld1 x89 Hx89) Hx89) Hx89) fun x90 Hx90 =>
  bnd (gd (wantV x84 false) (pS (abin Try.prog .neq 3 x86 x90) Hx90) Hx90) fun x91 Hx91 =>
  bnd (pickS x84 (Value.bool true) x91 Hx91) fun x92 Hx92 =>
  (fun H => if (cfS (wantV x66 false) (wantV x66 false) (pS (ld1 x71 Hx71) Hx71) (pS (ld1 x71 Hx67) Hx67) (pS (ld1 x71 Hx68) Hx68) && (cfS (wantV x75 false) (wantV x75 false) (pS (ld1 x80 Hx80) Hx80) (pS (ld1 x80 Hx76) Hx76) (pS (ld1 x80 Hx77) Hx77) && (cfS (wantV x84 false) (wantV x84 false) (pS (ld1 x89 Hx89) Hx89) (pS (ld1 x89 Hx85) Hx85) (pS (ld1 x89 Hx86) Hx86) && true))) = true then
  brB x92 (bnd (some ((Value.bool false), H)) fun x93 H =>
  fin .ret [(sl [0, 1, 2, 6, 7, 9, 11, 8, 10, 40, 42, 12, 50, 59, 67, 13, 77, 112] vs 0), (sl [0, 1, 2, 6, 7, 9, 11, 8, 10, 40, 42, 12, 50, 59, 67, 13, 77, 112] vs 1), (sl [0, 1, 2, 6, 7, 9, 11, 8, 10, 40, 42, 12, 50, 59, 67, 13, 77, 112] vs 2), x93, (sl [0, 1, 2, 6, 7, 9, 11, 8, 10, 40, 42, 12, 50, 59, 67, 13, 77, 112] vs 7), (sl [0, 1, 2, 6, 7, 9, 11, 8, 10, 40, 42, 12, 50, 59, 67, 13, 77, 112] vs 9), (sl [0, 1, 2, 6, 7, 9, 11, 8, 10, 40, 42, 12, 50, 59, 67, 13, 77, 112] vs 11), (sl [0, 1, 2, 6, 7, 9, 11, 8, 10, 40, 42, 12, 50, 59, 67, 13, 77, 112] vs 8), (sl [0, 1, 2, 6, 7, 9, 11, 8, 10, 40, 42, 12, 50, 59, 67, 13, 77, 112] vs 10), (sl [0, 1, 2, 6, 7, 9, 11, 8, 10, 40, 42, 12, 50, 59, 67, 13, 77, 112] vs 40), (sl [0, 1, 2, 6, 7, 9, 11, 8, 10, 40, 42, 12, 50, 59, 67, 13, 77, 112] vs 42), (sl [0, 1, 2, 6, 7, 9, 11, 8, 10, 40, 42, 12, 50, 59, 67, 13, 77, 112] vs 12), (sl [0, 1, 2, 6, 7, 9, 11, 8, 10, 40, 42, 12, 50, 59, 67, 13, 77, 112] vs 50), (sl [0, 1, 2, 6, 7, 9, 11, 8, 10, 40, 42, 12, 50, 59, 67, 13, 77, 112] vs 59), (sl [0, 1, 2, 6, 7, 9, 11, 8, 10, 40, 42, 12, 50, 59, 67, 13, 77, 112] vs 67), (sl [0, 1, 2, 6, 7, 9, 11, 8, 10, 40, 42, 12, 50, 59, 67, 13, 77, 112] vs 13), (sl [0, 1, 2, 6, 7, 9, 11, 8, 10, 40, 42, 12, 50, 59, 67, 13, 77, 112] vs 77), x92] H) (
  F6_j1 C n [(sl [0, 1, 2, 6, 7, 9, 11, 8, 10, 40, 42, 12, 50, 59, 67, 13, 77, 112] vs 0), (sl [0, 1, 2, 6, 7, 9, 11, 8, 10, 40, 42, 12, 50, 59, 67, 13, 77, 112] vs 1), (sl [0, 1, 2, 6, 7, 9, 11, 8, 10, 40, 42, 12, 50, 59, 67, 13, 77, 112] vs 2), (sl [0, 1, 2, 6, 7, 9, 11, 8, 10, 40, 42, 12, 50, 59, 67, 13, 77, 112] vs 6), (sl [0, 1, 2, 6, 7, 9, 11, 8, 10, 40, 42, 12, 50, 59, 67, 13, 77, 112] vs 7), (sl [0, 1, 2, 6, 7, 9, 11, 8, 10, 40, 42, 12, 50, 59, 67, 13, 77, 112] vs 9), (sl [0, 1, 2, 6, 7, 9, 11, 8, 10, 40, 42, 12, 50, 59, 67, 13, 77, 112] vs 11), (sl [0, 1, 2, 6, 7, 9, 11, 8, 10, 40, 42, 12, 50, 59, 67, 13, 77, 112] vs 8), (sl [0, 1, 2, 6, 7, 9, 11, 8, 10, 40, 42, 12, 50, 59, 67, 13, 77, 112] vs 10), (sl [0, 1, 2, 6, 7, 9, 11, 8, 10, 40, 42, 12, 50, 59, 67, 13, 77, 112] vs 40), (sl [0, 1, 2, 6, 7, 9, 11, 8, 10, 40, 42, 12, 50, 59, 67, 13, 77, 112] vs 42), (sl [0, 1, 2, 6, 7, 9, 11, 8, 10, 40, 42, 12, 50, 59, 67, 13, 77, 112] vs 12), (sl [0, 1, 2, 6, 7, 9, 11, 8, 10, 40, 42, 12, 50, 59, 67, 13, 77, 112] vs 50), (sl [0, 1, 2, 6, 7, 9, 11, 8, 10, 40, 42, 12, 50, 59, 67, 13, 77, 112] vs 59), (sl [0, 1, 2, 6, 7, 9, 11, 8, 10, 40, 42, 12, 50, 59, 67, 13, 77, 112] vs 67), (sl [0, 1, 2, 6, 7, 9, 11, 8, 10, 40, 42, 12, 50, 59, 67, 13, 77, 112] vs 13), (sl [0, 1, 2, 6, 7, 9, 11, 8, 10, 40, 42, 12, 50, 59, 67, 13, 77, 112] vs 77), x92] H) else none) Hx92

noncomputable def F6_j2v (C : Oracle) (n : Nat) (v0 v1 v2 v6 v7 v9 v11 v8 v10 v40 v42 v12 v50 v59 v67 v13 v77 v112 : Value) (H : Heap) : AOut :=
  bnd (some (v8, H)) fun x58 Hx58 =>
  bnd (some (v10, Hx58)) fun x59 Hx59 =>
  bnd (some (v1, Hx59)) fun x60 Hx60 =>
  bnd (some (v12, Hx60)) fun x61 Hx61 =>
  bnd (iadS 6 x60 x61 Hx61) fun x62 Hx62 =>
  bnd (pS (ldn 6 x62 Hx62) Hx62) fun x63 Hx63 =>
  bnd (C 31 [x58, x59, x63] Hx63) fun x64 Hx64 =>
  bnd (pS (aun .not x64) Hx64) fun x65 Hx65 =>
  bnd (some (x65, Hx65)) fun x66 Hx66 =>
  bnd (gd (wantV x66 false) (some (v8, Hx66)) Hx66) fun x67 Hx67 =>
  bnd (gd (wantV x66 false) (C 23 [x67] Hx67) Hx67) fun x68 Hx68 =>
  bnd (gd (wantV x66 false) (some (v10, Hx68)) Hx68) fun x69 Hx69 =>
  bnd (gd (wantV x66 false) (nckS x69 Hx69) Hx69) fun x70 Hx70 =>
  bnd (gd (wantV x66 false) (fadS 2 x70 Hx70) Hx70) fun x71 Hx71 =>
  bnd (gd (wantV x66 false) (pS (ld1 x71 Hx71) Hx71) Hx71) fun x72 Hx72 =>
  bnd (gd (wantV x66 false) (pS (abin Try.prog .neq 3 x68 x72) Hx72) Hx72) fun x73 Hx73 =>
  bnd (pickS x66 (Value.bool true) x73 Hx73) fun x74 Hx74 =>
  bnd (some (x74, Hx74)) fun x75 Hx75 =>
  bnd (gd (wantV x75 false) (some (v8, Hx75)) Hx75) fun x76 Hx76 =>
  bnd (gd (wantV x75 false) (C 21 [x76] Hx76) Hx76) fun x77 Hx77 =>
  bnd (gd (wantV x75 false) (some (v10, Hx77)) Hx77) fun x78 Hx78 =>
  bnd (gd (wantV x75 false) (nckS x78 Hx78) Hx78) fun x79 Hx79 =>
  bnd (gd (wantV x75 false) (fadS 3 x79 Hx79) Hx79) fun x80 Hx80 =>
  bnd (gd (wantV x75 false) (pS (ld1 x80 Hx80) Hx80) Hx80) fun x81 Hx81 =>
  bnd (gd (wantV x75 false) (pS (abin Try.prog .neq 3 x77 x81) Hx81) Hx81) fun x82 Hx82 =>
  bnd (pickS x75 (Value.bool true) x82 Hx82) fun x83 Hx83 =>
  bnd (some (x83, Hx83)) fun x84 Hx84 =>
  bnd (gd (wantV x84 false) (some (v8, Hx84)) Hx84) fun x85 Hx85 =>
  bnd (gd (wantV x84 false) (C 32 [x85] Hx85) Hx85) fun x86 Hx86 =>
  bnd (gd (wantV x84 false) (some (v10, Hx86)) Hx86) fun x87 Hx87 =>
  bnd (gd (wantV x84 false) (nckS x87 Hx87) Hx87) fun x88 Hx88 =>
  bnd (gd (wantV x84 false) (fadS 4 x88 Hx88) Hx88) fun x89 Hx89 =>
  bnd (gd (wantV x84 false) (pS (ld1 x89 Hx89) Hx89) Hx89) fun x90 Hx90 =>
  bnd (gd (wantV x84 false) (pS (abin Try.prog .neq 3 x86 x90) Hx90) Hx90) fun x91 Hx91 =>
  bnd (pickS x84 (Value.bool true) x91 Hx91) fun x92 Hx92 =>
  (fun H => if (cfS (wantV x66 false) (wantV x66 false) (pS (ld1 x71 Hx71) Hx71) (pS (ld1 x71 Hx67) Hx67) (pS (ld1 x71 Hx68) Hx68) && (cfS (wantV x75 false) (wantV x75 false) (pS (ld1 x80 Hx80) Hx80) (pS (ld1 x80 Hx76) Hx76) (pS (ld1 x80 Hx77) Hx77) && (cfS (wantV x84 false) (wantV x84 false) (pS (ld1 x89 Hx89) Hx89) (pS (ld1 x89 Hx85) Hx85) (pS (ld1 x89 Hx86) Hx86) && true))) = true then
  brB x92 (bnd (some ((Value.bool false), H)) fun x93 H =>
  fin .ret [v0, v1, v2, x93, v7, v9, v11, v8, v10, v40, v42, v12, v50, v59, v67, v13, v77, x92] H) (
  F6_j1 C n [v0, v1, v2, v6, v7, v9, v11, v8, v10, v40, v42, v12, v50, v59, v67, v13, v77, x92] H) else none) Hx92

theorem F6_j2_v (C : Oracle) (n : Nat) (v0 v1 v2 v6 v7 v9 v11 v8 v10 v40 v42 v12 v50 v59 v67 v13 v77 v112 : Value) (H : Heap) : F6_j2 C n [v0, v1, v2, v6, v7, v9, v11, v8, v10, v40, v42, v12, v50, v59, v67, v13, v77, v112] H = F6_j2v C n v0 v1 v2 v6 v7 v9 v11 v8 v10 v40 v42 v12 v50 v59 v67 v13 v77 v112 H := by
  kernel_rfl

noncomputable def F6_b0 (C : Oracle) (n : Nat) (vs : List Value) (H : Heap) : AOut :=
  bnd (some ((sl [0, 1, 2, 6, 7, 9, 11, 8, 10, 40, 42, 12, 50, 59, 67, 13, 77, 112] vs 12), H)) fun x38 H =>
  bnd (some ((sl [0, 1, 2, 6, 7, 9, 11, 8, 10, 40, 42, 12, 50, 59, 67, 13, 77, 112] vs 1), H)) fun x39 H =>
  bnd (pS (slen x39) H) fun x40 H =>
  bnd (pS (abin Try.prog .lss 3 x38 x40) H) fun x41 H =>
  bnd (some (x41, H)) fun x42 H =>
  bnd (gd (wantV x42 true) (some ((sl [0, 1, 2, 6, 7, 9, 11, 8, 10, 40, 42, 12, 50, 59, 67, 13, 77, 112] vs 12), H)) H) fun x43 H =>
  bnd (gd (wantV x42 true) (pS (abin Try.prog .lss 3 x43 (Value.int .i64 (200))) H) H) fun x44 H =>
  bnd (pickS x42 x44 (Value.bool false) H) fun x45 H =>
  brB x45 (bnd (some ((sl [0, 1, 2, 6, 7, 9, 11, 8, 10, 40, 42, 12, 50, 59, 67, 13, 77, 112] vs 1), H)) fun x49 H =>
  bnd (some ((sl [0, 1, 2, 6, 7, 9, 11, 8, 10, 40, 42, 12, 50, 59, 67, 13, 77, 112] vs 12), H)) fun x50 H =>
  bnd (iadS 6 x49 x50 H) fun x51 H =>
  bnd (fadS 5 x51 H) fun x52 H =>
  bnd (pS (ld1 x52 H) H) fun x53 H =>
  bnd (pS (slen x53) H) fun x54 H =>
  bnd (pS (abin Try.prog .gtr 3 x54 (Value.int .i64 (100))) H) fun x55 H =>
  brB x55 (bnd (C 19 [] H) fun x56 H =>
  bnd (some (x56, H)) fun x57 H =>
  fin .ret [(sl [0, 1, 2, 6, 7, 9, 11, 8, 10, 40, 42, 12, 50, 59, 67, 13, 77, 112] vs 0), (sl [0, 1, 2, 6, 7, 9, 11, 8, 10, 40, 42, 12, 50, 59, 67, 13, 77, 112] vs 1), (sl [0, 1, 2, 6, 7, 9, 11, 8, 10, 40, 42, 12, 50, 59, 67, 13, 77, 112] vs 2), x57, (sl [0, 1, 2, 6, 7, 9, 11, 8, 10, 40, 42, 12, 50, 59, 67, 13, 77, 112] vs 7), (sl [0, 1, 2, 6, 7, 9, 11, 8, 10, 40, 42, 12, 50, 59, 67, 13, 77, 112] vs 9), (sl [0, 1, 2, 6, 7, 9, 11, 8, 10, 40, 42, 12, 50, 59, 67, 13, 77, 112] vs 11), (sl [0, 1, 2, 6, 7, 9, 11, 8, 10, 40, 42, 12, 50, 59, 67, 13, 77, 112] vs 8), (sl [0, 1, 2, 6, 7, 9, 11, 8, 10, 40, 42, 12, 50, 59, 67, 13, 77, 112] vs 10), (sl [0, 1, 2, 6, 7, 9, 11, 8, 10, 40, 42, 12, 50, 59, 67, 13, 77, 112] vs 40), (sl [0, 1, 2, 6, 7, 9, 11, 8, 10, 40, 42, 12, 50, 59, 67, 13, 77, 112] vs 42), (sl [0, 1, 2, 6, 7, 9, 11, 8, 10, 40, 42, 12, 50, 59, 67, 13, 77, 112] vs 12), x45, x55, (sl [0, 1, 2, 6, 7, 9, 11, 8, 10, 40, 42, 12, 50, 59, 67, 13, 77, 112] vs 67), (sl [0, 1, 2, 6, 7, 9, 11, 8, 10, 40, 42, 12, 50, 59, 67, 13, 77, 112] vs 13), (sl [0, 1, 2, 6, 7, 9, 11, 8, 10, 40, 42, 12, 50, 59, 67, 13, 77, 112] vs 77), (sl [0, 1, 2, 6, 7, 9, 11, 8, 10, 40, 42, 12, 50, 59, 67, 13, 77, 112] vs 112)] H) (
  bnd (some ((sl [0, 1, 2, 6, 7, 9, 11, 8, 10, 40, 42, 12, 50, 59, 67, 13, 77, 112] vs 1), H)) fun x94 H =>
  bnd (some ((sl [0, 1, 2, 6, 7, 9, 11, 8, 10, 40, 42, 12, 50, 59, 67, 13, 77, 112] vs 12), H)) fun x95 H =>
  bnd (iadS 6 x94 x95 H) fun x96 H =>
  bnd (fadS 0 x96 H) fun x97 H =>
  bnd (pS (ld1 x97 H) H) fun x98 H =>
  bnd (C 15 [x98, (Value.int .i64 (6))] H) fun x99 H =>
  bnd (pS (abin Try.prog .eql 3 x99 (Value.int .i64 (5))) H) fun x100 H =>
  brB x100 (bnd (some ((sl [0, 1, 2, 6, 7, 9, 11, 8, 10, 40, 42, 12, 50, 59, 67, 13, 77, 112] vs 8), H)) fun x101 H =>
  bnd (C 30 [x101] H) fun x102 H =>
  bnd (some (x102, H)) fun x103 H =>
  bnd (some ((sl [0, 1, 2, 6, 7, 9, 11, 8, 10, 40, 42, 12, 50, 59, 67, 13, 77, 112] vs 8), H)) fun x104 H =>
  bnd (abuildSlice Try.prog 28 1 [(0, (Value.int .i64 (5)))] H) fun x105 H =>
  bnd (C 17 [x104, x105] H) fun x106 H =>
  bnd (some ((sl [0, 1, 2, 6, 7, 9, 11, 8, 10, 40, 42, 12, 50, 59, 67, 13, 77, 112] vs 8), H)) fun x107 H =>
  bnd (C 24 [x107, (Value.int .i64 (1)), (Value.int .i64 (77))] H) fun x108 H =>
  bnd (some (x103, H)) fun x109 H =>
  bnd (some (x109, H)) fun x110 H =>
  bnd (some (x110, H)) fun x111 H =>
  bnd (pS (abin Try.prog .eql 24 x111 (Value.pointer none)) H) fun x112 H =>
  brB x112 (bnd (some ((Value.bool false), H)) fun x113 H =>
  fin .ret [(sl [0, 1, 2, 6, 7, 9, 11, 8, 10, 40, 42, 12, 50, 59, 67, 13, 77, 112] vs 0), (sl [0, 1, 2, 6, 7, 9, 11, 8, 10, 40, 42, 12, 50, 59, 67, 13, 77, 112] vs 1), (sl [0, 1, 2, 6, 7, 9, 11, 8, 10, 40, 42, 12, 50, 59, 67, 13, 77, 112] vs 2), x113, (sl [0, 1, 2, 6, 7, 9, 11, 8, 10, 40, 42, 12, 50, 59, 67, 13, 77, 112] vs 7), (sl [0, 1, 2, 6, 7, 9, 11, 8, 10, 40, 42, 12, 50, 59, 67, 13, 77, 112] vs 9), (sl [0, 1, 2, 6, 7, 9, 11, 8, 10, 40, 42, 12, 50, 59, 67, 13, 77, 112] vs 11), x110, (sl [0, 1, 2, 6, 7, 9, 11, 8, 10, 40, 42, 12, 50, 59, 67, 13, 77, 112] vs 10), (sl [0, 1, 2, 6, 7, 9, 11, 8, 10, 40, 42, 12, 50, 59, 67, 13, 77, 112] vs 40), (sl [0, 1, 2, 6, 7, 9, 11, 8, 10, 40, 42, 12, 50, 59, 67, 13, 77, 112] vs 42), (sl [0, 1, 2, 6, 7, 9, 11, 8, 10, 40, 42, 12, 50, 59, 67, 13, 77, 112] vs 12), x45, x55, x100, x103, x112, (sl [0, 1, 2, 6, 7, 9, 11, 8, 10, 40, 42, 12, 50, 59, 67, 13, 77, 112] vs 112)] H) (
  F6_j2 C n [(sl [0, 1, 2, 6, 7, 9, 11, 8, 10, 40, 42, 12, 50, 59, 67, 13, 77, 112] vs 0), (sl [0, 1, 2, 6, 7, 9, 11, 8, 10, 40, 42, 12, 50, 59, 67, 13, 77, 112] vs 1), (sl [0, 1, 2, 6, 7, 9, 11, 8, 10, 40, 42, 12, 50, 59, 67, 13, 77, 112] vs 2), (sl [0, 1, 2, 6, 7, 9, 11, 8, 10, 40, 42, 12, 50, 59, 67, 13, 77, 112] vs 6), (sl [0, 1, 2, 6, 7, 9, 11, 8, 10, 40, 42, 12, 50, 59, 67, 13, 77, 112] vs 7), (sl [0, 1, 2, 6, 7, 9, 11, 8, 10, 40, 42, 12, 50, 59, 67, 13, 77, 112] vs 9), (sl [0, 1, 2, 6, 7, 9, 11, 8, 10, 40, 42, 12, 50, 59, 67, 13, 77, 112] vs 11), x110, (sl [0, 1, 2, 6, 7, 9, 11, 8, 10, 40, 42, 12, 50, 59, 67, 13, 77, 112] vs 10), (sl [0, 1, 2, 6, 7, 9, 11, 8, 10, 40, 42, 12, 50, 59, 67, 13, 77, 112] vs 40), (sl [0, 1, 2, 6, 7, 9, 11, 8, 10, 40, 42, 12, 50, 59, 67, 13, 77, 112] vs 42), (sl [0, 1, 2, 6, 7, 9, 11, 8, 10, 40, 42, 12, 50, 59, 67, 13, 77, 112] vs 12), x45, x55, x100, x103, x112, (sl [0, 1, 2, 6, 7, 9, 11, 8, 10, 40, 42, 12, 50, 59, 67, 13, 77, 112] vs 112)] H)) (
  F6_j2 C n [(sl [0, 1, 2, 6, 7, 9, 11, 8, 10, 40, 42, 12, 50, 59, 67, 13, 77, 112] vs 0), (sl [0, 1, 2, 6, 7, 9, 11, 8, 10, 40, 42, 12, 50, 59, 67, 13, 77, 112] vs 1), (sl [0, 1, 2, 6, 7, 9, 11, 8, 10, 40, 42, 12, 50, 59, 67, 13, 77, 112] vs 2), (sl [0, 1, 2, 6, 7, 9, 11, 8, 10, 40, 42, 12, 50, 59, 67, 13, 77, 112] vs 6), (sl [0, 1, 2, 6, 7, 9, 11, 8, 10, 40, 42, 12, 50, 59, 67, 13, 77, 112] vs 7), (sl [0, 1, 2, 6, 7, 9, 11, 8, 10, 40, 42, 12, 50, 59, 67, 13, 77, 112] vs 9), (sl [0, 1, 2, 6, 7, 9, 11, 8, 10, 40, 42, 12, 50, 59, 67, 13, 77, 112] vs 11), (sl [0, 1, 2, 6, 7, 9, 11, 8, 10, 40, 42, 12, 50, 59, 67, 13, 77, 112] vs 8), (sl [0, 1, 2, 6, 7, 9, 11, 8, 10, 40, 42, 12, 50, 59, 67, 13, 77, 112] vs 10), (sl [0, 1, 2, 6, 7, 9, 11, 8, 10, 40, 42, 12, 50, 59, 67, 13, 77, 112] vs 40), (sl [0, 1, 2, 6, 7, 9, 11, 8, 10, 40, 42, 12, 50, 59, 67, 13, 77, 112] vs 42), (sl [0, 1, 2, 6, 7, 9, 11, 8, 10, 40, 42, 12, 50, 59, 67, 13, 77, 112] vs 12), x45, x55, x100, (sl [0, 1, 2, 6, 7, 9, 11, 8, 10, 40, 42, 12, 50, 59, 67, 13, 77, 112] vs 13), (sl [0, 1, 2, 6, 7, 9, 11, 8, 10, 40, 42, 12, 50, 59, 67, 13, 77, 112] vs 77), (sl [0, 1, 2, 6, 7, 9, 11, 8, 10, 40, 42, 12, 50, 59, 67, 13, 77, 112] vs 112)] H))) (
  fin (.exit 0) [(sl [0, 1, 2, 6, 7, 9, 11, 8, 10, 40, 42, 12, 50, 59, 67, 13, 77, 112] vs 0), (sl [0, 1, 2, 6, 7, 9, 11, 8, 10, 40, 42, 12, 50, 59, 67, 13, 77, 112] vs 1), (sl [0, 1, 2, 6, 7, 9, 11, 8, 10, 40, 42, 12, 50, 59, 67, 13, 77, 112] vs 2), (sl [0, 1, 2, 6, 7, 9, 11, 8, 10, 40, 42, 12, 50, 59, 67, 13, 77, 112] vs 6), (sl [0, 1, 2, 6, 7, 9, 11, 8, 10, 40, 42, 12, 50, 59, 67, 13, 77, 112] vs 7), (sl [0, 1, 2, 6, 7, 9, 11, 8, 10, 40, 42, 12, 50, 59, 67, 13, 77, 112] vs 9), (sl [0, 1, 2, 6, 7, 9, 11, 8, 10, 40, 42, 12, 50, 59, 67, 13, 77, 112] vs 11), (sl [0, 1, 2, 6, 7, 9, 11, 8, 10, 40, 42, 12, 50, 59, 67, 13, 77, 112] vs 8), (sl [0, 1, 2, 6, 7, 9, 11, 8, 10, 40, 42, 12, 50, 59, 67, 13, 77, 112] vs 10), (sl [0, 1, 2, 6, 7, 9, 11, 8, 10, 40, 42, 12, 50, 59, 67, 13, 77, 112] vs 40), (sl [0, 1, 2, 6, 7, 9, 11, 8, 10, 40, 42, 12, 50, 59, 67, 13, 77, 112] vs 42), (sl [0, 1, 2, 6, 7, 9, 11, 8, 10, 40, 42, 12, 50, 59, 67, 13, 77, 112] vs 12), x45, (sl [0, 1, 2, 6, 7, 9, 11, 8, 10, 40, 42, 12, 50, 59, 67, 13, 77, 112] vs 59), (sl [0, 1, 2, 6, 7, 9, 11, 8, 10, 40, 42, 12, 50, 59, 67, 13, 77, 112] vs 67), (sl [0, 1, 2, 6, 7, 9, 11, 8, 10, 40, 42, 12, 50, 59, 67, 13, 77, 112] vs 13), (sl [0, 1, 2, 6, 7, 9, 11, 8, 10, 40, 42, 12, 50, 59, 67, 13, 77, 112] vs 77), (sl [0, 1, 2, 6, 7, 9, 11, 8, 10, 40, 42, 12, 50, 59, 67, 13, 77, 112] vs 112)] H)

noncomputable def F6_b0v (C : Oracle) (n : Nat) (v0 v1 v2 v6 v7 v9 v11 v8 v10 v40 v42 v12 v50 v59 v67 v13 v77 v112 : Value) (H : Heap) : AOut :=
  bnd (some (v12, H)) fun x38 H =>
  bnd (some (v1, H)) fun x39 H =>
  bnd (pS (slen x39) H) fun x40 H =>
  bnd (pS (abin Try.prog .lss 3 x38 x40) H) fun x41 H =>
  bnd (some (x41, H)) fun x42 H =>
  bnd (gd (wantV x42 true) (some (v12, H)) H) fun x43 H =>
  bnd (gd (wantV x42 true) (pS (abin Try.prog .lss 3 x43 (Value.int .i64 (200))) H) H) fun x44 H =>
  bnd (pickS x42 x44 (Value.bool false) H) fun x45 H =>
  brB x45 (bnd (some (v1, H)) fun x49 H =>
  bnd (some (v12, H)) fun x50 H =>
  bnd (iadS 6 x49 x50 H) fun x51 H =>
  bnd (fadS 5 x51 H) fun x52 H =>
  bnd (pS (ld1 x52 H) H) fun x53 H =>
  bnd (pS (slen x53) H) fun x54 H =>
  bnd (pS (abin Try.prog .gtr 3 x54 (Value.int .i64 (100))) H) fun x55 H =>
  brB x55 (bnd (C 19 [] H) fun x56 H =>
  bnd (some (x56, H)) fun x57 H =>
  fin .ret [v0, v1, v2, x57, v7, v9, v11, v8, v10, v40, v42, v12, x45, x55, v67, v13, v77, v112] H) (
  bnd (some (v1, H)) fun x94 H =>
  bnd (some (v12, H)) fun x95 H =>
  bnd (iadS 6 x94 x95 H) fun x96 H =>
  bnd (fadS 0 x96 H) fun x97 H =>
  bnd (pS (ld1 x97 H) H) fun x98 H =>
  bnd (C 15 [x98, (Value.int .i64 (6))] H) fun x99 H =>
  bnd (pS (abin Try.prog .eql 3 x99 (Value.int .i64 (5))) H) fun x100 H =>
  brB x100 (bnd (some (v8, H)) fun x101 H =>
  bnd (C 30 [x101] H) fun x102 H =>
  bnd (some (x102, H)) fun x103 H =>
  bnd (some (v8, H)) fun x104 H =>
  bnd (abuildSlice Try.prog 28 1 [(0, (Value.int .i64 (5)))] H) fun x105 H =>
  bnd (C 17 [x104, x105] H) fun x106 H =>
  bnd (some (v8, H)) fun x107 H =>
  bnd (C 24 [x107, (Value.int .i64 (1)), (Value.int .i64 (77))] H) fun x108 H =>
  bnd (some (x103, H)) fun x109 H =>
  bnd (some (x109, H)) fun x110 H =>
  bnd (some (x110, H)) fun x111 H =>
  bnd (pS (abin Try.prog .eql 24 x111 (Value.pointer none)) H) fun x112 H =>
  brB x112 (bnd (some ((Value.bool false), H)) fun x113 H =>
  fin .ret [v0, v1, v2, x113, v7, v9, v11, x110, v10, v40, v42, v12, x45, x55, x100, x103, x112, v112] H) (
  F6_j2 C n [v0, v1, v2, v6, v7, v9, v11, x110, v10, v40, v42, v12, x45, x55, x100, x103, x112, v112] H)) (
  F6_j2 C n [v0, v1, v2, v6, v7, v9, v11, v8, v10, v40, v42, v12, x45, x55, x100, v13, v77, v112] H))) (
  fin (.exit 0) [v0, v1, v2, v6, v7, v9, v11, v8, v10, v40, v42, v12, x45, v59, v67, v13, v77, v112] H)

theorem F6_b0_v (C : Oracle) (n : Nat) (v0 v1 v2 v6 v7 v9 v11 v8 v10 v40 v42 v12 v50 v59 v67 v13 v77 v112 : Value) (H : Heap) : F6_b0 C n [v0, v1, v2, v6, v7, v9, v11, v8, v10, v40, v42, v12, v50, v59, v67, v13, v77, v112] H = F6_b0v C n v0 v1 v2 v6 v7 v9 v11 v8 v10 v40 v42 v12 v50 v59 v67 v13 v77 v112 H := by
  kernel_rfl

noncomputable def F6_j3 (C : Oracle) (n : Nat) (vs : List Value) (H : Heap) : Option (Value × Heap) :=
  bnd (some ((sl [0, 1, 2, 6, 7, 9, 11, 8, 10, 40, 42, 12, 50, 59, 67, 13, 77, 112] vs 8), H)) fun x114 Hx114 =>
  bnd (some ((sl [0, 1, 2, 6, 7, 9, 11, 8, 10, 40, 42, 12, 50, 59, 67, 13, 77, 112] vs 10), Hx114)) fun x115 Hx115 =>
  bnd (C 33 [x114, x115] Hx115) fun x116 Hx116 =>
  bnd (some (x116, Hx116)) fun x117 Hx117 =>
  bnd (gd (wantV x117 true) (some ((sl [0, 1, 2, 6, 7, 9, 11, 8, 10, 40, 42, 12, 50, 59, 67, 13, 77, 112] vs 8), Hx117)) Hx117) fun x118 Hx118 =>
  bnd (gd (wantV x117 true) (some ((sl [0, 1, 2, 6, 7, 9, 11, 8, 10, 40, 42, 12, 50, 59, 67, 13, 77, 112] vs 2), Hx118)) Hx118) fun x119 Hx119 =>
  bnd (gd (wantV x117 true) (C 28 [x118, x119] Hx119) Hx119) fun x120 Hx120 =>
  bnd (gd (wantV x117 true) (some ((sl [0, 1, 2, 6, 7, 9, 11, 8, 10, 40, 42, 12, 50, 59, 67, 13, 77, 112] vs 10), Hx120)) Hx120) fun x121 Hx121 =>
  bnd (gd (wantV x117 true) (some ((sl [0, 1, 2, 6, 7, 9, 11, 8, 10, 40, 42, 12, 50, 59, 67, 13, 77, 112] vs 2), Hx121)) Hx121) fun x122 Hx122 =>
  bnd (gd (wantV x117 true) (C 34 [x121, x122] Hx122) Hx122) fun x123 Hx123 =>
  bnd (gd (wantV x117 true) (pS (abin Try.prog .eql 2 x120 x123) Hx123) Hx123) fun x124 Hx124 =>
  bnd (pickS x117 x124 (Value.bool false) Hx124) fun x125 Hx125 =>
  bnd (some (x125, Hx125)) fun x126 Hx126 =>
  bnd (gd (wantV x126 true) (some ((sl [0, 1, 2, 6, 7, 9, 11, 8, 10, 40, 42, 12, 50, 59, 67, 13, 77, 112] vs 8), Hx126)) Hx126) fun x127 Hx127 =>
  bnd (gd (wantV x126 true) (C 23 [x127] Hx127) Hx127) fun x128 Hx128 =>
  bnd (gd (wantV x126 true) (some ((sl [0, 1, 2, 6, 7, 9, 11, 8, 10, 40, 42, 12, 50, 59, 67, 13, 77, 112] vs 10), Hx128)) Hx128) fun x129 Hx129 =>
  bnd (gd (wantV x126 true) (nckS x129 Hx129) Hx129) fun x130 Hx130 =>
  bnd (gd (wantV x126 true) (fadS 2 x130 Hx130) Hx130) fun x131 Hx131 =>
  bnd (gd (wantV x126 true) (pS (ld1 x131 Hx131) Hx131) Hx131) fun x132 Hx132 =>
  bnd (gd (wantV x126 true) (pS (abin Try.prog .eql 3 x128 x132) Hx132) Hx132) fun x133 Hx133 =>
  bnd (pickS x126 x133 (Value.bool false) Hx133) fun x134 Hx134 =>
  bnd (some (x134, Hx134)) fun x135 Hx135 =>
  (fun H => if (cfS (wantV x126 true) (wantV x126 true) (pS (ld1 x131 Hx131) Hx131) (pS (ld1 x131 Hx127) Hx127) (pS (ld1 x131 Hx128) Hx128) && true) = true then
  some (x135, H) else none) Hx135

noncomputable def F6_j3v (C : Oracle) (n : Nat) (v0 v1 v2 v6 v7 v9 v11 v8 v10 v40 v42 v12 v50 v59 v67 v13 v77 v112 : Value) (H : Heap) : Option (Value × Heap) :=
  bnd (some (v8, H)) fun x114 Hx114 =>
  bnd (some (v10, Hx114)) fun x115 Hx115 =>
  bnd (C 33 [x114, x115] Hx115) fun x116 Hx116 =>
  bnd (some (x116, Hx116)) fun x117 Hx117 =>
  bnd (gd (wantV x117 true) (some (v8, Hx117)) Hx117) fun x118 Hx118 =>
  bnd (gd (wantV x117 true) (some (v2, Hx118)) Hx118) fun x119 Hx119 =>
  bnd (gd (wantV x117 true) (C 28 [x118, x119] Hx119) Hx119) fun x120 Hx120 =>
  bnd (gd (wantV x117 true) (some (v10, Hx120)) Hx120) fun x121 Hx121 =>
  bnd (gd (wantV x117 true) (some (v2, Hx121)) Hx121) fun x122 Hx122 =>
  bnd (gd (wantV x117 true) (C 34 [x121, x122] Hx122) Hx122) fun x123 Hx123 =>
  bnd (gd (wantV x117 true) (pS (abin Try.prog .eql 2 x120 x123) Hx123) Hx123) fun x124 Hx124 =>
  bnd (pickS x117 x124 (Value.bool false) Hx124) fun x125 Hx125 =>
  bnd (some (x125, Hx125)) fun x126 Hx126 =>
  bnd (gd (wantV x126 true) (some (v8, Hx126)) Hx126) fun x127 Hx127 =>
  bnd (gd (wantV x126 true) (C 23 [x127] Hx127) Hx127) fun x128 Hx128 =>
  bnd (gd (wantV x126 true) (some (v10, Hx128)) Hx128) fun x129 Hx129 =>
  bnd (gd (wantV x126 true) (nckS x129 Hx129) Hx129) fun x130 Hx130 =>
  bnd (gd (wantV x126 true) (fadS 2 x130 Hx130) Hx130) fun x131 Hx131 =>
  bnd (gd (wantV x126 true) (pS (ld1 x131 Hx131) Hx131) Hx131) fun x132 Hx132 =>
  bnd (gd (wantV x126 true) (pS (abin Try.prog .eql 3 x128 x132) Hx132) Hx132) fun x133 Hx133 =>
  bnd (pickS x126 x133 (Value.bool false) Hx133) fun x134 Hx134 =>
  bnd (some (x134, Hx134)) fun x135 Hx135 =>
  (fun H => if (cfS (wantV x126 true) (wantV x126 true) (pS (ld1 x131 Hx131) Hx131) (pS (ld1 x131 Hx127) Hx127) (pS (ld1 x131 Hx128) Hx128) && true) = true then
  some (x135, H) else none) Hx135

theorem F6_j3_v (C : Oracle) (n : Nat) (v0 v1 v2 v6 v7 v9 v11 v8 v10 v40 v42 v12 v50 v59 v67 v13 v77 v112 : Value) (H : Heap) : F6_j3 C n [v0, v1, v2, v6, v7, v9, v11, v8, v10, v40, v42, v12, v50, v59, v67, v13, v77, v112] H = F6_j3v C n v0 v1 v2 v6 v7 v9 v11 v8 v10 v40 v42 v12 v50 v59 v67 v13 v77 v112 H := by
  kernel_rfl

noncomputable def F6 (C : Oracle) (n : Nat) (a0 a1 a2 : Value) (H : Heap) : Option (Value × Heap) :=
  bnd (some ((Value.bool false), H)) fun x0 H =>
  bnd (some (a0, H)) fun x1 H =>
  bnd (C 15 [x1, (Value.int .i64 (60))] H) fun x2 H =>
  bnd (pS (abin Try.prog .sub 3 x2 (Value.int .i64 (2))) H) fun x3 H =>
  bnd (some (x3, H)) fun x4 H =>
  bnd (some (x4, H)) fun x5 H =>
  bnd (C 16 [x5] H) fun x6 H =>
  bnd (some (x6, H)) fun x7 H =>
  bnd (extS 0 x7 H) fun x8 H =>
  bnd (extS 1 x7 H) fun x9 H =>
  bnd (some (x8, H)) fun x10 H =>
  bnd (some (x9, H)) fun x11 H =>
  bnd (some (x4, H)) fun x12 H =>
  bnd (C 29 [x12] H) fun x13 H =>
  bnd (some (x13, H)) fun x14 H =>
  bnd (extS 0 x14 H) fun x15 H =>
  bnd (extS 1 x14 H) fun x16 H =>
  bnd (some (x15, H)) fun x17 H =>
  bnd (some (x16, H)) fun x18 H =>
  bnd (C 19 [] H) fun x19 H =>
  bnd (pS (aun .not x19) H) fun x20 H =>
  bnd (some (x20, H)) fun x21 H =>
  bnd (gd (wantV x21 false) (some (x11, H)) H) fun x22 H =>
  bnd (gd (wantV x21 false) (some (x18, H)) H) fun x23 H =>
  bnd (gd (wantV x21 false) (pS (abin Try.prog .neq 25 x22 x23) H) H) fun x24 H =>
  bnd (pickS x21 (Value.bool true) x24 H) fun x25 H =>
  bnd (some (x25, H)) fun x26 H =>
  bnd (gd (wantV x26 false) (some (x10, H)) H) fun x27 H =>
  bnd (gd (wantV x26 false) (pS (abin Try.prog .eql 24 x27 (Value.pointer none)) H) H) fun x28 H =>
  bnd (gd (wantV x26 false) (some (x17, H)) H) fun x29 H =>
  bnd (gd (wantV x26 false) (pS (abin Try.prog .eql 45 x29 (Value.pointer none)) H) H) fun x30 H =>
  bnd (gd (wantV x26 false) (pS (abin Try.prog .neq 4 x28 x30) H) H) fun x31 H =>
  bnd (pickS x26 (Value.bool true) x31 H) fun x32 H =>
  brB x32 (bnd (some ((Value.bool false), H)) fun x33 H =>
  some (x33, H)) (
  bnd (some (x17, H)) fun x34 H =>
  bnd (pS (abin Try.prog .eql 45 x34 (Value.pointer none)) H) fun x35 H =>
  brB x35 (bnd (some ((Value.bool true), H)) fun x36 H =>
  some (x36, H)) (
  bnd (some ((Value.int .i64 (0)), H)) fun x37 H =>
  onOut (iter n (F6_b0 C n) [a0, a1, a2, x0, x4, x11, x18, x10, x17, x32, x35, x37, undef, undef, undef, undef, undef, undef] H) (kBlk 0 (kSeq (F6_j3 C n) (kRet Try.prog [.tmp 6] [0, 1, 2, 6, 7, 9, 11, 8, 10, 40, 42, 12, 50, 59, 67, 13, 77, 112])))))

theorem F6_eq (G : Oracle) (n : Nat) (a0 a1 a2 : Value) (H : Heap) : run G (n + 1) 6 [a0, a1, a2] H = F6 (run G n) n a0 a1 a2 H := by
  unfold run; rw [acall_k (fn := Try.f6) (keep := [0, 1, 2, 6, 7, 9, 11, 8, 10, 40, 42, 12, 50, 59, 67, 13, 77, 112]) (notBad 6 rfl) (by kernel_rfl) (by kernel_rfl)]
  kernel_rfl

end Go.Proofs.Ytpenlcigickkbaa.Fun
