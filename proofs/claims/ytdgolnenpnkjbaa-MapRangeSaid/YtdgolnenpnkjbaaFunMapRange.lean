/- The program's functions as plain terms, each with its equation; printed by wip/am/fun.py. -/
import Derived.Test.YtdgolnenpnkjbaaFunK
namespace Go.Proofs.Ytdgolnenpnkjbaa.Fun
open Go.RowKit Go.Proofs.YtdgolnenpnkjbaaA.Am
set_option linter.unusedVariables false
set_option maxRecDepth 10000
abbrev F6_st (v0 : Value := undef) (v1 : Value := undef) (v2 : Value := undef) (v3 : Value := undef) (v8 : Value := undef) (v19 : Value := undef) (v9 : Value := undef) (v23 : Value := undef) (v24 : Value := undef) (v25 : Value := undef) (v10 : Value := undef) (v11 : Value := undef) (v12 : Value := undef) (v39 : Value := undef) (v40 : Value := undef) (v41 : Value := undef) (v14 : Value := undef) (v13 : Value := undef) (v15 : Value := undef) (v16 : Value := undef) (v63 : Value := undef) (v7 : Value := undef) (v71 : Value := undef) (v17 : Value := undef) (v76 : Value := undef) : List Value := [v0, v1, v2, v3, v8, v19, v9, v23, v24, v25, v10, v11, v12, v39, v40, v41, v14, v13, v15, v16, v63, v7, v71, v17, v76]

noncomputable def F6_j2 (C : Oracle) (n : Nat) (vs : List Value) (H : Heap) : Option (Value × Heap) :=
  bnd (C 10 [] H) fun x22 H =>
  bnd (some (x22, H)) fun x23 H =>
  bnd (gd (wantV x23 true) (pS (ld1 (sl [0, 1, 2, 3, 8, 19, 9, 23, 24, 25, 10, 11, 12, 39, 40, 41, 14, 13, 15, 16, 63, 7, 71, 17, 76] vs 14) H) H) H) fun x24 H =>
  bnd (gd (wantV x23 true) (pS (ld1 (sl [0, 1, 2, 3, 8, 19, 9, 23, 24, 25, 10, 11, 12, 39, 40, 41, 14, 13, 15, 16, 63, 7, 71, 17, 76] vs 13) H) H) H) fun x25 H =>
  bnd (gd (wantV x23 true) (pS (slen x25) H) H) fun x26 H =>
  bnd (gd (wantV x23 true) (pS (abin Try.prog .eql 3 x24 x26) H) H) fun x27 H =>
  bnd (pickS x23 x27 (Value.bool false) H) fun x28 H =>
  bnd (some (x28, H)) fun x29 H =>
  bnd (gd (wantV x29 true) (pS (ld1 (sl [0, 1, 2, 3, 8, 19, 9, 23, 24, 25, 10, 11, 12, 39, 40, 41, 14, 13, 15, 16, 63, 7, 71, 17, 76] vs 17) H) H) H) fun x30 H =>
  bnd (gd (wantV x29 true) (pS (ld1 (sl [0, 1, 2, 3, 8, 19, 9, 23, 24, 25, 10, 11, 12, 39, 40, 41, 14, 13, 15, 16, 63, 7, 71, 17, 76] vs 7) H) H) H) fun x31 H =>
  bnd (gd (wantV x29 true) (pS (ld1 (sl [0, 1, 2, 3, 8, 19, 9, 23, 24, 25, 10, 11, 12, 39, 40, 41, 14, 13, 15, 16, 63, 7, 71, 17, 76] vs 13) H) H) H) fun x32 H =>
  bnd (gd (wantV x29 true) (pS (slen x32) H) H) fun x33 H =>
  bnd (gd (wantV x29 true) (minS x31 x33 H) H) fun x34 H =>
  bnd (gd (wantV x29 true) (pS (abin Try.prog .eql 3 x30 x34) H) H) fun x35 H =>
  bnd (pickS x29 x35 (Value.bool false) H) fun x36 H =>
  bnd (some (x36, H)) fun x37 H =>
  bnd (gd (wantV x37 true) (pS (ld1 (sl [0, 1, 2, 3, 8, 19, 9, 23, 24, 25, 10, 11, 12, 39, 40, 41, 14, 13, 15, 16, 63, 7, 71, 17, 76] vs 10) H) H) H) fun x38 H =>
  bnd (gd (wantV x37 true) (C 25 [x38] H) H) fun x39 H =>
  bnd (pickS x37 x39 (Value.bool false) H) fun x40 H =>
  bnd (stS 1 (sl [0, 1, 2, 3, 8, 19, 9, 23, 24, 25, 10, 11, 12, 39, 40, 41, 14, 13, 15, 16, 63, 7, 71, 17, 76] vs 8) x40 H) fun x41 H =>
  bnd (pS (ld1 (sl [0, 1, 2, 3, 8, 19, 9, 23, 24, 25, 10, 11, 12, 39, 40, 41, 14, 13, 15, 16, 63, 7, 71, 17, 76] vs 8) H) H) fun r0 _ =>
  some (r0, H)

noncomputable def F6_j2v (C : Oracle) (n : Nat) (v0 v1 v2 v3 v8 v19 v9 v23 v24 v25 v10 v11 v12 v39 v40 v41 v14 v13 v15 v16 v63 v7 v71 v17 v76 : Value) (H : Heap) : Option (Value × Heap) :=
  bnd (C 10 [] H) fun x22 H =>
  bnd (some (x22, H)) fun x23 H =>
  bnd (gd (wantV x23 true) (pS (ld1 v14 H) H) H) fun x24 H =>
  bnd (gd (wantV x23 true) (pS (ld1 v13 H) H) H) fun x25 H =>
  bnd (gd (wantV x23 true) (pS (slen x25) H) H) fun x26 H =>
  bnd (gd (wantV x23 true) (pS (abin Try.prog .eql 3 x24 x26) H) H) fun x27 H =>
  bnd (pickS x23 x27 (Value.bool false) H) fun x28 H =>
  bnd (some (x28, H)) fun x29 H =>
  bnd (gd (wantV x29 true) (pS (ld1 v17 H) H) H) fun x30 H =>
  bnd (gd (wantV x29 true) (pS (ld1 v7 H) H) H) fun x31 H =>
  bnd (gd (wantV x29 true) (pS (ld1 v13 H) H) H) fun x32 H =>
  bnd (gd (wantV x29 true) (pS (slen x32) H) H) fun x33 H =>
  bnd (gd (wantV x29 true) (minS x31 x33 H) H) fun x34 H =>
  bnd (gd (wantV x29 true) (pS (abin Try.prog .eql 3 x30 x34) H) H) fun x35 H =>
  bnd (pickS x29 x35 (Value.bool false) H) fun x36 H =>
  bnd (some (x36, H)) fun x37 H =>
  bnd (gd (wantV x37 true) (pS (ld1 v10 H) H) H) fun x38 H =>
  bnd (gd (wantV x37 true) (C 25 [x38] H) H) fun x39 H =>
  bnd (pickS x37 x39 (Value.bool false) H) fun x40 H =>
  bnd (stS 1 v8 x40 H) fun x41 H =>
  bnd (pS (ld1 v8 H) H) fun r0 _ =>
  some (r0, H)

theorem F6_j2_v (C : Oracle) (n : Nat) (v0 v1 v2 v3 v8 v19 v9 v23 v24 v25 v10 v11 v12 v39 v40 v41 v14 v13 v15 v16 v63 v7 v71 v17 v76 : Value) (H : Heap) : F6_j2 C n [v0, v1, v2, v3, v8, v19, v9, v23, v24, v25, v10, v11, v12, v39, v40, v41, v14, v13, v15, v16, v63, v7, v71, v17, v76] H = F6_j2v C n v0 v1 v2 v3 v8 v19 v9 v23 v24 v25 v10 v11 v12 v39 v40 v41 v14 v13 v15 v16 v63 v7 v71 v17 v76 H := by
  kernel_rfl

noncomputable def F6_L2 (vs : List Value) : ALoop := ⟨[0, 1, 2, 3, 8, 19, 9, 23, 24, 25, 10, 11, 12, 39, 40, 41, 14, 13, 15, 16, 63, 7, 71, 17, 76], vs, (lpAt Try.prog 6 2).1, (lpAt Try.prog 6 2).2.1, (lpAt Try.prog 6 2).2.2⟩

noncomputable def F6_R2 (C : Oracle) (n i : Nat) (v0 v1 v2 v3 v8 v19 v9 v23 v24 v25 v10 v11 v12 v39 v40 v41 v14 v13 v15 v16 v63 v7 v71 v17 v76 : Value) (a0 a1 : Value) (H : Heap) : Option (Value × Heap) :=
  begR i H fun H =>
  bnd (pS (ld1 v17 H) H) fun x46 H =>
  bnd (pS (ld1 v7 H) H) fun x47 H =>
  bnd (pS (abin Try.prog .eql 3 x46 x47) H) fun x48 H =>
  brB x48 (endR i (.exit 4) H) (
  bnd (pS (ld1 v17 H) H) fun x49 H =>
  bnd (pS (abin Try.prog .add 3 x49 (Value.int .i64 (1))) H) fun x50 H =>
  bnd (stS 1 v17 x50 H) fun x51 H =>
  endR i .normal H)

theorem F6_R2_eq (G : Oracle) (n i : Nat) (v0 v1 v2 v3 v8 v19 v9 v23 v24 v25 v10 v11 v12 v39 v40 v41 v14 v13 v15 v16 v63 v7 v71 v17 v76 : Value) (a0 a1 : Value) (H : Heap) (h : H.oth i = some (.loop (F6_L2 [v0, v1, v2, v3, v8, v19, v9, v23, v24, v25, v10, v11, v12, v39, v40, v41, v14, v13, v15, v16, v63, v7, v71, v17, v76]) .ready)) : run G (n + 1) (Try.prog.funcs.size + i) [a0, a1] H = F6_R2 (run G n) n i v0 v1 v2 v3 v8 v19 v9 v23 v24 v25 v10 v11 v12 v39 v40 v41 v14 v13 v15 v16 v63 v7 v71 v17 v76 a0 a1 H := by
  unfold run; rw [acall_r (by kernel_rfl) h (by kernel_rfl)]
  kernel_rfl

noncomputable def F6_j1 (C : Oracle) (n : Nat) (vs : List Value) (H : Heap) : Option (Value × Heap) :=
  bnd (pS (ld1 (sl [0, 1, 2, 3, 8, 19, 9, 23, 24, 25, 10, 11, 12, 39, 40, 41, 14, 13, 15, 16, 63, 7, 71, 17, 76] vs 7) H) H) fun x17 H =>
  bnd (C 24 [x17, (Value.int .i64 (200))] H) fun x18 H =>
  bnd (stS 1 (sl [0, 1, 2, 3, 8, 19, 9, 23, 24, 25, 10, 11, 12, 39, 40, 41, 14, 13, 15, 16, 63, 7, 71, 17, 76] vs 7) x18 H) fun x19 H =>
  bnd (some (newBlk H 3 1 [(Value.int .i64 (0))])) fun x20 H =>
  bnd (stS 1 x20 (Value.int .i64 (0)) H) fun x21 H =>
  bnd (some ((sl [0, 1, 2, 3, 8, 19, 9, 23, 24, 25, 10, 11, 12, 39, 40, 41, 14, 13, 15, 16, 63, 7, 71, 17, 76] vs 9), H)) fun x42 H =>
  bnd (some ((sl [0, 1, 2, 3, 8, 19, 9, 23, 24, 25, 10, 11, 12, 39, 40, 41, 14, 13, 15, 16, 63, 7, 71, 17, 76] vs 1), H)) fun x43 H =>
  bnd (some ((sl [0, 1, 2, 3, 8, 19, 9, 23, 24, 25, 10, 11, 12, 39, 40, 41, 14, 13, 15, 16, 63, 7, 71, 17, 76] vs 2), H)) fun x44 H =>
  bnd (C 21 [x42, x43, x44] H) fun x45 H =>
  onRng (rngC Try.prog.funcs.size C x45 (F6_L2 [(sl [0, 1, 2, 3, 8, 19, 9, 23, 24, 25, 10, 11, 12, 39, 40, 41, 14, 13, 15, 16, 63, 7, 71, 17, 76] vs 0), (sl [0, 1, 2, 3, 8, 19, 9, 23, 24, 25, 10, 11, 12, 39, 40, 41, 14, 13, 15, 16, 63, 7, 71, 17, 76] vs 1), (sl [0, 1, 2, 3, 8, 19, 9, 23, 24, 25, 10, 11, 12, 39, 40, 41, 14, 13, 15, 16, 63, 7, 71, 17, 76] vs 2), (sl [0, 1, 2, 3, 8, 19, 9, 23, 24, 25, 10, 11, 12, 39, 40, 41, 14, 13, 15, 16, 63, 7, 71, 17, 76] vs 3), (sl [0, 1, 2, 3, 8, 19, 9, 23, 24, 25, 10, 11, 12, 39, 40, 41, 14, 13, 15, 16, 63, 7, 71, 17, 76] vs 8), (sl [0, 1, 2, 3, 8, 19, 9, 23, 24, 25, 10, 11, 12, 39, 40, 41, 14, 13, 15, 16, 63, 7, 71, 17, 76] vs 19), (sl [0, 1, 2, 3, 8, 19, 9, 23, 24, 25, 10, 11, 12, 39, 40, 41, 14, 13, 15, 16, 63, 7, 71, 17, 76] vs 9), (sl [0, 1, 2, 3, 8, 19, 9, 23, 24, 25, 10, 11, 12, 39, 40, 41, 14, 13, 15, 16, 63, 7, 71, 17, 76] vs 23), (sl [0, 1, 2, 3, 8, 19, 9, 23, 24, 25, 10, 11, 12, 39, 40, 41, 14, 13, 15, 16, 63, 7, 71, 17, 76] vs 24), (sl [0, 1, 2, 3, 8, 19, 9, 23, 24, 25, 10, 11, 12, 39, 40, 41, 14, 13, 15, 16, 63, 7, 71, 17, 76] vs 25), (sl [0, 1, 2, 3, 8, 19, 9, 23, 24, 25, 10, 11, 12, 39, 40, 41, 14, 13, 15, 16, 63, 7, 71, 17, 76] vs 10), (sl [0, 1, 2, 3, 8, 19, 9, 23, 24, 25, 10, 11, 12, 39, 40, 41, 14, 13, 15, 16, 63, 7, 71, 17, 76] vs 11), (sl [0, 1, 2, 3, 8, 19, 9, 23, 24, 25, 10, 11, 12, 39, 40, 41, 14, 13, 15, 16, 63, 7, 71, 17, 76] vs 12), (sl [0, 1, 2, 3, 8, 19, 9, 23, 24, 25, 10, 11, 12, 39, 40, 41, 14, 13, 15, 16, 63, 7, 71, 17, 76] vs 39), (sl [0, 1, 2, 3, 8, 19, 9, 23, 24, 25, 10, 11, 12, 39, 40, 41, 14, 13, 15, 16, 63, 7, 71, 17, 76] vs 40), (sl [0, 1, 2, 3, 8, 19, 9, 23, 24, 25, 10, 11, 12, 39, 40, 41, 14, 13, 15, 16, 63, 7, 71, 17, 76] vs 41), (sl [0, 1, 2, 3, 8, 19, 9, 23, 24, 25, 10, 11, 12, 39, 40, 41, 14, 13, 15, 16, 63, 7, 71, 17, 76] vs 14), (sl [0, 1, 2, 3, 8, 19, 9, 23, 24, 25, 10, 11, 12, 39, 40, 41, 14, 13, 15, 16, 63, 7, 71, 17, 76] vs 13), (sl [0, 1, 2, 3, 8, 19, 9, 23, 24, 25, 10, 11, 12, 39, 40, 41, 14, 13, 15, 16, 63, 7, 71, 17, 76] vs 15), (sl [0, 1, 2, 3, 8, 19, 9, 23, 24, 25, 10, 11, 12, 39, 40, 41, 14, 13, 15, 16, 63, 7, 71, 17, 76] vs 16), (sl [0, 1, 2, 3, 8, 19, 9, 23, 24, 25, 10, 11, 12, 39, 40, 41, 14, 13, 15, 16, 63, 7, 71, 17, 76] vs 63), (sl [0, 1, 2, 3, 8, 19, 9, 23, 24, 25, 10, 11, 12, 39, 40, 41, 14, 13, 15, 16, 63, 7, 71, 17, 76] vs 7), x45, x20, (sl [0, 1, 2, 3, 8, 19, 9, 23, 24, 25, 10, 11, 12, 39, 40, 41, 14, 13, 15, 16, 63, 7, 71, 17, 76] vs 76)]) H) fun e H => (kBlk 4 (kSeq (F6_j2 C n) (kRet Try.prog [.cell 8 4] [0, 1, 2, 3, 8, 19, 9, 23, 24, 25, 10, 11, 12, 39, 40, 41, 14, 13, 15, 16, 63, 7, 71, 17, 76]))) e [(sl [0, 1, 2, 3, 8, 19, 9, 23, 24, 25, 10, 11, 12, 39, 40, 41, 14, 13, 15, 16, 63, 7, 71, 17, 76] vs 0), (sl [0, 1, 2, 3, 8, 19, 9, 23, 24, 25, 10, 11, 12, 39, 40, 41, 14, 13, 15, 16, 63, 7, 71, 17, 76] vs 1), (sl [0, 1, 2, 3, 8, 19, 9, 23, 24, 25, 10, 11, 12, 39, 40, 41, 14, 13, 15, 16, 63, 7, 71, 17, 76] vs 2), (sl [0, 1, 2, 3, 8, 19, 9, 23, 24, 25, 10, 11, 12, 39, 40, 41, 14, 13, 15, 16, 63, 7, 71, 17, 76] vs 3), (sl [0, 1, 2, 3, 8, 19, 9, 23, 24, 25, 10, 11, 12, 39, 40, 41, 14, 13, 15, 16, 63, 7, 71, 17, 76] vs 8), (sl [0, 1, 2, 3, 8, 19, 9, 23, 24, 25, 10, 11, 12, 39, 40, 41, 14, 13, 15, 16, 63, 7, 71, 17, 76] vs 19), (sl [0, 1, 2, 3, 8, 19, 9, 23, 24, 25, 10, 11, 12, 39, 40, 41, 14, 13, 15, 16, 63, 7, 71, 17, 76] vs 9), (sl [0, 1, 2, 3, 8, 19, 9, 23, 24, 25, 10, 11, 12, 39, 40, 41, 14, 13, 15, 16, 63, 7, 71, 17, 76] vs 23), (sl [0, 1, 2, 3, 8, 19, 9, 23, 24, 25, 10, 11, 12, 39, 40, 41, 14, 13, 15, 16, 63, 7, 71, 17, 76] vs 24), (sl [0, 1, 2, 3, 8, 19, 9, 23, 24, 25, 10, 11, 12, 39, 40, 41, 14, 13, 15, 16, 63, 7, 71, 17, 76] vs 25), (sl [0, 1, 2, 3, 8, 19, 9, 23, 24, 25, 10, 11, 12, 39, 40, 41, 14, 13, 15, 16, 63, 7, 71, 17, 76] vs 10), (sl [0, 1, 2, 3, 8, 19, 9, 23, 24, 25, 10, 11, 12, 39, 40, 41, 14, 13, 15, 16, 63, 7, 71, 17, 76] vs 11), (sl [0, 1, 2, 3, 8, 19, 9, 23, 24, 25, 10, 11, 12, 39, 40, 41, 14, 13, 15, 16, 63, 7, 71, 17, 76] vs 12), (sl [0, 1, 2, 3, 8, 19, 9, 23, 24, 25, 10, 11, 12, 39, 40, 41, 14, 13, 15, 16, 63, 7, 71, 17, 76] vs 39), (sl [0, 1, 2, 3, 8, 19, 9, 23, 24, 25, 10, 11, 12, 39, 40, 41, 14, 13, 15, 16, 63, 7, 71, 17, 76] vs 40), (sl [0, 1, 2, 3, 8, 19, 9, 23, 24, 25, 10, 11, 12, 39, 40, 41, 14, 13, 15, 16, 63, 7, 71, 17, 76] vs 41), (sl [0, 1, 2, 3, 8, 19, 9, 23, 24, 25, 10, 11, 12, 39, 40, 41, 14, 13, 15, 16, 63, 7, 71, 17, 76] vs 14), (sl [0, 1, 2, 3, 8, 19, 9, 23, 24, 25, 10, 11, 12, 39, 40, 41, 14, 13, 15, 16, 63, 7, 71, 17, 76] vs 13), (sl [0, 1, 2, 3, 8, 19, 9, 23, 24, 25, 10, 11, 12, 39, 40, 41, 14, 13, 15, 16, 63, 7, 71, 17, 76] vs 15), (sl [0, 1, 2, 3, 8, 19, 9, 23, 24, 25, 10, 11, 12, 39, 40, 41, 14, 13, 15, 16, 63, 7, 71, 17, 76] vs 16), (sl [0, 1, 2, 3, 8, 19, 9, 23, 24, 25, 10, 11, 12, 39, 40, 41, 14, 13, 15, 16, 63, 7, 71, 17, 76] vs 63), (sl [0, 1, 2, 3, 8, 19, 9, 23, 24, 25, 10, 11, 12, 39, 40, 41, 14, 13, 15, 16, 63, 7, 71, 17, 76] vs 7), x45, x20, (sl [0, 1, 2, 3, 8, 19, 9, 23, 24, 25, 10, 11, 12, 39, 40, 41, 14, 13, 15, 16, 63, 7, 71, 17, 76] vs 76)] H

noncomputable def F6_j1v (C : Oracle) (n : Nat) (v0 v1 v2 v3 v8 v19 v9 v23 v24 v25 v10 v11 v12 v39 v40 v41 v14 v13 v15 v16 v63 v7 v71 v17 v76 : Value) (H : Heap) : Option (Value × Heap) :=
  bnd (pS (ld1 v7 H) H) fun x17 H =>
  bnd (C 24 [x17, (Value.int .i64 (200))] H) fun x18 H =>
  bnd (stS 1 v7 x18 H) fun x19 H =>
  bnd (some (newBlk H 3 1 [(Value.int .i64 (0))])) fun x20 H =>
  bnd (stS 1 x20 (Value.int .i64 (0)) H) fun x21 H =>
  bnd (some (v9, H)) fun x42 H =>
  bnd (some (v1, H)) fun x43 H =>
  bnd (some (v2, H)) fun x44 H =>
  bnd (C 21 [x42, x43, x44] H) fun x45 H =>
  onRng (rngC Try.prog.funcs.size C x45 (F6_L2 [v0, v1, v2, v3, v8, v19, v9, v23, v24, v25, v10, v11, v12, v39, v40, v41, v14, v13, v15, v16, v63, v7, x45, x20, v76]) H) fun e H => (kBlk 4 (kSeq (F6_j2 C n) (kRet Try.prog [.cell 8 4] [0, 1, 2, 3, 8, 19, 9, 23, 24, 25, 10, 11, 12, 39, 40, 41, 14, 13, 15, 16, 63, 7, 71, 17, 76]))) e [v0, v1, v2, v3, v8, v19, v9, v23, v24, v25, v10, v11, v12, v39, v40, v41, v14, v13, v15, v16, v63, v7, x45, x20, v76] H

theorem F6_j1_v (C : Oracle) (n : Nat) (v0 v1 v2 v3 v8 v19 v9 v23 v24 v25 v10 v11 v12 v39 v40 v41 v14 v13 v15 v16 v63 v7 v71 v17 v76 : Value) (H : Heap) : F6_j1 C n [v0, v1, v2, v3, v8, v19, v9, v23, v24, v25, v10, v11, v12, v39, v40, v41, v14, v13, v15, v16, v63, v7, v71, v17, v76] H = F6_j1v C n v0 v1 v2 v3 v8 v19 v9 v23 v24 v25 v10 v11 v12 v39 v40 v41 v14 v13 v15 v16 v63 v7 v71 v17 v76 H := by
  kernel_rfl

noncomputable def F6_L1 (vs : List Value) : ALoop := ⟨[0, 1, 2, 3, 8, 19, 9, 23, 24, 25, 10, 11, 12, 39, 40, 41, 14, 13, 15, 16, 63, 7, 71, 17, 76], vs, (lpAt Try.prog 6 1).1, (lpAt Try.prog 6 1).2.1, (lpAt Try.prog 6 1).2.2⟩

noncomputable def F6_R1 (C : Oracle) (n i : Nat) (v0 v1 v2 v3 v8 v19 v9 v23 v24 v25 v10 v11 v12 v39 v40 v41 v14 v13 v15 v16 v63 v7 v71 v17 v76 : Value) (a0 a1 : Value) (H : Heap) : Option (Value × Heap) :=
  bnd (some (a0, H)) fun x56 H =>
  bnd (some (a1, H)) fun x57 H =>
  begR i H fun H =>
  bnd (pS (ld1 v14 H) H) fun x58 H =>
  bnd (pS (ld1 v13 H) H) fun x59 H =>
  bnd (pS (slen x59) H) fun x60 H =>
  bnd (pS (abin Try.prog .geq 3 x58 x60) H) fun x61 H =>
  bnd (some (x61, H)) fun x62 H =>
  bnd (gd (wantV x62 false) (pS (ld1 v13 H) H) H) fun x63 H =>
  bnd (gd (wantV x62 false) (pS (ld1 v14 H) H) H) fun x64 H =>
  bnd (gd (wantV x62 false) (iadS 2 x63 x64 H) H) fun x65 H =>
  bnd (gd (wantV x62 false) (fadS 0 x65 H) H) fun x66 H =>
  bnd (gd (wantV x62 false) (pS (ld1 x66 H) H) H) fun x67 H =>
  bnd (gd (wantV x62 false) (some (x56, H)) H) fun x68 H =>
  bnd (gd (wantV x62 false) (pS (abin Try.prog .neq 2 x67 x68) H) H) fun x69 H =>
  bnd (pickS x62 (Value.bool true) x69 H) fun x70 H =>
  bnd (some (x70, H)) fun x71 H =>
  bnd (gd (wantV x71 false) (pS (ld1 v13 H) H) H) fun x72 H =>
  bnd (gd (wantV x71 false) (pS (ld1 v14 H) H) H) fun x73 H =>
  bnd (gd (wantV x71 false) (iadS 2 x72 x73 H) H) fun x74 H =>
  bnd (gd (wantV x71 false) (fadS 1 x74 H) H) fun x75 H =>
  bnd (gd (wantV x71 false) (pS (ld1 x75 H) H) H) fun x76 H =>
  bnd (gd (wantV x71 false) (some (x57, H)) H) fun x77 H =>
  bnd (gd (wantV x71 false) (pS (abin Try.prog .neq 2 x76 x77) H) H) fun x78 H =>
  bnd (pickS x71 (Value.bool true) x78 H) fun x79 H =>
  brB x79 (bnd (stS 1 v8 (Value.bool false) H) fun x80 H =>
  endR i .ret H) (
  bnd (pS (ld1 v14 H) H) fun x81 H =>
  bnd (pS (abin Try.prog .add 3 x81 (Value.int .i64 (1))) H) fun x82 H =>
  bnd (stS 1 v14 x82 H) fun x83 H =>
  endR i .normal H)

theorem F6_R1_eq (G : Oracle) (n i : Nat) (v0 v1 v2 v3 v8 v19 v9 v23 v24 v25 v10 v11 v12 v39 v40 v41 v14 v13 v15 v16 v63 v7 v71 v17 v76 : Value) (a0 a1 : Value) (H : Heap) (h : H.oth i = some (.loop (F6_L1 [v0, v1, v2, v3, v8, v19, v9, v23, v24, v25, v10, v11, v12, v39, v40, v41, v14, v13, v15, v16, v63, v7, v71, v17, v76]) .ready)) : run G (n + 1) (Try.prog.funcs.size + i) [a0, a1] H = F6_R1 (run G n) n i v0 v1 v2 v3 v8 v19 v9 v23 v24 v25 v10 v11 v12 v39 v40 v41 v14 v13 v15 v16 v63 v7 v71 v17 v76 a0 a1 H := by
  unfold run; rw [acall_r (by kernel_rfl) h (by kernel_rfl)]
  kernel_rfl

noncomputable def F6_j0 (C : Oracle) (n : Nat) (vs : List Value) (H : Heap) : Option (Value × Heap) :=
  bnd (pS (ld1 (sl [0, 1, 2, 3, 8, 19, 9, 23, 24, 25, 10, 11, 12, 39, 40, 41, 14, 13, 15, 16, 63, 7, 71, 17, 76] vs 10) H) H) fun x9 H =>
  bnd (some ((sl [0, 1, 2, 3, 8, 19, 9, 23, 24, 25, 10, 11, 12, 39, 40, 41, 14, 13, 15, 16, 63, 7, 71, 17, 76] vs 1), H)) fun x10 H =>
  bnd (some ((sl [0, 1, 2, 3, 8, 19, 9, 23, 24, 25, 10, 11, 12, 39, 40, 41, 14, 13, 15, 16, 63, 7, 71, 17, 76] vs 2), H)) fun x11 H =>
  bnd (C 23 [x9, x10, x11] H) fun x12 H =>
  bnd (some (newBlk H 51 1 [(Value.slice none 0 0)])) fun x13 H =>
  bnd (stS 1 x13 x12 H) fun x14 H =>
  bnd (some (newBlk H 3 1 [(Value.int .i64 (0))])) fun x15 H =>
  bnd (stS 1 x15 (Value.int .i64 (0)) H) fun x16 H =>
  bnd (some ((sl [0, 1, 2, 3, 8, 19, 9, 23, 24, 25, 10, 11, 12, 39, 40, 41, 14, 13, 15, 16, 63, 7, 71, 17, 76] vs 9), H)) fun x52 H =>
  bnd (some ((sl [0, 1, 2, 3, 8, 19, 9, 23, 24, 25, 10, 11, 12, 39, 40, 41, 14, 13, 15, 16, 63, 7, 71, 17, 76] vs 1), H)) fun x53 H =>
  bnd (some ((sl [0, 1, 2, 3, 8, 19, 9, 23, 24, 25, 10, 11, 12, 39, 40, 41, 14, 13, 15, 16, 63, 7, 71, 17, 76] vs 2), H)) fun x54 H =>
  bnd (C 21 [x52, x53, x54] H) fun x55 H =>
  onRng (rngC Try.prog.funcs.size C x55 (F6_L1 [(sl [0, 1, 2, 3, 8, 19, 9, 23, 24, 25, 10, 11, 12, 39, 40, 41, 14, 13, 15, 16, 63, 7, 71, 17, 76] vs 0), (sl [0, 1, 2, 3, 8, 19, 9, 23, 24, 25, 10, 11, 12, 39, 40, 41, 14, 13, 15, 16, 63, 7, 71, 17, 76] vs 1), (sl [0, 1, 2, 3, 8, 19, 9, 23, 24, 25, 10, 11, 12, 39, 40, 41, 14, 13, 15, 16, 63, 7, 71, 17, 76] vs 2), (sl [0, 1, 2, 3, 8, 19, 9, 23, 24, 25, 10, 11, 12, 39, 40, 41, 14, 13, 15, 16, 63, 7, 71, 17, 76] vs 3), (sl [0, 1, 2, 3, 8, 19, 9, 23, 24, 25, 10, 11, 12, 39, 40, 41, 14, 13, 15, 16, 63, 7, 71, 17, 76] vs 8), (sl [0, 1, 2, 3, 8, 19, 9, 23, 24, 25, 10, 11, 12, 39, 40, 41, 14, 13, 15, 16, 63, 7, 71, 17, 76] vs 19), (sl [0, 1, 2, 3, 8, 19, 9, 23, 24, 25, 10, 11, 12, 39, 40, 41, 14, 13, 15, 16, 63, 7, 71, 17, 76] vs 9), (sl [0, 1, 2, 3, 8, 19, 9, 23, 24, 25, 10, 11, 12, 39, 40, 41, 14, 13, 15, 16, 63, 7, 71, 17, 76] vs 23), (sl [0, 1, 2, 3, 8, 19, 9, 23, 24, 25, 10, 11, 12, 39, 40, 41, 14, 13, 15, 16, 63, 7, 71, 17, 76] vs 24), (sl [0, 1, 2, 3, 8, 19, 9, 23, 24, 25, 10, 11, 12, 39, 40, 41, 14, 13, 15, 16, 63, 7, 71, 17, 76] vs 25), (sl [0, 1, 2, 3, 8, 19, 9, 23, 24, 25, 10, 11, 12, 39, 40, 41, 14, 13, 15, 16, 63, 7, 71, 17, 76] vs 10), (sl [0, 1, 2, 3, 8, 19, 9, 23, 24, 25, 10, 11, 12, 39, 40, 41, 14, 13, 15, 16, 63, 7, 71, 17, 76] vs 11), (sl [0, 1, 2, 3, 8, 19, 9, 23, 24, 25, 10, 11, 12, 39, 40, 41, 14, 13, 15, 16, 63, 7, 71, 17, 76] vs 12), x55, (sl [0, 1, 2, 3, 8, 19, 9, 23, 24, 25, 10, 11, 12, 39, 40, 41, 14, 13, 15, 16, 63, 7, 71, 17, 76] vs 40), (sl [0, 1, 2, 3, 8, 19, 9, 23, 24, 25, 10, 11, 12, 39, 40, 41, 14, 13, 15, 16, 63, 7, 71, 17, 76] vs 41), x15, x13, (sl [0, 1, 2, 3, 8, 19, 9, 23, 24, 25, 10, 11, 12, 39, 40, 41, 14, 13, 15, 16, 63, 7, 71, 17, 76] vs 15), (sl [0, 1, 2, 3, 8, 19, 9, 23, 24, 25, 10, 11, 12, 39, 40, 41, 14, 13, 15, 16, 63, 7, 71, 17, 76] vs 16), (sl [0, 1, 2, 3, 8, 19, 9, 23, 24, 25, 10, 11, 12, 39, 40, 41, 14, 13, 15, 16, 63, 7, 71, 17, 76] vs 63), (sl [0, 1, 2, 3, 8, 19, 9, 23, 24, 25, 10, 11, 12, 39, 40, 41, 14, 13, 15, 16, 63, 7, 71, 17, 76] vs 7), (sl [0, 1, 2, 3, 8, 19, 9, 23, 24, 25, 10, 11, 12, 39, 40, 41, 14, 13, 15, 16, 63, 7, 71, 17, 76] vs 71), (sl [0, 1, 2, 3, 8, 19, 9, 23, 24, 25, 10, 11, 12, 39, 40, 41, 14, 13, 15, 16, 63, 7, 71, 17, 76] vs 17), (sl [0, 1, 2, 3, 8, 19, 9, 23, 24, 25, 10, 11, 12, 39, 40, 41, 14, 13, 15, 16, 63, 7, 71, 17, 76] vs 76)]) H) fun e H => (kBlk 2 (kSeq (F6_j1 C n) (kRet Try.prog [.cell 8 4] [0, 1, 2, 3, 8, 19, 9, 23, 24, 25, 10, 11, 12, 39, 40, 41, 14, 13, 15, 16, 63, 7, 71, 17, 76]))) e [(sl [0, 1, 2, 3, 8, 19, 9, 23, 24, 25, 10, 11, 12, 39, 40, 41, 14, 13, 15, 16, 63, 7, 71, 17, 76] vs 0), (sl [0, 1, 2, 3, 8, 19, 9, 23, 24, 25, 10, 11, 12, 39, 40, 41, 14, 13, 15, 16, 63, 7, 71, 17, 76] vs 1), (sl [0, 1, 2, 3, 8, 19, 9, 23, 24, 25, 10, 11, 12, 39, 40, 41, 14, 13, 15, 16, 63, 7, 71, 17, 76] vs 2), (sl [0, 1, 2, 3, 8, 19, 9, 23, 24, 25, 10, 11, 12, 39, 40, 41, 14, 13, 15, 16, 63, 7, 71, 17, 76] vs 3), (sl [0, 1, 2, 3, 8, 19, 9, 23, 24, 25, 10, 11, 12, 39, 40, 41, 14, 13, 15, 16, 63, 7, 71, 17, 76] vs 8), (sl [0, 1, 2, 3, 8, 19, 9, 23, 24, 25, 10, 11, 12, 39, 40, 41, 14, 13, 15, 16, 63, 7, 71, 17, 76] vs 19), (sl [0, 1, 2, 3, 8, 19, 9, 23, 24, 25, 10, 11, 12, 39, 40, 41, 14, 13, 15, 16, 63, 7, 71, 17, 76] vs 9), (sl [0, 1, 2, 3, 8, 19, 9, 23, 24, 25, 10, 11, 12, 39, 40, 41, 14, 13, 15, 16, 63, 7, 71, 17, 76] vs 23), (sl [0, 1, 2, 3, 8, 19, 9, 23, 24, 25, 10, 11, 12, 39, 40, 41, 14, 13, 15, 16, 63, 7, 71, 17, 76] vs 24), (sl [0, 1, 2, 3, 8, 19, 9, 23, 24, 25, 10, 11, 12, 39, 40, 41, 14, 13, 15, 16, 63, 7, 71, 17, 76] vs 25), (sl [0, 1, 2, 3, 8, 19, 9, 23, 24, 25, 10, 11, 12, 39, 40, 41, 14, 13, 15, 16, 63, 7, 71, 17, 76] vs 10), (sl [0, 1, 2, 3, 8, 19, 9, 23, 24, 25, 10, 11, 12, 39, 40, 41, 14, 13, 15, 16, 63, 7, 71, 17, 76] vs 11), (sl [0, 1, 2, 3, 8, 19, 9, 23, 24, 25, 10, 11, 12, 39, 40, 41, 14, 13, 15, 16, 63, 7, 71, 17, 76] vs 12), x55, (sl [0, 1, 2, 3, 8, 19, 9, 23, 24, 25, 10, 11, 12, 39, 40, 41, 14, 13, 15, 16, 63, 7, 71, 17, 76] vs 40), (sl [0, 1, 2, 3, 8, 19, 9, 23, 24, 25, 10, 11, 12, 39, 40, 41, 14, 13, 15, 16, 63, 7, 71, 17, 76] vs 41), x15, x13, (sl [0, 1, 2, 3, 8, 19, 9, 23, 24, 25, 10, 11, 12, 39, 40, 41, 14, 13, 15, 16, 63, 7, 71, 17, 76] vs 15), (sl [0, 1, 2, 3, 8, 19, 9, 23, 24, 25, 10, 11, 12, 39, 40, 41, 14, 13, 15, 16, 63, 7, 71, 17, 76] vs 16), (sl [0, 1, 2, 3, 8, 19, 9, 23, 24, 25, 10, 11, 12, 39, 40, 41, 14, 13, 15, 16, 63, 7, 71, 17, 76] vs 63), (sl [0, 1, 2, 3, 8, 19, 9, 23, 24, 25, 10, 11, 12, 39, 40, 41, 14, 13, 15, 16, 63, 7, 71, 17, 76] vs 7), (sl [0, 1, 2, 3, 8, 19, 9, 23, 24, 25, 10, 11, 12, 39, 40, 41, 14, 13, 15, 16, 63, 7, 71, 17, 76] vs 71), (sl [0, 1, 2, 3, 8, 19, 9, 23, 24, 25, 10, 11, 12, 39, 40, 41, 14, 13, 15, 16, 63, 7, 71, 17, 76] vs 17), (sl [0, 1, 2, 3, 8, 19, 9, 23, 24, 25, 10, 11, 12, 39, 40, 41, 14, 13, 15, 16, 63, 7, 71, 17, 76] vs 76)] H

noncomputable def F6_j0v (C : Oracle) (n : Nat) (v0 v1 v2 v3 v8 v19 v9 v23 v24 v25 v10 v11 v12 v39 v40 v41 v14 v13 v15 v16 v63 v7 v71 v17 v76 : Value) (H : Heap) : Option (Value × Heap) :=
  bnd (pS (ld1 v10 H) H) fun x9 H =>
  bnd (some (v1, H)) fun x10 H =>
  bnd (some (v2, H)) fun x11 H =>
  bnd (C 23 [x9, x10, x11] H) fun x12 H =>
  bnd (some (newBlk H 51 1 [(Value.slice none 0 0)])) fun x13 H =>
  bnd (stS 1 x13 x12 H) fun x14 H =>
  bnd (some (newBlk H 3 1 [(Value.int .i64 (0))])) fun x15 H =>
  bnd (stS 1 x15 (Value.int .i64 (0)) H) fun x16 H =>
  bnd (some (v9, H)) fun x52 H =>
  bnd (some (v1, H)) fun x53 H =>
  bnd (some (v2, H)) fun x54 H =>
  bnd (C 21 [x52, x53, x54] H) fun x55 H =>
  onRng (rngC Try.prog.funcs.size C x55 (F6_L1 [v0, v1, v2, v3, v8, v19, v9, v23, v24, v25, v10, v11, v12, x55, v40, v41, x15, x13, v15, v16, v63, v7, v71, v17, v76]) H) fun e H => (kBlk 2 (kSeq (F6_j1 C n) (kRet Try.prog [.cell 8 4] [0, 1, 2, 3, 8, 19, 9, 23, 24, 25, 10, 11, 12, 39, 40, 41, 14, 13, 15, 16, 63, 7, 71, 17, 76]))) e [v0, v1, v2, v3, v8, v19, v9, v23, v24, v25, v10, v11, v12, x55, v40, v41, x15, x13, v15, v16, v63, v7, v71, v17, v76] H

theorem F6_j0_v (C : Oracle) (n : Nat) (v0 v1 v2 v3 v8 v19 v9 v23 v24 v25 v10 v11 v12 v39 v40 v41 v14 v13 v15 v16 v63 v7 v71 v17 v76 : Value) (H : Heap) : F6_j0 C n [v0, v1, v2, v3, v8, v19, v9, v23, v24, v25, v10, v11, v12, v39, v40, v41, v14, v13, v15, v16, v63, v7, v71, v17, v76] H = F6_j0v C n v0 v1 v2 v3 v8 v19 v9 v23 v24 v25 v10 v11 v12 v39 v40 v41 v14 v13 v15 v16 v63 v7 v71 v17 v76 H := by
  kernel_rfl

noncomputable def F6_L0 (vs : List Value) : ALoop := ⟨[0, 1, 2, 3, 8, 19, 9, 23, 24, 25, 10, 11, 12, 39, 40, 41, 14, 13, 15, 16, 63, 7, 71, 17, 76], vs, (lpAt Try.prog 6 0).1, (lpAt Try.prog 6 0).2.1, (lpAt Try.prog 6 0).2.2⟩

noncomputable def F6_R0 (C : Oracle) (n i : Nat) (v0 v1 v2 v3 v8 v19 v9 v23 v24 v25 v10 v11 v12 v39 v40 v41 v14 v13 v15 v16 v63 v7 v71 v17 v76 : Value) (a0 a1 : Value) (H : Heap) : Option (Value × Heap) :=
  bnd (some (a0, H)) fun x86 H =>
  bnd (some (a1, H)) fun x87 H =>
  begR i H fun H =>
  bnd (pS (ld1 v10 H) H) fun x88 H =>
  bnd (some (x86, H)) fun x89 H =>
  bnd (some (x87, H)) fun x90 H =>
  bnd (pS (abuild Try.prog 53 [(0, x89), (1, x90)]) H) fun x91 H =>
  bnd (abuildSlice Try.prog 51 1 [(0, x91)] H) fun x92 H =>
  bnd (appS 53 2 16 x88 x92 H) fun x93 H =>
  bnd (stS 1 v10 x93 H) fun x94 H =>
  endR i .normal H

theorem F6_R0_eq (G : Oracle) (n i : Nat) (v0 v1 v2 v3 v8 v19 v9 v23 v24 v25 v10 v11 v12 v39 v40 v41 v14 v13 v15 v16 v63 v7 v71 v17 v76 : Value) (a0 a1 : Value) (H : Heap) (h : H.oth i = some (.loop (F6_L0 [v0, v1, v2, v3, v8, v19, v9, v23, v24, v25, v10, v11, v12, v39, v40, v41, v14, v13, v15, v16, v63, v7, v71, v17, v76]) .ready)) : run G (n + 1) (Try.prog.funcs.size + i) [a0, a1] H = F6_R0 (run G n) n i v0 v1 v2 v3 v8 v19 v9 v23 v24 v25 v10 v11 v12 v39 v40 v41 v14 v13 v15 v16 v63 v7 v71 v17 v76 a0 a1 H := by
  unfold run; rw [acall_r (by kernel_rfl) h (by kernel_rfl)]
  kernel_rfl

noncomputable def F6 (C : Oracle) (n : Nat) (a0 a1 a2 a3 : Value) (H : Heap) : Option (Value × Heap) :=
  bnd (boxS 3 a3 H) fun x0 H =>
  bnd (some (newBlk H 4 1 [(Value.bool false)])) fun x1 H =>
  bnd (C 10 [] H) fun x2 H =>
  bnd (pS (aun .not x2) H) fun x3 H =>
  brB x3 (bnd (stS 1 x1 (Value.bool false) H) fun x4 H =>
  bnd (pS (ld1 x1 H) H) fun r0 _ =>
  some (r0, H)) (
  bnd (some (a0, H)) fun x5 H =>
  bnd (C 11 [x5] H) fun x6 H =>
  bnd (some (x6, H)) fun x7 H =>
  bnd (some (newBlk H 51 1 [(Value.slice none 0 0)])) fun x8 H =>
  bnd (some (x7, H)) fun x84 H =>
  bnd (C 15 [x84] H) fun x85 H =>
  onRng (rngC Try.prog.funcs.size C x85 (F6_L0 [a0, a1, a2, a3, x1, x3, x7, x85, undef, undef, x8, undef, undef, undef, undef, undef, undef, undef, undef, undef, undef, x0, undef, undef, undef]) H) fun e H => (kBlk 0 (kSeq (F6_j0 C n) (kRet Try.prog [.cell 8 4] [0, 1, 2, 3, 8, 19, 9, 23, 24, 25, 10, 11, 12, 39, 40, 41, 14, 13, 15, 16, 63, 7, 71, 17, 76]))) e [a0, a1, a2, a3, x1, x3, x7, x85, undef, undef, x8, undef, undef, undef, undef, undef, undef, undef, undef, undef, undef, x0, undef, undef, undef] H)

theorem F6_eq (G : Oracle) (n : Nat) (a0 a1 a2 a3 : Value) (H : Heap) : run G (n + 1) 6 [a0, a1, a2, a3] H = F6 (run G n) n a0 a1 a2 a3 H := by
  unfold run; rw [acall_k (fn := Try.f6) (keep := [0, 1, 2, 3, 8, 19, 9, 23, 24, 25, 10, 11, 12, 39, 40, 41, 14, 13, 15, 16, 63, 7, 71, 17, 76]) (notBad 6 rfl) (by kernel_rfl) (by kernel_rfl)]
  kernel_rfl

end Go.Proofs.Ytdgolnenpnkjbaa.Fun
