/- The program's functions as plain terms, each with its equation; printed by wip/am/fun.py. -/
import Derived.Test.YtdgolnenpnkjbaaFunK
namespace Go.Proofs.Ytdgolnenpnkjbaa.Fun
open Go.RowKit Go.Proofs.YtdgolnenpnkjbaaA.Am
set_option linter.unusedVariables false
set_option maxRecDepth 10000
abbrev F3_st (v0 : Value := undef) (v1 : Value := undef) (v4 : Value := undef) (v16 : Value := undef) (v5 : Value := undef) (v3 : Value := undef) (v8 : Value := undef) (v6 : Value := undef) (v11 : Value := undef) (v9 : Value := undef) (v13 : Value := undef) (v72 : Value := undef) (v74 : Value := undef) (v75 : Value := undef) (v14 : Value := undef) (v102 : Value := undef) : List Value := [v0, v1, v4, v16, v5, v3, v8, v6, v11, v9, v13, v72, v74, v75, v14, v102]

noncomputable def F3_j0 (C : Oracle) (n : Nat) (vs : List Value) (H : Heap) : Option (Value × Heap) :=
  bnd (C 10 [] H) fun x75 H =>
  bnd (stS 1 (sl [0, 1, 4, 16, 5, 3, 8, 6, 11, 9, 13, 72, 74, 75, 14, 102] vs 4) x75 H) fun x76 H =>
  bnd (pS (ld1 (sl [0, 1, 4, 16, 5, 3, 8, 6, 11, 9, 13, 72, 74, 75, 14, 102] vs 4) H) H) fun r0 _ =>
  some (r0, H)

noncomputable def F3_j0v (C : Oracle) (n : Nat) (v0 v1 v4 v16 v5 v3 v8 v6 v11 v9 v13 v72 v74 v75 v14 v102 : Value) (H : Heap) : Option (Value × Heap) :=
  bnd (C 10 [] H) fun x75 H =>
  bnd (stS 1 v4 x75 H) fun x76 H =>
  bnd (pS (ld1 v4 H) H) fun r0 _ =>
  some (r0, H)

theorem F3_j0_v (C : Oracle) (n : Nat) (v0 v1 v4 v16 v5 v3 v8 v6 v11 v9 v13 v72 v74 v75 v14 v102 : Value) (H : Heap) : F3_j0 C n [v0, v1, v4, v16, v5, v3, v8, v6, v11, v9, v13, v72, v74, v75, v14, v102] H = F3_j0v C n v0 v1 v4 v16 v5 v3 v8 v6 v11 v9 v13 v72 v74 v75 v14 v102 H := by
  kernel_rfl

noncomputable def F3_L0 (vs : List Value) : ALoop := ⟨[0, 1, 4, 16, 5, 3, 8, 6, 11, 9, 13, 72, 74, 75, 14, 102], vs, (lpAt Try.prog 3 0).1, (lpAt Try.prog 3 0).2.1, (lpAt Try.prog 3 0).2.2⟩

noncomputable def F3_R0 (C : Oracle) (n i : Nat) (v0 v1 v4 v16 v5 v3 v8 v6 v11 v9 v13 v72 v74 v75 v14 v102 : Value) (a0 a1 : Value) (H : Heap) : Option (Value × Heap) :=
  bnd (some (a0, H)) fun x79 H =>
  begR i H fun H =>
  bnd (some (x79, H)) fun x80 H =>
  bnd (pS (ld1 v3 H) H) fun x81 H =>
  bnd (pS (abin Try.prog .leq 2 x80 x81) H) fun x82 H =>
  bnd (some (x82, H)) fun x83 H =>
  bnd (gd (wantV x83 true) (pS (ld1 v8 H) H) H) fun x84 H =>
  bnd (gd (wantV x83 true) (pS (aun .not x84) H) H) fun x85 H =>
  bnd (gd (wantV x83 true) (some (x85, H)) H) fun x86 H =>
  bnd (gd (wantV x86 false) (some (x79, H)) H) fun x87 H =>
  bnd (gd (wantV x86 false) (pS (ld1 v6 H) H) H) fun x88 H =>
  bnd (gd (wantV x86 false) (pS (abin Try.prog .gtr 2 x87 x88) H) H) fun x89 H =>
  bnd (gd (wantV x83 true) (pickS x86 (Value.bool true) x89 H) H) fun x90 H =>
  bnd (pickS x83 x90 (Value.bool false) H) fun x91 H =>
  bnd (some (x91, H)) fun x92 H =>
  bnd (gd (wantV x92 false) (some (x79, H)) H) fun x93 H =>
  bnd (gd (wantV x92 false) (pS (ld1 v3 H) H) H) fun x94 H =>
  bnd (gd (wantV x92 false) (pS (abin Try.prog .geq 2 x93 x94) H) H) fun x95 H =>
  bnd (gd (wantV x92 false) (some (x95, H)) H) fun x96 H =>
  bnd (gd (wantV x96 true) (pS (ld1 v11 H) H) H) fun x97 H =>
  bnd (gd (wantV x96 true) (pS (aun .not x97) H) H) fun x98 H =>
  bnd (gd (wantV x96 true) (some (x98, H)) H) fun x99 H =>
  bnd (gd (wantV x99 false) (some (x79, H)) H) fun x100 H =>
  bnd (gd (wantV x99 false) (pS (ld1 v9 H) H) H) fun x101 H =>
  bnd (gd (wantV x99 false) (pS (abin Try.prog .lss 2 x100 x101) H) H) fun x102 H =>
  bnd (gd (wantV x96 true) (pickS x99 (Value.bool true) x102 H) H) fun x103 H =>
  bnd (gd (wantV x92 false) (pickS x96 x103 (Value.bool false) H) H) fun x104 H =>
  bnd (pickS x92 (Value.bool true) x104 H) fun x105 H =>
  brB x105 (bnd (stS 1 v4 (Value.bool false) H) fun x106 H =>
  endR i .ret H) (
  endR i .normal H)

theorem F3_R0_eq (G : Oracle) (n i : Nat) (v0 v1 v4 v16 v5 v3 v8 v6 v11 v9 v13 v72 v74 v75 v14 v102 : Value) (a0 a1 : Value) (H : Heap) (h : H.oth i = some (.loop (F3_L0 [v0, v1, v4, v16, v5, v3, v8, v6, v11, v9, v13, v72, v74, v75, v14, v102]) .ready)) : run G (n + 1) (Try.prog.funcs.size + i) [a0, a1] H = F3_R0 (run G n) n i v0 v1 v4 v16 v5 v3 v8 v6 v11 v9 v13 v72 v74 v75 v14 v102 a0 a1 H := by
  unfold run; rw [acall_r (by kernel_rfl) h (by kernel_rfl)]
  kernel_rfl

noncomputable def F3 (C : Oracle) (n : Nat) (a0 a1 : Value) (H : Heap) : Option (Value × Heap) :=
  bnd (boxS 2 a1 H) fun x0 H =>
  bnd (some (newBlk H 4 1 [(Value.bool false)])) fun x1 H =>
  bnd (C 10 [] H) fun x2 H =>
  bnd (pS (aun .not x2) H) fun x3 H =>
  brB x3 (bnd (stS 1 x1 (Value.bool false) H) fun x4 H =>
  bnd (pS (ld1 x1 H) H) fun r0 _ =>
  some (r0, H)) (
  bnd (some (a0, H)) fun x5 H =>
  bnd (C 11 [x5] H) fun x6 H =>
  bnd (some (x6, H)) fun x7 H =>
  bnd (some (x7, H)) fun x8 H =>
  bnd (pS (ld1 x0 H) H) fun x9 H =>
  bnd (C 12 [x8, x9] H) fun x10 H =>
  bnd (some (x10, H)) fun x11 H =>
  bnd (extS 0 x11 H) fun x12 H =>
  bnd (extS 1 x11 H) fun x13 H =>
  bnd (extS 2 x11 H) fun x14 H =>
  bnd (some (newBlk H 2 1 [(Value.int .i64 (0))])) fun x15 H =>
  bnd (some (newBlk H 4 1 [(Value.bool false)])) fun x16 H =>
  bnd (stS 1 x15 x12 H) fun x17 H =>
  bnd (some (x13, H)) fun x18 H =>
  bnd (stS 1 x16 x14 H) fun x19 H =>
  bnd (some (x7, H)) fun x20 H =>
  bnd (pS (ld1 x0 H) H) fun x21 H =>
  bnd (C 13 [x20, x21] H) fun x22 H =>
  bnd (some (x22, H)) fun x23 H =>
  bnd (extS 0 x23 H) fun x24 H =>
  bnd (extS 1 x23 H) fun x25 H =>
  bnd (extS 2 x23 H) fun x26 H =>
  bnd (some (newBlk H 2 1 [(Value.int .i64 (0))])) fun x27 H =>
  bnd (some (newBlk H 4 1 [(Value.bool false)])) fun x28 H =>
  bnd (stS 1 x27 x24 H) fun x29 H =>
  bnd (some (x25, H)) fun x30 H =>
  bnd (stS 1 x28 x26 H) fun x31 H =>
  bnd (some (x7, H)) fun x32 H =>
  bnd (pS (ld1 x0 H) H) fun x33 H =>
  bnd (C 14 [x32, x33] H) fun x34 H =>
  bnd (some (x34, H)) fun x35 H =>
  bnd (extS 0 x35 H) fun x36 H =>
  bnd (extS 1 x35 H) fun x37 H =>
  bnd (some (x36, H)) fun x38 H =>
  bnd (some (x37, H)) fun x39 H =>
  bnd (pS (ld1 x16 H) H) fun x40 H =>
  bnd (some (x40, H)) fun x41 H =>
  bnd (gd (wantV x41 true) (pS (ld1 x15 H) H) H) fun x42 H =>
  bnd (gd (wantV x41 true) (pS (ld1 x0 H) H) H) fun x43 H =>
  bnd (gd (wantV x41 true) (pS (abin Try.prog .gtr 2 x42 x43) H) H) fun x44 H =>
  bnd (pickS x41 x44 (Value.bool false) H) fun x45 H =>
  bnd (some (x45, H)) fun x46 H =>
  bnd (gd (wantV x46 false) (pS (ld1 x28 H) H) H) fun x47 H =>
  bnd (gd (wantV x46 false) (some (x47, H)) H) fun x48 H =>
  bnd (gd (wantV x48 true) (pS (ld1 x27 H) H) H) fun x49 H =>
  bnd (gd (wantV x48 true) (pS (ld1 x0 H) H) H) fun x50 H =>
  bnd (gd (wantV x48 true) (pS (abin Try.prog .lss 2 x49 x50) H) H) fun x51 H =>
  bnd (gd (wantV x46 false) (pickS x48 x51 (Value.bool false) H) H) fun x52 H =>
  bnd (pickS x46 (Value.bool true) x52 H) fun x53 H =>
  bnd (some (x53, H)) fun x54 H =>
  bnd (gd (wantV x54 false) (some (x39, H)) H) fun x55 H =>
  bnd (gd (wantV x54 false) (pS (ld1 x16 H) H) H) fun x56 H =>
  bnd (gd (wantV x54 false) (some (x56, H)) H) fun x57 H =>
  bnd (gd (wantV x57 true) (pS (ld1 x15 H) H) H) fun x58 H =>
  bnd (gd (wantV x57 true) (pS (ld1 x0 H) H) H) fun x59 H =>
  bnd (gd (wantV x57 true) (pS (abin Try.prog .eql 2 x58 x59) H) H) fun x60 H =>
  bnd (gd (wantV x54 false) (pickS x57 x60 (Value.bool false) H) H) fun x61 H =>
  bnd (gd (wantV x54 false) (pS (abin Try.prog .neq 4 x55 x61) H) H) fun x62 H =>
  bnd (pickS x54 (Value.bool true) x62 H) fun x63 H =>
  bnd (some (x63, H)) fun x64 H =>
  bnd (gd (wantV x64 false) (some (x39, H)) H) fun x65 H =>
  bnd (gd (wantV x64 false) (pS (ld1 x28 H) H) H) fun x66 H =>
  bnd (gd (wantV x64 false) (some (x66, H)) H) fun x67 H =>
  bnd (gd (wantV x67 true) (pS (ld1 x27 H) H) H) fun x68 H =>
  bnd (gd (wantV x67 true) (pS (ld1 x0 H) H) H) fun x69 H =>
  bnd (gd (wantV x67 true) (pS (abin Try.prog .eql 2 x68 x69) H) H) fun x70 H =>
  bnd (gd (wantV x64 false) (pickS x67 x70 (Value.bool false) H) H) fun x71 H =>
  bnd (gd (wantV x64 false) (pS (abin Try.prog .neq 4 x65 x71) H) H) fun x72 H =>
  bnd (pickS x64 (Value.bool true) x72 H) fun x73 H =>
  brB x73 (bnd (stS 1 x1 (Value.bool false) H) fun x74 H =>
  bnd (pS (ld1 x1 H) H) fun r0 _ =>
  some (r0, H)) (
  bnd (some (x7, H)) fun x77 H =>
  bnd (C 15 [x77] H) fun x78 H =>
  onRng (rngC Try.prog.funcs.size C x78 (F3_L0 [a0, a1, x1, x3, x7, x0, x16, x15, x28, x27, x39, x73, x78, undef, undef, undef]) H) fun e H => (kBlk 0 (kSeq (F3_j0 C n) (kRet Try.prog [.cell 4 4] [0, 1, 4, 16, 5, 3, 8, 6, 11, 9, 13, 72, 74, 75, 14, 102]))) e [a0, a1, x1, x3, x7, x0, x16, x15, x28, x27, x39, x73, x78, undef, undef, undef] H))

theorem F3_eq (G : Oracle) (n : Nat) (a0 a1 : Value) (H : Heap) : run G (n + 1) 3 [a0, a1] H = F3 (run G n) n a0 a1 H := by
  unfold run; rw [acall_k (fn := Try.f3) (keep := [0, 1, 4, 16, 5, 3, 8, 6, 11, 9, 13, 72, 74, 75, 14, 102]) (notBad 3 rfl) (by kernel_rfl) (by kernel_rfl)]
  kernel_rfl

end Go.Proofs.Ytdgolnenpnkjbaa.Fun
