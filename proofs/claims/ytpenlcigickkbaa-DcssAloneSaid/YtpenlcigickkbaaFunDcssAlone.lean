/- The program's functions as plain terms, each with its equation; printed by wip/am/fun.py. -/
import Derived.Test.YtpenlcigickkbaaFunK
namespace Go.Proofs.Ytpenlcigickkbaa.Fun
open Go.RowKit Go.Proofs.YtpenlcigickkbaaA.Am
set_option linter.unusedVariables false
set_option maxRecDepth 10000
abbrev F12_st (v0 : Value := undef) (v1 : Value := undef) (v2 : Value := undef) (v3 : Value := undef) (v8 : Value := undef) (v9 : Value := undef) (v10 : Value := undef) (v42 : Value := undef) (v12 : Value := undef) (v11 : Value := undef) (v60 : Value := undef) (v63 : Value := undef) (v83 : Value := undef) : List Value := [v0, v1, v2, v3, v8, v9, v10, v42, v12, v11, v60, v63, v83]

noncomputable def F12_b0 (C : Oracle) (n : Nat) (vs : List Value) (H : Heap) : AOut :=
  bnd (some ((sl [0, 1, 2, 3, 8, 9, 10, 42, 12, 11, 60, 63, 83] vs 12), H)) fun x46 H =>
  bnd (pS (abin Try.prog .lss 3 x46 (Value.int .i64 (9))) H) fun x47 H =>
  bnd (some (x47, H)) fun x48 H =>
  bnd (gd (wantV x48 true) (some ((sl [0, 1, 2, 3, 8, 9, 10, 42, 12, 11, 60, 63, 83] vs 11), H)) H) fun x49 H =>
  bnd (gd (wantV x48 true) (some ((sl [0, 1, 2, 3, 8, 9, 10, 42, 12, 11, 60, 63, 83] vs 9), H)) H) fun x50 H =>
  bnd (gd (wantV x48 true) (C 60 [x49, x50] H) H) fun x51 H =>
  bnd (gd (wantV x48 true) (pS (aun .not x51) H) H) fun x52 H =>
  bnd (pickS x48 x52 (Value.bool false) H) fun x53 H =>
  brB x53 (bnd (some ((sl [0, 1, 2, 3, 8, 9, 10, 42, 12, 11, 60, 63, 83] vs 12), H)) fun x54 H =>
  bnd (pS (abin Try.prog .add 3 x54 (Value.int .i64 (1))) H) fun x55 H =>
  bnd (some (x55, H)) fun x56 H =>
  fin .normal [(sl [0, 1, 2, 3, 8, 9, 10, 42, 12, 11, 60, 63, 83] vs 0), (sl [0, 1, 2, 3, 8, 9, 10, 42, 12, 11, 60, 63, 83] vs 1), (sl [0, 1, 2, 3, 8, 9, 10, 42, 12, 11, 60, 63, 83] vs 2), (sl [0, 1, 2, 3, 8, 9, 10, 42, 12, 11, 60, 63, 83] vs 3), (sl [0, 1, 2, 3, 8, 9, 10, 42, 12, 11, 60, 63, 83] vs 8), (sl [0, 1, 2, 3, 8, 9, 10, 42, 12, 11, 60, 63, 83] vs 9), (sl [0, 1, 2, 3, 8, 9, 10, 42, 12, 11, 60, 63, 83] vs 10), (sl [0, 1, 2, 3, 8, 9, 10, 42, 12, 11, 60, 63, 83] vs 42), x56, (sl [0, 1, 2, 3, 8, 9, 10, 42, 12, 11, 60, 63, 83] vs 11), x53, (sl [0, 1, 2, 3, 8, 9, 10, 42, 12, 11, 60, 63, 83] vs 63), (sl [0, 1, 2, 3, 8, 9, 10, 42, 12, 11, 60, 63, 83] vs 83)] H) (
  fin (.exit 0) [(sl [0, 1, 2, 3, 8, 9, 10, 42, 12, 11, 60, 63, 83] vs 0), (sl [0, 1, 2, 3, 8, 9, 10, 42, 12, 11, 60, 63, 83] vs 1), (sl [0, 1, 2, 3, 8, 9, 10, 42, 12, 11, 60, 63, 83] vs 2), (sl [0, 1, 2, 3, 8, 9, 10, 42, 12, 11, 60, 63, 83] vs 3), (sl [0, 1, 2, 3, 8, 9, 10, 42, 12, 11, 60, 63, 83] vs 8), (sl [0, 1, 2, 3, 8, 9, 10, 42, 12, 11, 60, 63, 83] vs 9), (sl [0, 1, 2, 3, 8, 9, 10, 42, 12, 11, 60, 63, 83] vs 10), (sl [0, 1, 2, 3, 8, 9, 10, 42, 12, 11, 60, 63, 83] vs 42), (sl [0, 1, 2, 3, 8, 9, 10, 42, 12, 11, 60, 63, 83] vs 12), (sl [0, 1, 2, 3, 8, 9, 10, 42, 12, 11, 60, 63, 83] vs 11), x53, (sl [0, 1, 2, 3, 8, 9, 10, 42, 12, 11, 60, 63, 83] vs 63), (sl [0, 1, 2, 3, 8, 9, 10, 42, 12, 11, 60, 63, 83] vs 83)] H)

noncomputable def F12_b0v (C : Oracle) (n : Nat) (v0 v1 v2 v3 v8 v9 v10 v42 v12 v11 v60 v63 v83 : Value) (H : Heap) : AOut :=
  bnd (some (v12, H)) fun x46 H =>
  bnd (pS (abin Try.prog .lss 3 x46 (Value.int .i64 (9))) H) fun x47 H =>
  bnd (some (x47, H)) fun x48 H =>
  bnd (gd (wantV x48 true) (some (v11, H)) H) fun x49 H =>
  bnd (gd (wantV x48 true) (some (v9, H)) H) fun x50 H =>
  bnd (gd (wantV x48 true) (C 60 [x49, x50] H) H) fun x51 H =>
  bnd (gd (wantV x48 true) (pS (aun .not x51) H) H) fun x52 H =>
  bnd (pickS x48 x52 (Value.bool false) H) fun x53 H =>
  brB x53 (bnd (some (v12, H)) fun x54 H =>
  bnd (pS (abin Try.prog .add 3 x54 (Value.int .i64 (1))) H) fun x55 H =>
  bnd (some (x55, H)) fun x56 H =>
  fin .normal [v0, v1, v2, v3, v8, v9, v10, v42, x56, v11, x53, v63, v83] H) (
  fin (.exit 0) [v0, v1, v2, v3, v8, v9, v10, v42, v12, v11, x53, v63, v83] H)

theorem F12_b0_v (C : Oracle) (n : Nat) (v0 v1 v2 v3 v8 v9 v10 v42 v12 v11 v60 v63 v83 : Value) (H : Heap) : F12_b0 C n [v0, v1, v2, v3, v8, v9, v10, v42, v12, v11, v60, v63, v83] H = F12_b0v C n v0 v1 v2 v3 v8 v9 v10 v42 v12 v11 v60 v63 v83 H := by
  kernel_rfl

noncomputable def F12_j1 (C : Oracle) (n : Nat) (vs : List Value) (H : Heap) : Option (Value × Heap) :=
  bnd (some ((sl [0, 1, 2, 3, 8, 9, 10, 42, 12, 11, 60, 63, 83] vs 0), H)) fun x57 H =>
  bnd (some ((sl [0, 1, 2, 3, 8, 9, 10, 42, 12, 11, 60, 63, 83] vs 2), H)) fun x58 H =>
  bnd (pS (abin Try.prog .neq 2 x57 x58) H) fun x59 H =>
  bnd (some (x59, H)) fun x60 H =>
  brB x60 (bnd (C 58 [] H) fun x61 H =>
  bnd (some (x61, H)) fun x62 H =>
  bnd (gd (wantV x62 true) (some ((sl [0, 1, 2, 3, 8, 9, 10, 42, 12, 11, 60, 63, 83] vs 12), H)) H) fun x63 H =>
  bnd (gd (wantV x62 true) (pS (abin Try.prog .eql 3 x63 (Value.int .i64 (2))) H) H) fun x64 H =>
  bnd (pickS x62 x64 (Value.bool false) H) fun x65 H =>
  bnd (some (x65, H)) fun x66 H =>
  bnd (gd (wantV x66 true) (some ((sl [0, 1, 2, 3, 8, 9, 10, 42, 12, 11, 60, 63, 83] vs 11), H)) H) fun x67 H =>
  bnd (gd (wantV x66 true) (C 61 [x67] H) H) fun x68 H =>
  bnd (gd (wantV x66 true) (pS (abin Try.prog .eql 3 x68 (Value.int .i64 (0))) H) H) fun x69 H =>
  bnd (pickS x66 x69 (Value.bool false) H) fun x70 H =>
  bnd (some (x70, H)) fun x71 H =>
  bnd (gd (wantV x71 true) (some ((sl [0, 1, 2, 3, 8, 9, 10, 42, 12, 11, 60, 63, 83] vs 9), H)) H) fun x72 H =>
  bnd (gd (wantV x71 true) (C 28 [x72, (Value.int .i64 (6))] H) H) fun x73 H =>
  bnd (gd (wantV x71 true) (some ((sl [0, 1, 2, 3, 8, 9, 10, 42, 12, 11, 60, 63, 83] vs 2), H)) H) fun x74 H =>
  bnd (gd (wantV x71 true) (pS (abin Try.prog .eql 2 x73 x74) H) H) fun x75 H =>
  bnd (pickS x71 x75 (Value.bool false) H) fun x76 H =>
  bnd (some (x76, H)) fun x77 H =>
  some (x77, H)) (
  bnd (some ((sl [0, 1, 2, 3, 8, 9, 10, 42, 12, 11, 60, 63, 83] vs 3), H)) fun x78 H =>
  bnd (pS (abin Try.prog .neq 2 x78 (Value.int .i64 (0))) H) fun x79 H =>
  bnd (some (x79, H)) fun x80 H =>
  brB x80 (bnd (C 58 [] H) fun x81 H =>
  bnd (some (x81, H)) fun x82 H =>
  bnd (gd (wantV x82 true) (some ((sl [0, 1, 2, 3, 8, 9, 10, 42, 12, 11, 60, 63, 83] vs 12), H)) H) fun x83 H =>
  bnd (gd (wantV x82 true) (pS (abin Try.prog .eql 3 x83 (Value.int .i64 (6))) H) H) fun x84 H =>
  bnd (pickS x82 x84 (Value.bool false) H) fun x85 H =>
  bnd (some (x85, H)) fun x86 H =>
  bnd (gd (wantV x86 true) (some ((sl [0, 1, 2, 3, 8, 9, 10, 42, 12, 11, 60, 63, 83] vs 11), H)) H) fun x87 H =>
  bnd (gd (wantV x86 true) (C 61 [x87] H) H) fun x88 H =>
  bnd (gd (wantV x86 true) (pS (abin Try.prog .eql 3 x88 (Value.int .i64 (2))) H) H) fun x89 H =>
  bnd (pickS x86 x89 (Value.bool false) H) fun x90 H =>
  bnd (some (x90, H)) fun x91 H =>
  bnd (gd (wantV x91 true) (some ((sl [0, 1, 2, 3, 8, 9, 10, 42, 12, 11, 60, 63, 83] vs 9), H)) H) fun x92 H =>
  bnd (gd (wantV x91 true) (C 28 [x92, (Value.int .i64 (6))] H) H) fun x93 H =>
  bnd (gd (wantV x91 true) (some ((sl [0, 1, 2, 3, 8, 9, 10, 42, 12, 11, 60, 63, 83] vs 2), H)) H) fun x94 H =>
  bnd (gd (wantV x91 true) (pS (abin Try.prog .eql 2 x93 x94) H) H) fun x95 H =>
  bnd (pickS x91 x95 (Value.bool false) H) fun x96 H =>
  bnd (some (x96, H)) fun x97 H =>
  some (x97, H)) (
  bnd (C 58 [] H) fun x98 H =>
  bnd (some (x98, H)) fun x99 H =>
  bnd (gd (wantV x99 true) (some ((sl [0, 1, 2, 3, 8, 9, 10, 42, 12, 11, 60, 63, 83] vs 12), H)) H) fun x100 H =>
  bnd (gd (wantV x99 true) (pS (abin Try.prog .eql 3 x100 (Value.int .i64 (6))) H) H) fun x101 H =>
  bnd (pickS x99 x101 (Value.bool false) H) fun x102 H =>
  bnd (some (x102, H)) fun x103 H =>
  bnd (gd (wantV x103 true) (some ((sl [0, 1, 2, 3, 8, 9, 10, 42, 12, 11, 60, 63, 83] vs 11), H)) H) fun x104 H =>
  bnd (gd (wantV x103 true) (C 61 [x104] H) H) fun x105 H =>
  bnd (gd (wantV x103 true) (pS (abin Try.prog .eql 3 x105 (Value.int .i64 (1))) H) H) fun x106 H =>
  bnd (pickS x103 x106 (Value.bool false) H) fun x107 H =>
  bnd (some (x107, H)) fun x108 H =>
  bnd (gd (wantV x108 true) (some ((sl [0, 1, 2, 3, 8, 9, 10, 42, 12, 11, 60, 63, 83] vs 9), H)) H) fun x109 H =>
  bnd (gd (wantV x108 true) (C 28 [x109, (Value.int .i64 (6))] H) H) fun x110 H =>
  bnd (gd (wantV x108 true) (some ((sl [0, 1, 2, 3, 8, 9, 10, 42, 12, 11, 60, 63, 83] vs 1), H)) H) fun x111 H =>
  bnd (gd (wantV x108 true) (pS (abin Try.prog .eql 2 x110 x111) H) H) fun x112 H =>
  bnd (pickS x108 x112 (Value.bool false) H) fun x113 H =>
  bnd (some (x113, H)) fun x114 H =>
  bnd (gd (wantV x114 true) (some ((sl [0, 1, 2, 3, 8, 9, 10, 42, 12, 11, 60, 63, 83] vs 9), H)) H) fun x115 H =>
  bnd (gd (wantV x114 true) (C 28 [x115, (Value.int .i64 (3))] H) H) fun x116 H =>
  bnd (gd (wantV x114 true) (pS (abin Try.prog .eql 2 x116 (Value.int .i64 (0))) H) H) fun x117 H =>
  bnd (pickS x114 x117 (Value.bool false) H) fun x118 H =>
  bnd (some (x118, H)) fun x119 H =>
  some (x119, H)))

noncomputable def F12_j1v (C : Oracle) (n : Nat) (v0 v1 v2 v3 v8 v9 v10 v42 v12 v11 v60 v63 v83 : Value) (H : Heap) : Option (Value × Heap) :=
  bnd (some (v0, H)) fun x57 H =>
  bnd (some (v2, H)) fun x58 H =>
  bnd (pS (abin Try.prog .neq 2 x57 x58) H) fun x59 H =>
  bnd (some (x59, H)) fun x60 H =>
  brB x60 (bnd (C 58 [] H) fun x61 H =>
  bnd (some (x61, H)) fun x62 H =>
  bnd (gd (wantV x62 true) (some (v12, H)) H) fun x63 H =>
  bnd (gd (wantV x62 true) (pS (abin Try.prog .eql 3 x63 (Value.int .i64 (2))) H) H) fun x64 H =>
  bnd (pickS x62 x64 (Value.bool false) H) fun x65 H =>
  bnd (some (x65, H)) fun x66 H =>
  bnd (gd (wantV x66 true) (some (v11, H)) H) fun x67 H =>
  bnd (gd (wantV x66 true) (C 61 [x67] H) H) fun x68 H =>
  bnd (gd (wantV x66 true) (pS (abin Try.prog .eql 3 x68 (Value.int .i64 (0))) H) H) fun x69 H =>
  bnd (pickS x66 x69 (Value.bool false) H) fun x70 H =>
  bnd (some (x70, H)) fun x71 H =>
  bnd (gd (wantV x71 true) (some (v9, H)) H) fun x72 H =>
  bnd (gd (wantV x71 true) (C 28 [x72, (Value.int .i64 (6))] H) H) fun x73 H =>
  bnd (gd (wantV x71 true) (some (v2, H)) H) fun x74 H =>
  bnd (gd (wantV x71 true) (pS (abin Try.prog .eql 2 x73 x74) H) H) fun x75 H =>
  bnd (pickS x71 x75 (Value.bool false) H) fun x76 H =>
  bnd (some (x76, H)) fun x77 H =>
  some (x77, H)) (
  bnd (some (v3, H)) fun x78 H =>
  bnd (pS (abin Try.prog .neq 2 x78 (Value.int .i64 (0))) H) fun x79 H =>
  bnd (some (x79, H)) fun x80 H =>
  brB x80 (bnd (C 58 [] H) fun x81 H =>
  bnd (some (x81, H)) fun x82 H =>
  bnd (gd (wantV x82 true) (some (v12, H)) H) fun x83 H =>
  bnd (gd (wantV x82 true) (pS (abin Try.prog .eql 3 x83 (Value.int .i64 (6))) H) H) fun x84 H =>
  bnd (pickS x82 x84 (Value.bool false) H) fun x85 H =>
  bnd (some (x85, H)) fun x86 H =>
  bnd (gd (wantV x86 true) (some (v11, H)) H) fun x87 H =>
  bnd (gd (wantV x86 true) (C 61 [x87] H) H) fun x88 H =>
  bnd (gd (wantV x86 true) (pS (abin Try.prog .eql 3 x88 (Value.int .i64 (2))) H) H) fun x89 H =>
  bnd (pickS x86 x89 (Value.bool false) H) fun x90 H =>
  bnd (some (x90, H)) fun x91 H =>
  bnd (gd (wantV x91 true) (some (v9, H)) H) fun x92 H =>
  bnd (gd (wantV x91 true) (C 28 [x92, (Value.int .i64 (6))] H) H) fun x93 H =>
  bnd (gd (wantV x91 true) (some (v2, H)) H) fun x94 H =>
  bnd (gd (wantV x91 true) (pS (abin Try.prog .eql 2 x93 x94) H) H) fun x95 H =>
  bnd (pickS x91 x95 (Value.bool false) H) fun x96 H =>
  bnd (some (x96, H)) fun x97 H =>
  some (x97, H)) (
  bnd (C 58 [] H) fun x98 H =>
  bnd (some (x98, H)) fun x99 H =>
  bnd (gd (wantV x99 true) (some (v12, H)) H) fun x100 H =>
  bnd (gd (wantV x99 true) (pS (abin Try.prog .eql 3 x100 (Value.int .i64 (6))) H) H) fun x101 H =>
  bnd (pickS x99 x101 (Value.bool false) H) fun x102 H =>
  bnd (some (x102, H)) fun x103 H =>
  bnd (gd (wantV x103 true) (some (v11, H)) H) fun x104 H =>
  bnd (gd (wantV x103 true) (C 61 [x104] H) H) fun x105 H =>
  bnd (gd (wantV x103 true) (pS (abin Try.prog .eql 3 x105 (Value.int .i64 (1))) H) H) fun x106 H =>
  bnd (pickS x103 x106 (Value.bool false) H) fun x107 H =>
  bnd (some (x107, H)) fun x108 H =>
  bnd (gd (wantV x108 true) (some (v9, H)) H) fun x109 H =>
  bnd (gd (wantV x108 true) (C 28 [x109, (Value.int .i64 (6))] H) H) fun x110 H =>
  bnd (gd (wantV x108 true) (some (v1, H)) H) fun x111 H =>
  bnd (gd (wantV x108 true) (pS (abin Try.prog .eql 2 x110 x111) H) H) fun x112 H =>
  bnd (pickS x108 x112 (Value.bool false) H) fun x113 H =>
  bnd (some (x113, H)) fun x114 H =>
  bnd (gd (wantV x114 true) (some (v9, H)) H) fun x115 H =>
  bnd (gd (wantV x114 true) (C 28 [x115, (Value.int .i64 (3))] H) H) fun x116 H =>
  bnd (gd (wantV x114 true) (pS (abin Try.prog .eql 2 x116 (Value.int .i64 (0))) H) H) fun x117 H =>
  bnd (pickS x114 x117 (Value.bool false) H) fun x118 H =>
  bnd (some (x118, H)) fun x119 H =>
  some (x119, H)))

theorem F12_j1_v (C : Oracle) (n : Nat) (v0 v1 v2 v3 v8 v9 v10 v42 v12 v11 v60 v63 v83 : Value) (H : Heap) : F12_j1 C n [v0, v1, v2, v3, v8, v9, v10, v42, v12, v11, v60, v63, v83] H = F12_j1v C n v0 v1 v2 v3 v8 v9 v10 v42 v12 v11 v60 v63 v83 H := by
  kernel_rfl

noncomputable def F12 (C : Oracle) (n : Nat) (a0 a1 a2 a3 : Value) (H : Heap) : Option (Value × Heap) :=
  bnd (some ((Value.bool false), H)) fun x0 H =>
  bnd (C 16 [(Value.int .i64 (40))] H) fun x1 H =>
  bnd (some (x1, H)) fun x2 H =>
  bnd (extS 0 x2 H) fun x3 H =>
  bnd (extS 1 x2 H) fun x4 H =>
  bnd (some (x3, H)) fun x5 H =>
  bnd (some (x4, H)) fun x6 H =>
  bnd (some (x5, H)) fun x7 H =>
  bnd (pS (abin Try.prog .eql 24 x7 (Value.pointer none)) H) fun x8 H =>
  bnd (some (x8, H)) fun x9 H =>
  bnd (gd (wantV x9 false) (some (x6, H)) H) fun x10 H =>
  bnd (gd (wantV x9 false) (pS (abin Try.prog .neq 25 x10 (Value.int .i64 (0))) H) H) fun x11 H =>
  bnd (pickS x9 (Value.bool true) x11 H) fun x12 H =>
  bnd (some (x12, H)) fun x13 H =>
  bnd (gd (wantV x13 false) (some (x5, H)) H) fun x14 H =>
  bnd (gd (wantV x13 false) (C 51 [x14] H) H) fun x15 H =>
  bnd (gd (wantV x13 false) (pS (aun .not x15) H) H) fun x16 H =>
  bnd (pickS x13 (Value.bool true) x16 H) fun x17 H =>
  bnd (some (x17, H)) fun x18 H =>
  bnd (gd (wantV x18 false) (some (a0, H)) H) fun x19 H =>
  bnd (gd (wantV x18 false) (C 52 [x19] H) H) fun x20 H =>
  bnd (gd (wantV x18 false) (pS (abin Try.prog .eql 3 x20 (Value.int .i64 (5))) H) H) fun x21 H =>
  bnd (pickS x18 (Value.bool true) x21 H) fun x22 H =>
  bnd (some (x22, H)) fun x23 H =>
  bnd (gd (wantV x23 false) (some (a2, H)) H) fun x24 H =>
  bnd (gd (wantV x23 false) (C 52 [x24] H) H) fun x25 H =>
  bnd (gd (wantV x23 false) (pS (abin Try.prog .eql 3 x25 (Value.int .i64 (5))) H) H) fun x26 H =>
  bnd (pickS x23 (Value.bool true) x26 H) fun x27 H =>
  bnd (some (x27, H)) fun x28 H =>
  bnd (gd (wantV x28 false) (some (a1, H)) H) fun x29 H =>
  bnd (gd (wantV x28 false) (C 52 [x29] H) H) fun x30 H =>
  bnd (gd (wantV x28 false) (pS (abin Try.prog .eql 3 x30 (Value.int .i64 (5))) H) H) fun x31 H =>
  bnd (pickS x28 (Value.bool true) x31 H) fun x32 H =>
  brB x32 (bnd (C 58 [] H) fun x33 H =>
  bnd (some (x33, H)) fun x34 H =>
  some (x34, H)) (
  bnd (some (x5, H)) fun x35 H =>
  bnd (some (a2, H)) fun x36 H =>
  bnd (C 24 [x35, (Value.int .i64 (6)), x36] H) fun x37 H =>
  bnd (some (x5, H)) fun x38 H =>
  bnd (some (a3, H)) fun x39 H =>
  bnd (C 24 [x38, (Value.int .i64 (3)), x39] H) fun x40 H =>
  bnd (some (a0, H)) fun x41 H =>
  bnd (some (a1, H)) fun x42 H =>
  bnd (C 59 [(Value.int .i64 (3)), (Value.int .i64 (6)), x41, x42] H) fun x43 H =>
  bnd (some (x43, H)) fun x44 H =>
  bnd (some ((Value.int .i64 (1)), H)) fun x45 H =>
  onOut (iter n (F12_b0 C n) [a0, a1, a2, a3, x0, x5, x6, x32, x45, x44, undef, undef, undef] H) (kBlk 0 (kSeq (F12_j1 C n) (kRet Try.prog [.tmp 8] [0, 1, 2, 3, 8, 9, 10, 42, 12, 11, 60, 63, 83]))))

theorem F12_eq (G : Oracle) (n : Nat) (a0 a1 a2 a3 : Value) (H : Heap) : run G (n + 1) 12 [a0, a1, a2, a3] H = F12 (run G n) n a0 a1 a2 a3 H := by
  unfold run; rw [acall_k (fn := Try.f12) (keep := [0, 1, 2, 3, 8, 9, 10, 42, 12, 11, 60, 63, 83]) (notBad 12 rfl) (by kernel_rfl) (by kernel_rfl)]
  kernel_rfl

end Go.Proofs.Ytpenlcigickkbaa.Fun
