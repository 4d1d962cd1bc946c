/- The program's functions as plain terms, each with its equation; printed by wip/am/fun.py. -/
import Derived.Test.YtpenlcigickkbaaFunK
namespace Go.Proofs.Ytpenlcigickkbaa.Fun
open Go.RowKit Go.Proofs.YtpenlcigickkbaaA.Am
set_option linter.unusedVariables false
set_option maxRecDepth 10000
abbrev F5_st (v0 : Value := undef) (v1 : Value := undef) (v4 : Value := undef) (v3 : Value := undef) (v26 : Value := undef) (v5 : Value := undef) (v6 : Value := undef) (v37 : Value := undef) (v7 : Value := undef) (v8 : Value := undef) (v53 : Value := undef) (v63 : Value := undef) (v72 : Value := undef) (v10 : Value := undef) (v86 : Value := undef) (v87 : Value := undef) (v90 : Value := undef) (v98 : Value := undef) (v60 : Value := undef) (v11 : Value := undef) (v109 : Value := undef) (v12 : Value := undef) (v113 : Value := undef) (v9 : Value := undef) (v144 : Value := undef) : List Value := [v0, v1, v4, v3, v26, v5, v6, v37, v7, v8, v53, v63, v72, v10, v86, v87, v90, v98, v60, v11, v109, v12, v113, v9, v144]

noncomputable def F5_b1 (C : Oracle) (n : Nat) (vs : List Value) (H : Heap) : AOut :=
  bnd (some ((sl [0, 1, 4, 3, 26, 5, 6, 37, 7, 8, 53, 63, 72, 10, 86, 87, 90, 98, 60, 11, 109, 12, 113, 9, 144] vs 12), H)) fun x57 H =>
  bnd (some ((sl [0, 1, 4, 3, 26, 5, 6, 37, 7, 8, 53, 63, 72, 10, 86, 87, 90, 98, 60, 11, 109, 12, 113, 9, 144] vs 0), H)) fun x58 H =>
  bnd (pS (slen x58) H) fun x59 H =>
  bnd (pS (abin Try.prog .lss 3 x57 x59) H) fun x60 H =>
  brB x60 (bnd (some ((sl [0, 1, 4, 3, 26, 5, 6, 37, 7, 8, 53, 63, 72, 10, 86, 87, 90, 98, 60, 11, 109, 12, 113, 9, 144] vs 12), H)) fun x61 H =>
  bnd (some ((sl [0, 1, 4, 3, 26, 5, 6, 37, 7, 8, 53, 63, 72, 10, 86, 87, 90, 98, 60, 11, 109, 12, 113, 9, 144] vs 7), H)) fun x62 H =>
  bnd (pS (abin Try.prog .sub 3 x62 (Value.int .i64 (1))) H) fun x63 H =>
  bnd (pS (abin Try.prog .neq 3 x61 x63) H) fun x64 H =>
  bnd (some (x64, H)) fun x65 H =>
  bnd (gd (wantV x65 true) (some ((sl [0, 1, 4, 3, 26, 5, 6, 37, 7, 8, 53, 63, 72, 10, 86, 87, 90, 98, 60, 11, 109, 12, 113, 9, 144] vs 11), H)) H) fun x66 H =>
  bnd (gd (wantV x65 true) (some ((sl [0, 1, 4, 3, 26, 5, 6, 37, 7, 8, 53, 63, 72, 10, 86, 87, 90, 98, 60, 11, 109, 12, 113, 9, 144] vs 12), H)) H) fun x67 H =>
  bnd (gd (wantV x65 true) (iadS 1 x66 x67 H) H) fun x68 H =>
  bnd (gd (wantV x65 true) (pS (ld1 x68 H) H) H) fun x69 H =>
  bnd (gd (wantV x65 true) (some ((sl [0, 1, 4, 3, 26, 5, 6, 37, 7, 8, 53, 63, 72, 10, 86, 87, 90, 98, 60, 11, 109, 12, 113, 9, 144] vs 0), H)) H) fun x70 H =>
  bnd (gd (wantV x65 true) (some ((sl [0, 1, 4, 3, 26, 5, 6, 37, 7, 8, 53, 63, 72, 10, 86, 87, 90, 98, 60, 11, 109, 12, 113, 9, 144] vs 12), H)) H) fun x71 H =>
  bnd (gd (wantV x65 true) (iadS 1 x70 x71 H) H) fun x72 H =>
  bnd (gd (wantV x65 true) (pS (ld1 x72 H) H) H) fun x73 H =>
  bnd (gd (wantV x65 true) (pS (abin Try.prog .neq 2 x69 x73) H) H) fun x74 H =>
  bnd (pickS x65 x74 (Value.bool false) H) fun x75 H =>
  bnd (some (x75, H)) fun x76 H =>
  bnd (gd (wantV x76 false) (some ((sl [0, 1, 4, 3, 26, 5, 6, 37, 7, 8, 53, 63, 72, 10, 86, 87, 90, 98, 60, 11, 109, 12, 113, 9, 144] vs 12), H)) H) fun x77 H =>
  bnd (gd (wantV x76 false) (some ((sl [0, 1, 4, 3, 26, 5, 6, 37, 7, 8, 53, 63, 72, 10, 86, 87, 90, 98, 60, 11, 109, 12, 113, 9, 144] vs 7), H)) H) fun x78 H =>
  bnd (gd (wantV x76 false) (pS (abin Try.prog .sub 3 x78 (Value.int .i64 (1))) H) H) fun x79 H =>
  bnd (gd (wantV x76 false) (pS (abin Try.prog .eql 3 x77 x79) H) H) fun x80 H =>
  bnd (gd (wantV x76 false) (some (x80, H)) H) fun x81 H =>
  bnd (gd (wantV x81 true) (some ((sl [0, 1, 4, 3, 26, 5, 6, 37, 7, 8, 53, 63, 72, 10, 86, 87, 90, 98, 60, 11, 109, 12, 113, 9, 144] vs 11), H)) H) fun x82 H =>
  bnd (gd (wantV x81 true) (some ((sl [0, 1, 4, 3, 26, 5, 6, 37, 7, 8, 53, 63, 72, 10, 86, 87, 90, 98, 60, 11, 109, 12, 113, 9, 144] vs 12), H)) H) fun x83 H =>
  bnd (gd (wantV x81 true) (iadS 1 x82 x83 H) H) fun x84 H =>
  bnd (gd (wantV x81 true) (pS (ld1 x84 H) H) H) fun x85 H =>
  bnd (gd (wantV x81 true) (some ((sl [0, 1, 4, 3, 26, 5, 6, 37, 7, 8, 53, 63, 72, 10, 86, 87, 90, 98, 60, 11, 109, 12, 113, 9, 144] vs 9), H)) H) fun x86 H =>
  bnd (gd (wantV x81 true) (pS (abin Try.prog .neq 2 x85 x86) H) H) fun x87 H =>
  bnd (gd (wantV x76 false) (pickS x81 x87 (Value.bool false) H) H) fun x88 H =>
  bnd (pickS x76 (Value.bool true) x88 H) fun x89 H =>
  brB x89 (bnd (some ((Value.bool false), H)) fun x90 H =>
  fin .ret [(sl [0, 1, 4, 3, 26, 5, 6, 37, 7, 8, 53, 63, 72, 10, 86, 87, 90, 98, 60, 11, 109, 12, 113, 9, 144] vs 0), (sl [0, 1, 4, 3, 26, 5, 6, 37, 7, 8, 53, 63, 72, 10, 86, 87, 90, 98, 60, 11, 109, 12, 113, 9, 144] vs 1), x90, (sl [0, 1, 4, 3, 26, 5, 6, 37, 7, 8, 53, 63, 72, 10, 86, 87, 90, 98, 60, 11, 109, 12, 113, 9, 144] vs 3), (sl [0, 1, 4, 3, 26, 5, 6, 37, 7, 8, 53, 63, 72, 10, 86, 87, 90, 98, 60, 11, 109, 12, 113, 9, 144] vs 26), (sl [0, 1, 4, 3, 26, 5, 6, 37, 7, 8, 53, 63, 72, 10, 86, 87, 90, 98, 60, 11, 109, 12, 113, 9, 144] vs 5), (sl [0, 1, 4, 3, 26, 5, 6, 37, 7, 8, 53, 63, 72, 10, 86, 87, 90, 98, 60, 11, 109, 12, 113, 9, 144] vs 6), (sl [0, 1, 4, 3, 26, 5, 6, 37, 7, 8, 53, 63, 72, 10, 86, 87, 90, 98, 60, 11, 109, 12, 113, 9, 144] vs 37), (sl [0, 1, 4, 3, 26, 5, 6, 37, 7, 8, 53, 63, 72, 10, 86, 87, 90, 98, 60, 11, 109, 12, 113, 9, 144] vs 7), (sl [0, 1, 4, 3, 26, 5, 6, 37, 7, 8, 53, 63, 72, 10, 86, 87, 90, 98, 60, 11, 109, 12, 113, 9, 144] vs 8), (sl [0, 1, 4, 3, 26, 5, 6, 37, 7, 8, 53, 63, 72, 10, 86, 87, 90, 98, 60, 11, 109, 12, 113, 9, 144] vs 53), (sl [0, 1, 4, 3, 26, 5, 6, 37, 7, 8, 53, 63, 72, 10, 86, 87, 90, 98, 60, 11, 109, 12, 113, 9, 144] vs 63), (sl [0, 1, 4, 3, 26, 5, 6, 37, 7, 8, 53, 63, 72, 10, 86, 87, 90, 98, 60, 11, 109, 12, 113, 9, 144] vs 72), (sl [0, 1, 4, 3, 26, 5, 6, 37, 7, 8, 53, 63, 72, 10, 86, 87, 90, 98, 60, 11, 109, 12, 113, 9, 144] vs 10), (sl [0, 1, 4, 3, 26, 5, 6, 37, 7, 8, 53, 63, 72, 10, 86, 87, 90, 98, 60, 11, 109, 12, 113, 9, 144] vs 86), (sl [0, 1, 4, 3, 26, 5, 6, 37, 7, 8, 53, 63, 72, 10, 86, 87, 90, 98, 60, 11, 109, 12, 113, 9, 144] vs 87), (sl [0, 1, 4, 3, 26, 5, 6, 37, 7, 8, 53, 63, 72, 10, 86, 87, 90, 98, 60, 11, 109, 12, 113, 9, 144] vs 90), (sl [0, 1, 4, 3, 26, 5, 6, 37, 7, 8, 53, 63, 72, 10, 86, 87, 90, 98, 60, 11, 109, 12, 113, 9, 144] vs 98), (sl [0, 1, 4, 3, 26, 5, 6, 37, 7, 8, 53, 63, 72, 10, 86, 87, 90, 98, 60, 11, 109, 12, 113, 9, 144] vs 60), (sl [0, 1, 4, 3, 26, 5, 6, 37, 7, 8, 53, 63, 72, 10, 86, 87, 90, 98, 60, 11, 109, 12, 113, 9, 144] vs 11), (sl [0, 1, 4, 3, 26, 5, 6, 37, 7, 8, 53, 63, 72, 10, 86, 87, 90, 98, 60, 11, 109, 12, 113, 9, 144] vs 109), (sl [0, 1, 4, 3, 26, 5, 6, 37, 7, 8, 53, 63, 72, 10, 86, 87, 90, 98, 60, 11, 109, 12, 113, 9, 144] vs 12), x60, (sl [0, 1, 4, 3, 26, 5, 6, 37, 7, 8, 53, 63, 72, 10, 86, 87, 90, 98, 60, 11, 109, 12, 113, 9, 144] vs 9), x89] H) (
  bnd (some ((sl [0, 1, 4, 3, 26, 5, 6, 37, 7, 8, 53, 63, 72, 10, 86, 87, 90, 98, 60, 11, 109, 12, 113, 9, 144] vs 12), H)) fun x91 H =>
  bnd (pS (abin Try.prog .add 3 x91 (Value.int .i64 (1))) H) fun x92 H =>
  bnd (some (x92, H)) fun x93 H =>
  fin .normal [(sl [0, 1, 4, 3, 26, 5, 6, 37, 7, 8, 53, 63, 72, 10, 86, 87, 90, 98, 60, 11, 109, 12, 113, 9, 144] vs 0), (sl [0, 1, 4, 3, 26, 5, 6, 37, 7, 8, 53, 63, 72, 10, 86, 87, 90, 98, 60, 11, 109, 12, 113, 9, 144] vs 1), (sl [0, 1, 4, 3, 26, 5, 6, 37, 7, 8, 53, 63, 72, 10, 86, 87, 90, 98, 60, 11, 109, 12, 113, 9, 144] vs 4), (sl [0, 1, 4, 3, 26, 5, 6, 37, 7, 8, 53, 63, 72, 10, 86, 87, 90, 98, 60, 11, 109, 12, 113, 9, 144] vs 3), (sl [0, 1, 4, 3, 26, 5, 6, 37, 7, 8, 53, 63, 72, 10, 86, 87, 90, 98, 60, 11, 109, 12, 113, 9, 144] vs 26), (sl [0, 1, 4, 3, 26, 5, 6, 37, 7, 8, 53, 63, 72, 10, 86, 87, 90, 98, 60, 11, 109, 12, 113, 9, 144] vs 5), (sl [0, 1, 4, 3, 26, 5, 6, 37, 7, 8, 53, 63, 72, 10, 86, 87, 90, 98, 60, 11, 109, 12, 113, 9, 144] vs 6), (sl [0, 1, 4, 3, 26, 5, 6, 37, 7, 8, 53, 63, 72, 10, 86, 87, 90, 98, 60, 11, 109, 12, 113, 9, 144] vs 37), (sl [0, 1, 4, 3, 26, 5, 6, 37, 7, 8, 53, 63, 72, 10, 86, 87, 90, 98, 60, 11, 109, 12, 113, 9, 144] vs 7), (sl [0, 1, 4, 3, 26, 5, 6, 37, 7, 8, 53, 63, 72, 10, 86, 87, 90, 98, 60, 11, 109, 12, 113, 9, 144] vs 8), (sl [0, 1, 4, 3, 26, 5, 6, 37, 7, 8, 53, 63, 72, 10, 86, 87, 90, 98, 60, 11, 109, 12, 113, 9, 144] vs 53), (sl [0, 1, 4, 3, 26, 5, 6, 37, 7, 8, 53, 63, 72, 10, 86, 87, 90, 98, 60, 11, 109, 12, 113, 9, 144] vs 63), (sl [0, 1, 4, 3, 26, 5, 6, 37, 7, 8, 53, 63, 72, 10, 86, 87, 90, 98, 60, 11, 109, 12, 113, 9, 144] vs 72), (sl [0, 1, 4, 3, 26, 5, 6, 37, 7, 8, 53, 63, 72, 10, 86, 87, 90, 98, 60, 11, 109, 12, 113, 9, 144] vs 10), (sl [0, 1, 4, 3, 26, 5, 6, 37, 7, 8, 53, 63, 72, 10, 86, 87, 90, 98, 60, 11, 109, 12, 113, 9, 144] vs 86), (sl [0, 1, 4, 3, 26, 5, 6, 37, 7, 8, 53, 63, 72, 10, 86, 87, 90, 98, 60, 11, 109, 12, 113, 9, 144] vs 87), (sl [0, 1, 4, 3, 26, 5, 6, 37, 7, 8, 53, 63, 72, 10, 86, 87, 90, 98, 60, 11, 109, 12, 113, 9, 144] vs 90), (sl [0, 1, 4, 3, 26, 5, 6, 37, 7, 8, 53, 63, 72, 10, 86, 87, 90, 98, 60, 11, 109, 12, 113, 9, 144] vs 98), (sl [0, 1, 4, 3, 26, 5, 6, 37, 7, 8, 53, 63, 72, 10, 86, 87, 90, 98, 60, 11, 109, 12, 113, 9, 144] vs 60), (sl [0, 1, 4, 3, 26, 5, 6, 37, 7, 8, 53, 63, 72, 10, 86, 87, 90, 98, 60, 11, 109, 12, 113, 9, 144] vs 11), (sl [0, 1, 4, 3, 26, 5, 6, 37, 7, 8, 53, 63, 72, 10, 86, 87, 90, 98, 60, 11, 109, 12, 113, 9, 144] vs 109), x93, x60, (sl [0, 1, 4, 3, 26, 5, 6, 37, 7, 8, 53, 63, 72, 10, 86, 87, 90, 98, 60, 11, 109, 12, 113, 9, 144] vs 9), x89] H)) (
  fin (.exit 1) [(sl [0, 1, 4, 3, 26, 5, 6, 37, 7, 8, 53, 63, 72, 10, 86, 87, 90, 98, 60, 11, 109, 12, 113, 9, 144] vs 0), (sl [0, 1, 4, 3, 26, 5, 6, 37, 7, 8, 53, 63, 72, 10, 86, 87, 90, 98, 60, 11, 109, 12, 113, 9, 144] vs 1), (sl [0, 1, 4, 3, 26, 5, 6, 37, 7, 8, 53, 63, 72, 10, 86, 87, 90, 98, 60, 11, 109, 12, 113, 9, 144] vs 4), (sl [0, 1, 4, 3, 26, 5, 6, 37, 7, 8, 53, 63, 72, 10, 86, 87, 90, 98, 60, 11, 109, 12, 113, 9, 144] vs 3), (sl [0, 1, 4, 3, 26, 5, 6, 37, 7, 8, 53, 63, 72, 10, 86, 87, 90, 98, 60, 11, 109, 12, 113, 9, 144] vs 26), (sl [0, 1, 4, 3, 26, 5, 6, 37, 7, 8, 53, 63, 72, 10, 86, 87, 90, 98, 60, 11, 109, 12, 113, 9, 144] vs 5), (sl [0, 1, 4, 3, 26, 5, 6, 37, 7, 8, 53, 63, 72, 10, 86, 87, 90, 98, 60, 11, 109, 12, 113, 9, 144] vs 6), (sl [0, 1, 4, 3, 26, 5, 6, 37, 7, 8, 53, 63, 72, 10, 86, 87, 90, 98, 60, 11, 109, 12, 113, 9, 144] vs 37), (sl [0, 1, 4, 3, 26, 5, 6, 37, 7, 8, 53, 63, 72, 10, 86, 87, 90, 98, 60, 11, 109, 12, 113, 9, 144] vs 7), (sl [0, 1, 4, 3, 26, 5, 6, 37, 7, 8, 53, 63, 72, 10, 86, 87, 90, 98, 60, 11, 109, 12, 113, 9, 144] vs 8), (sl [0, 1, 4, 3, 26, 5, 6, 37, 7, 8, 53, 63, 72, 10, 86, 87, 90, 98, 60, 11, 109, 12, 113, 9, 144] vs 53), (sl [0, 1, 4, 3, 26, 5, 6, 37, 7, 8, 53, 63, 72, 10, 86, 87, 90, 98, 60, 11, 109, 12, 113, 9, 144] vs 63), (sl [0, 1, 4, 3, 26, 5, 6, 37, 7, 8, 53, 63, 72, 10, 86, 87, 90, 98, 60, 11, 109, 12, 113, 9, 144] vs 72), (sl [0, 1, 4, 3, 26, 5, 6, 37, 7, 8, 53, 63, 72, 10, 86, 87, 90, 98, 60, 11, 109, 12, 113, 9, 144] vs 10), (sl [0, 1, 4, 3, 26, 5, 6, 37, 7, 8, 53, 63, 72, 10, 86, 87, 90, 98, 60, 11, 109, 12, 113, 9, 144] vs 86), (sl [0, 1, 4, 3, 26, 5, 6, 37, 7, 8, 53, 63, 72, 10, 86, 87, 90, 98, 60, 11, 109, 12, 113, 9, 144] vs 87), (sl [0, 1, 4, 3, 26, 5, 6, 37, 7, 8, 53, 63, 72, 10, 86, 87, 90, 98, 60, 11, 109, 12, 113, 9, 144] vs 90), (sl [0, 1, 4, 3, 26, 5, 6, 37, 7, 8, 53, 63, 72, 10, 86, 87, 90, 98, 60, 11, 109, 12, 113, 9, 144] vs 98), (sl [0, 1, 4, 3, 26, 5, 6, 37, 7, 8, 53, 63, 72, 10, 86, 87, 90, 98, 60, 11, 109, 12, 113, 9, 144] vs 60), (sl [0, 1, 4, 3, 26, 5, 6, 37, 7, 8, 53, 63, 72, 10, 86, 87, 90, 98, 60, 11, 109, 12, 113, 9, 144] vs 11), (sl [0, 1, 4, 3, 26, 5, 6, 37, 7, 8, 53, 63, 72, 10, 86, 87, 90, 98, 60, 11, 109, 12, 113, 9, 144] vs 109), (sl [0, 1, 4, 3, 26, 5, 6, 37, 7, 8, 53, 63, 72, 10, 86, 87, 90, 98, 60, 11, 109, 12, 113, 9, 144] vs 12), x60, (sl [0, 1, 4, 3, 26, 5, 6, 37, 7, 8, 53, 63, 72, 10, 86, 87, 90, 98, 60, 11, 109, 12, 113, 9, 144] vs 9), (sl [0, 1, 4, 3, 26, 5, 6, 37, 7, 8, 53, 63, 72, 10, 86, 87, 90, 98, 60, 11, 109, 12, 113, 9, 144] vs 144)] H)

noncomputable def F5_b1v (C : Oracle) (n : Nat) (v0 v1 v4 v3 v26 v5 v6 v37 v7 v8 v53 v63 v72 v10 v86 v87 v90 v98 v60 v11 v109 v12 v113 v9 v144 : Value) (H : Heap) : AOut :=
  bnd (some (v12, H)) fun x57 H =>
  bnd (some (v0, H)) fun x58 H =>
  bnd (pS (slen x58) H) fun x59 H =>
  bnd (pS (abin Try.prog .lss 3 x57 x59) H) fun x60 H =>
  brB x60 (bnd (some (v12, H)) fun x61 H =>
  bnd (some (v7, H)) fun x62 H =>
  bnd (pS (abin Try.prog .sub 3 x62 (Value.int .i64 (1))) H) fun x63 H =>
  bnd (pS (abin Try.prog .neq 3 x61 x63) H) fun x64 H =>
  bnd (some (x64, H)) fun x65 H =>
  bnd (gd (wantV x65 true) (some (v11, H)) H) fun x66 H =>
  bnd (gd (wantV x65 true) (some (v12, H)) H) fun x67 H =>
  bnd (gd (wantV x65 true) (iadS 1 x66 x67 H) H) fun x68 H =>
  bnd (gd (wantV x65 true) (pS (ld1 x68 H) H) H) fun x69 H =>
  bnd (gd (wantV x65 true) (some (v0, H)) H) fun x70 H =>
  bnd (gd (wantV x65 true) (some (v12, H)) H) fun x71 H =>
  bnd (gd (wantV x65 true) (iadS 1 x70 x71 H) H) fun x72 H =>
  bnd (gd (wantV x65 true) (pS (ld1 x72 H) H) H) fun x73 H =>
  bnd (gd (wantV x65 true) (pS (abin Try.prog .neq 2 x69 x73) H) H) fun x74 H =>
  bnd (pickS x65 x74 (Value.bool false) H) fun x75 H =>
  bnd (some (x75, H)) fun x76 H =>
  bnd (gd (wantV x76 false) (some (v12, H)) H) fun x77 H =>
  bnd (gd (wantV x76 false) (some (v7, H)) H) fun x78 H =>
  bnd (gd (wantV x76 false) (pS (abin Try.prog .sub 3 x78 (Value.int .i64 (1))) H) H) fun x79 H =>
  bnd (gd (wantV x76 false) (pS (abin Try.prog .eql 3 x77 x79) H) H) fun x80 H =>
  bnd (gd (wantV x76 false) (some (x80, H)) H) fun x81 H =>
  bnd (gd (wantV x81 true) (some (v11, H)) H) fun x82 H =>
  bnd (gd (wantV x81 true) (some (v12, H)) H) fun x83 H =>
  bnd (gd (wantV x81 true) (iadS 1 x82 x83 H) H) fun x84 H =>
  bnd (gd (wantV x81 true) (pS (ld1 x84 H) H) H) fun x85 H =>
  bnd (gd (wantV x81 true) (some (v9, H)) H) fun x86 H =>
  bnd (gd (wantV x81 true) (pS (abin Try.prog .neq 2 x85 x86) H) H) fun x87 H =>
  bnd (gd (wantV x76 false) (pickS x81 x87 (Value.bool false) H) H) fun x88 H =>
  bnd (pickS x76 (Value.bool true) x88 H) fun x89 H =>
  brB x89 (bnd (some ((Value.bool false), H)) fun x90 H =>
  fin .ret [v0, v1, x90, v3, v26, v5, v6, v37, v7, v8, v53, v63, v72, v10, v86, v87, v90, v98, v60, v11, v109, v12, x60, v9, x89] H) (
  bnd (some (v12, H)) fun x91 H =>
  bnd (pS (abin Try.prog .add 3 x91 (Value.int .i64 (1))) H) fun x92 H =>
  bnd (some (x92, H)) fun x93 H =>
  fin .normal [v0, v1, v4, v3, v26, v5, v6, v37, v7, v8, v53, v63, v72, v10, v86, v87, v90, v98, v60, v11, v109, x93, x60, v9, x89] H)) (
  fin (.exit 1) [v0, v1, v4, v3, v26, v5, v6, v37, v7, v8, v53, v63, v72, v10, v86, v87, v90, v98, v60, v11, v109, v12, x60, v9, v144] H)

theorem F5_b1_v (C : Oracle) (n : Nat) (v0 v1 v4 v3 v26 v5 v6 v37 v7 v8 v53 v63 v72 v10 v86 v87 v90 v98 v60 v11 v109 v12 v113 v9 v144 : Value) (H : Heap) : F5_b1 C n [v0, v1, v4, v3, v26, v5, v6, v37, v7, v8, v53, v63, v72, v10, v86, v87, v90, v98, v60, v11, v109, v12, v113, v9, v144] H = F5_b1v C n v0 v1 v4 v3 v26 v5 v6 v37 v7 v8 v53 v63 v72 v10 v86 v87 v90 v98 v60 v11 v109 v12 v113 v9 v144 H := by
  kernel_rfl

noncomputable def F5_j2 (C : Oracle) (n : Nat) (vs : List Value) (H : Heap) : Option (Value × Heap) :=
  bnd (C 19 [] H) fun x94 H =>
  bnd (some (x94, H)) fun x95 H =>
  bnd (gd (wantV x95 true) (some ((sl [0, 1, 4, 3, 26, 5, 6, 37, 7, 8, 53, 63, 72, 10, 86, 87, 90, 98, 60, 11, 109, 12, 113, 9, 144] vs 5), H)) H) fun x96 H =>
  bnd (gd (wantV x95 true) (C 23 [x96] H) H) fun x97 H =>
  bnd (gd (wantV x95 true) (pS (abin Try.prog .eql 3 x97 (Value.int .i64 (2))) H) H) fun x98 H =>
  bnd (pickS x95 x98 (Value.bool false) H) fun x99 H =>
  bnd (some (x99, H)) fun x100 H =>
  some (x100, H)

noncomputable def F5_j2v (C : Oracle) (n : Nat) (v0 v1 v4 v3 v26 v5 v6 v37 v7 v8 v53 v63 v72 v10 v86 v87 v90 v98 v60 v11 v109 v12 v113 v9 v144 : Value) (H : Heap) : Option (Value × Heap) :=
  bnd (C 19 [] H) fun x94 H =>
  bnd (some (x94, H)) fun x95 H =>
  bnd (gd (wantV x95 true) (some (v5, H)) H) fun x96 H =>
  bnd (gd (wantV x95 true) (C 23 [x96] H) H) fun x97 H =>
  bnd (gd (wantV x95 true) (pS (abin Try.prog .eql 3 x97 (Value.int .i64 (2))) H) H) fun x98 H =>
  bnd (pickS x95 x98 (Value.bool false) H) fun x99 H =>
  bnd (some (x99, H)) fun x100 H =>
  some (x100, H)

theorem F5_j2_v (C : Oracle) (n : Nat) (v0 v1 v4 v3 v26 v5 v6 v37 v7 v8 v53 v63 v72 v10 v86 v87 v90 v98 v60 v11 v109 v12 v113 v9 v144 : Value) (H : Heap) : F5_j2 C n [v0, v1, v4, v3, v26, v5, v6, v37, v7, v8, v53, v63, v72, v10, v86, v87, v90, v98, v60, v11, v109, v12, v113, v9, v144] H = F5_j2v C n v0 v1 v4 v3 v26 v5 v6 v37 v7 v8 v53 v63 v72 v10 v86 v87 v90 v98 v60 v11 v109 v12 v113 v9 v144 H := by
  kernel_rfl

noncomputable def F5_j0 (C : Oracle) (n : Nat) (vs : List Value) (H : Heap) : Option (Value × Heap) :=
  bnd (some ((sl [0, 1, 4, 3, 26, 5, 6, 37, 7, 8, 53, 63, 72, 10, 86, 87, 90, 98, 60, 11, 109, 12, 113, 9, 144] vs 5), H)) fun x47 H =>
  bnd (C 22 [x47] H) fun x48 H =>
  bnd (some (x48, H)) fun x49 H =>
  bnd (some (x49, H)) fun x50 H =>
  bnd (pS (slen x50) H) fun x51 H =>
  bnd (some ((sl [0, 1, 4, 3, 26, 5, 6, 37, 7, 8, 53, 63, 72, 10, 86, 87, 90, 98, 60, 11, 109, 12, 113, 9, 144] vs 0), H)) fun x52 H =>
  bnd (pS (slen x52) H) fun x53 H =>
  bnd (pS (abin Try.prog .neq 3 x51 x53) H) fun x54 H =>
  brB x54 (bnd (some ((Value.bool false), H)) fun x55 H =>
  some (x55, H)) (
  bnd (some ((Value.int .i64 (0)), H)) fun x56 H =>
  onOut (iter n (F5_b1 C n) [(sl [0, 1, 4, 3, 26, 5, 6, 37, 7, 8, 53, 63, 72, 10, 86, 87, 90, 98, 60, 11, 109, 12, 113, 9, 144] vs 0), (sl [0, 1, 4, 3, 26, 5, 6, 37, 7, 8, 53, 63, 72, 10, 86, 87, 90, 98, 60, 11, 109, 12, 113, 9, 144] vs 1), (sl [0, 1, 4, 3, 26, 5, 6, 37, 7, 8, 53, 63, 72, 10, 86, 87, 90, 98, 60, 11, 109, 12, 113, 9, 144] vs 4), (sl [0, 1, 4, 3, 26, 5, 6, 37, 7, 8, 53, 63, 72, 10, 86, 87, 90, 98, 60, 11, 109, 12, 113, 9, 144] vs 3), (sl [0, 1, 4, 3, 26, 5, 6, 37, 7, 8, 53, 63, 72, 10, 86, 87, 90, 98, 60, 11, 109, 12, 113, 9, 144] vs 26), (sl [0, 1, 4, 3, 26, 5, 6, 37, 7, 8, 53, 63, 72, 10, 86, 87, 90, 98, 60, 11, 109, 12, 113, 9, 144] vs 5), (sl [0, 1, 4, 3, 26, 5, 6, 37, 7, 8, 53, 63, 72, 10, 86, 87, 90, 98, 60, 11, 109, 12, 113, 9, 144] vs 6), (sl [0, 1, 4, 3, 26, 5, 6, 37, 7, 8, 53, 63, 72, 10, 86, 87, 90, 98, 60, 11, 109, 12, 113, 9, 144] vs 37), (sl [0, 1, 4, 3, 26, 5, 6, 37, 7, 8, 53, 63, 72, 10, 86, 87, 90, 98, 60, 11, 109, 12, 113, 9, 144] vs 7), (sl [0, 1, 4, 3, 26, 5, 6, 37, 7, 8, 53, 63, 72, 10, 86, 87, 90, 98, 60, 11, 109, 12, 113, 9, 144] vs 8), (sl [0, 1, 4, 3, 26, 5, 6, 37, 7, 8, 53, 63, 72, 10, 86, 87, 90, 98, 60, 11, 109, 12, 113, 9, 144] vs 53), (sl [0, 1, 4, 3, 26, 5, 6, 37, 7, 8, 53, 63, 72, 10, 86, 87, 90, 98, 60, 11, 109, 12, 113, 9, 144] vs 63), (sl [0, 1, 4, 3, 26, 5, 6, 37, 7, 8, 53, 63, 72, 10, 86, 87, 90, 98, 60, 11, 109, 12, 113, 9, 144] vs 72), (sl [0, 1, 4, 3, 26, 5, 6, 37, 7, 8, 53, 63, 72, 10, 86, 87, 90, 98, 60, 11, 109, 12, 113, 9, 144] vs 10), (sl [0, 1, 4, 3, 26, 5, 6, 37, 7, 8, 53, 63, 72, 10, 86, 87, 90, 98, 60, 11, 109, 12, 113, 9, 144] vs 86), (sl [0, 1, 4, 3, 26, 5, 6, 37, 7, 8, 53, 63, 72, 10, 86, 87, 90, 98, 60, 11, 109, 12, 113, 9, 144] vs 87), (sl [0, 1, 4, 3, 26, 5, 6, 37, 7, 8, 53, 63, 72, 10, 86, 87, 90, 98, 60, 11, 109, 12, 113, 9, 144] vs 90), (sl [0, 1, 4, 3, 26, 5, 6, 37, 7, 8, 53, 63, 72, 10, 86, 87, 90, 98, 60, 11, 109, 12, 113, 9, 144] vs 98), (sl [0, 1, 4, 3, 26, 5, 6, 37, 7, 8, 53, 63, 72, 10, 86, 87, 90, 98, 60, 11, 109, 12, 113, 9, 144] vs 60), x49, x54, x56, (sl [0, 1, 4, 3, 26, 5, 6, 37, 7, 8, 53, 63, 72, 10, 86, 87, 90, 98, 60, 11, 109, 12, 113, 9, 144] vs 113), (sl [0, 1, 4, 3, 26, 5, 6, 37, 7, 8, 53, 63, 72, 10, 86, 87, 90, 98, 60, 11, 109, 12, 113, 9, 144] vs 9), (sl [0, 1, 4, 3, 26, 5, 6, 37, 7, 8, 53, 63, 72, 10, 86, 87, 90, 98, 60, 11, 109, 12, 113, 9, 144] vs 144)] H) (kBlk 1 (kSeq (F5_j2 C n) (kRet Try.prog [.tmp 4] [0, 1, 4, 3, 26, 5, 6, 37, 7, 8, 53, 63, 72, 10, 86, 87, 90, 98, 60, 11, 109, 12, 113, 9, 144]))))

noncomputable def F5_j0v (C : Oracle) (n : Nat) (v0 v1 v4 v3 v26 v5 v6 v37 v7 v8 v53 v63 v72 v10 v86 v87 v90 v98 v60 v11 v109 v12 v113 v9 v144 : Value) (H : Heap) : Option (Value × Heap) :=
  bnd (some (v5, H)) fun x47 H =>
  bnd (C 22 [x47] H) fun x48 H =>
  bnd (some (x48, H)) fun x49 H =>
  bnd (some (x49, H)) fun x50 H =>
  bnd (pS (slen x50) H) fun x51 H =>
  bnd (some (v0, H)) fun x52 H =>
  bnd (pS (slen x52) H) fun x53 H =>
  bnd (pS (abin Try.prog .neq 3 x51 x53) H) fun x54 H =>
  brB x54 (bnd (some ((Value.bool false), H)) fun x55 H =>
  some (x55, H)) (
  bnd (some ((Value.int .i64 (0)), H)) fun x56 H =>
  onOut (iter n (F5_b1 C n) [v0, v1, v4, v3, v26, v5, v6, v37, v7, v8, v53, v63, v72, v10, v86, v87, v90, v98, v60, x49, x54, x56, v113, v9, v144] H) (kBlk 1 (kSeq (F5_j2 C n) (kRet Try.prog [.tmp 4] [0, 1, 4, 3, 26, 5, 6, 37, 7, 8, 53, 63, 72, 10, 86, 87, 90, 98, 60, 11, 109, 12, 113, 9, 144]))))

theorem F5_j0_v (C : Oracle) (n : Nat) (v0 v1 v4 v3 v26 v5 v6 v37 v7 v8 v53 v63 v72 v10 v86 v87 v90 v98 v60 v11 v109 v12 v113 v9 v144 : Value) (H : Heap) : F5_j0 C n [v0, v1, v4, v3, v26, v5, v6, v37, v7, v8, v53, v63, v72, v10, v86, v87, v90, v98, v60, v11, v109, v12, v113, v9, v144] H = F5_j0v C n v0 v1 v4 v3 v26 v5 v6 v37 v7 v8 v53 v63 v72 v10 v86 v87 v90 v98 v60 v11 v109 v12 v113 v9 v144 H := by
  kernel_rfl

noncomputable def F5 (C : Oracle) (n : Nat) (a0 a1 : Value) (H : Heap) : Option (Value × Heap) :=
  bnd (boxS 42 a1 H) fun x0 H =>
  bnd (some ((Value.bool false), H)) fun x1 H =>
  bnd (some (a0, H)) fun x2 H =>
  bnd (pS (slen x2) H) fun x3 H =>
  bnd (pS (abin Try.prog .eql 3 x3 (Value.int .i64 (0))) H) fun x4 H =>
  bnd (some (x4, H)) fun x5 H =>
  bnd (gd (wantV x5 false) (some (a0, H)) H) fun x6 H =>
  bnd (gd (wantV x5 false) (pS (slen x6) H) H) fun x7 H =>
  bnd (gd (wantV x5 false) (pS (abin Try.prog .gtr 3 x7 (Value.int .i64 (100))) H) H) fun x8 H =>
  bnd (pickS x5 (Value.bool true) x8 H) fun x9 H =>
  bnd (some (x9, H)) fun x10 H =>
  bnd (gd (wantV x10 false) (fadS 5 x0 H) H) fun x11 H =>
  bnd (gd (wantV x10 false) (pS (ld1 x11 H) H) H) fun x12 H =>
  bnd (gd (wantV x10 false) (pS (slen x12) H) H) fun x13 H =>
  bnd (gd (wantV x10 false) (pS (abin Try.prog .gtr 3 x13 (Value.int .i64 (100))) H) H) fun x14 H =>
  bnd (pickS x10 (Value.bool true) x14 H) fun x15 H =>
  brB x15 (bnd (C 19 [] H) fun x16 H =>
  bnd (some (x16, H)) fun x17 H =>
  some (x17, H)) (
  bnd (C 16 [(Value.int .i64 (300))] H) fun x18 H =>
  bnd (some (x18, H)) fun x19 H =>
  bnd (extS 0 x19 H) fun x20 H =>
  bnd (extS 1 x19 H) fun x21 H =>
  bnd (some (x20, H)) fun x22 H =>
  bnd (some (x21, H)) fun x23 H =>
  bnd (some (x22, H)) fun x24 H =>
  bnd (pS (abin Try.prog .eql 24 x24 (Value.pointer none)) H) fun x25 H =>
  bnd (some (x25, H)) fun x26 H =>
  bnd (gd (wantV x26 false) (some (x23, H)) H) fun x27 H =>
  bnd (gd (wantV x26 false) (pS (abin Try.prog .neq 25 x27 (Value.int .i64 (0))) H) H) fun x28 H =>
  bnd (pickS x26 (Value.bool true) x28 H) fun x29 H =>
  brB x29 (bnd (some ((Value.bool false), H)) fun x30 H =>
  some (x30, H)) (
  bnd (some (x22, H)) fun x31 H =>
  bnd (some (a0, H)) fun x32 H =>
  bnd (C 17 [x31, x32] H) fun x33 H =>
  bnd (fadS 1 x0 H) fun x34 H =>
  bnd (pS (ld1 x34 H) H) fun x35 H =>
  bnd (some (a0, H)) fun x36 H =>
  bnd (pS (slen x36) H) fun x37 H =>
  bnd (C 15 [x35, x37] H) fun x38 H =>
  bnd (pS (abin Try.prog .add 3 (Value.int .i64 (1)) x38) H) fun x39 H =>
  bnd (some (x39, H)) fun x40 H =>
  bnd (some (x22, H)) fun x41 H =>
  bnd (some (x40, H)) fun x42 H =>
  bnd (C 28 [x41, x42] H) fun x43 H =>
  bnd (some (x43, H)) fun x44 H =>
  bnd (some (x44, H)) fun x45 H =>
  bnd (some (x45, H)) fun x46 H =>
  bnd (fadS 0 x0 H) fun x101 H =>
  bnd (pS (ld1 x101 H) H) fun x102 H =>
  bnd (C 15 [x102, (Value.int .i64 (4))] H) fun x103 H =>
  bnd (pS (abin Try.prog .eql 3 x103 (Value.int .i64 (0))) H) fun x104 H =>
  bnd (some (x104, H)) fun x105 H =>
  brB x105 (bnd (some (x22, H)) fun x106 H =>
  bnd (some (x40, H)) fun x107 H =>
  bnd (fadS 3 x0 H) fun x108 H =>
  bnd (pS (ld1 x108 H) H) fun x109 H =>
  bnd (C 24 [x106, x107, x109] H) fun x110 H =>
  bnd (fadS 3 x0 H) fun x111 H =>
  bnd (pS (ld1 x111 H) H) fun x112 H =>
  bnd (some (x112, H)) fun x113 H =>
  F5_j0 C n [a0, a1, x1, x0, x15, x22, x23, x29, x40, x44, x103, x105, undef, undef, undef, undef, undef, undef, undef, undef, undef, undef, undef, x113, undef] H) (
  bnd (pS (abin Try.prog .eql 3 x103 (Value.int .i64 (1))) H) fun x114 H =>
  bnd (some (x114, H)) fun x115 H =>
  brB x115 (bnd (some (x22, H)) fun x116 H =>
  bnd (some (x40, H)) fun x117 H =>
  bnd (fadS 4 x0 H) fun x118 H =>
  bnd (pS (ld1 x118 H) H) fun x119 H =>
  bnd (fadS 3 x0 H) fun x120 H =>
  bnd (pS (ld1 x120 H) H) fun x121 H =>
  bnd (C 25 [x116, x117, x119, x121] H) fun x122 H =>
  bnd (some (x122, H)) fun x123 H =>
  bnd (some (x123, H)) fun x124 H =>
  bnd (some (x44, H)) fun x125 H =>
  bnd (fadS 4 x0 H) fun x126 H =>
  bnd (pS (ld1 x126 H) H) fun x127 H =>
  bnd (pS (abin Try.prog .eql 2 x125 x127) H) fun x128 H =>
  bnd (pS (abin Try.prog .neq 4 x124 x128) H) fun x129 H =>
  brB x129 (bnd (some ((Value.bool false), H)) fun x130 H =>
  some (x130, H)) (
  bnd (some (x123, H)) fun x131 H =>
  brB x131 (bnd (fadS 3 x0 H) fun x132 H =>
  bnd (pS (ld1 x132 H) H) fun x133 H =>
  bnd (some (x133, H)) fun x134 H =>
  F5_j0 C n [a0, a1, x1, x0, x15, x22, x23, x29, x40, x44, x103, x105, x115, x123, x129, x131, undef, undef, undef, undef, undef, undef, undef, x134, undef] H) (
  F5_j0 C n [a0, a1, x1, x0, x15, x22, x23, x29, x40, x44, x103, x105, x115, x123, x129, x131, undef, undef, undef, undef, undef, undef, undef, x46, undef] H))) (
  bnd (pS (abin Try.prog .eql 3 x103 (Value.int .i64 (2))) H) fun x135 H =>
  bnd (some (x135, H)) fun x136 H =>
  brB x136 (bnd (some (x22, H)) fun x137 H =>
  bnd (some (x40, H)) fun x138 H =>
  bnd (fadS 3 x0 H) fun x139 H =>
  bnd (pS (ld1 x139 H) H) fun x140 H =>
  bnd (C 26 [x137, x138, x140] H) fun x141 H =>
  bnd (some (x44, H)) fun x142 H =>
  bnd (pS (abin Try.prog .neq 2 x141 x142) H) fun x143 H =>
  brB x143 (bnd (some ((Value.bool false), H)) fun x144 H =>
  some (x144, H)) (
  bnd (some (x44, H)) fun x145 H =>
  bnd (fadS 3 x0 H) fun x146 H =>
  bnd (pS (ld1 x146 H) H) fun x147 H =>
  bnd (pS (abin Try.prog .add 2 x145 x147) H) fun x148 H =>
  bnd (some (x148, H)) fun x149 H =>
  F5_j0 C n [a0, a1, x1, x0, x15, x22, x23, x29, x40, x44, x103, x105, x115, undef, undef, undef, x136, x143, undef, undef, undef, undef, undef, x149, undef] H)) (
  bnd (some (x22, H)) fun x150 H =>
  bnd (some (x40, H)) fun x151 H =>
  bnd (some (x44, H)) fun x152 H =>
  bnd (fadS 3 x0 H) fun x153 H =>
  bnd (pS (ld1 x153 H) H) fun x154 H =>
  bnd (C 25 [x150, x151, x152, x154] H) fun x155 H =>
  bnd (pS (aun .not x155) H) fun x156 H =>
  brB x156 (bnd (some ((Value.bool false), H)) fun x157 H =>
  some (x157, H)) (
  bnd (fadS 3 x0 H) fun x158 H =>
  bnd (pS (ld1 x158 H) H) fun x159 H =>
  bnd (some (x159, H)) fun x160 H =>
  F5_j0 C n [a0, a1, x1, x0, x15, x22, x23, x29, x40, x44, x103, x105, x115, undef, undef, undef, x136, undef, x156, undef, undef, undef, undef, x160, undef] H))))))

theorem F5_eq (G : Oracle) (n : Nat) (a0 a1 : Value) (H : Heap) : run G (n + 1) 5 [a0, a1] H = F5 (run G n) n a0 a1 H := by
  unfold run; rw [acall_k (fn := Try.f5) (keep := [0, 1, 4, 3, 26, 5, 6, 37, 7, 8, 53, 63, 72, 10, 86, 87, 90, 98, 60, 11, 109, 12, 113, 9, 144]) (notBad 5 rfl) (by kernel_rfl) (by kernel_rfl)]
  kernel_rfl

end Go.Proofs.Ytpenlcigickkbaa.Fun
