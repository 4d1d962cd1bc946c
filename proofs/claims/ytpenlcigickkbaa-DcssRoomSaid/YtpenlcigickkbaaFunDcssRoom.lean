/- The program's functions as plain terms, each with its equation; printed by wip/am/fun.py. -/
import Derived.Test.YtpenlcigickkbaaFunK
namespace Go.Proofs.Ytpenlcigickkbaa.Fun
open Go.RowKit Go.Proofs.YtpenlcigickkbaaA.Am
set_option linter.unusedVariables false
set_option maxRecDepth 10000
noncomputable def F13 (C : Oracle) (n : Nat) (a0 a1 a2 : Value) (H : Heap) : Option (Value × Heap) :=
  bnd (some ((Value.bool false), H)) fun x0 H =>
  bnd (some (a0, H)) fun x1 H =>
  bnd (C 15 [x1, (Value.int .i64 (9))] H) fun x2 H =>
  bnd (some (x2, H)) fun x3 H =>
  bnd (some (x3, H)) fun x4 H =>
  bnd (pS (abin Try.prog .add 3 (Value.int .i64 (7)) x4) H) fun x5 H =>
  bnd (C 16 [x5] H) fun x6 H =>
  bnd (some (x6, H)) fun x7 H =>
  bnd (extS 0 x7 H) fun x8 H =>
  bnd (extS 1 x7 H) fun x9 H =>
  bnd (some (x8, H)) fun x10 H =>
  bnd (some (x9, H)) fun x11 H =>
  bnd (some (x10, H)) fun x12 H =>
  bnd (pS (abin Try.prog .eql 24 x12 (Value.pointer none)) H) fun x13 H =>
  bnd (some (x13, H)) fun x14 H =>
  bnd (gd (wantV x14 false) (some (x11, H)) H) fun x15 H =>
  bnd (gd (wantV x14 false) (pS (abin Try.prog .neq 25 x15 (Value.int .i64 (0))) H) H) fun x16 H =>
  bnd (pickS x14 (Value.bool true) x16 H) fun x17 H =>
  bnd (some (x17, H)) fun x18 H =>
  bnd (gd (wantV x18 false) (some (x10, H)) H) fun x19 H =>
  bnd (gd (wantV x18 false) (C 51 [x19] H) H) fun x20 H =>
  bnd (gd (wantV x18 false) (pS (aun .not x20) H) H) fun x21 H =>
  bnd (pickS x18 (Value.bool true) x21 H) fun x22 H =>
  bnd (some (x22, H)) fun x23 H =>
  bnd (gd (wantV x23 false) (some (a1, H)) H) fun x24 H =>
  bnd (gd (wantV x23 false) (C 52 [x24] H) H) fun x25 H =>
  bnd (gd (wantV x23 false) (pS (abin Try.prog .eql 3 x25 (Value.int .i64 (5))) H) H) fun x26 H =>
  bnd (pickS x23 (Value.bool true) x26 H) fun x27 H =>
  bnd (some (x27, H)) fun x28 H =>
  bnd (gd (wantV x28 false) (some (a2, H)) H) fun x29 H =>
  bnd (gd (wantV x28 false) (C 52 [x29] H) H) fun x30 H =>
  bnd (gd (wantV x28 false) (pS (abin Try.prog .eql 3 x30 (Value.int .i64 (5))) H) H) fun x31 H =>
  bnd (pickS x28 (Value.bool true) x31 H) fun x32 H =>
  brB x32 (bnd (C 58 [] H) fun x33 H =>
  bnd (some (x33, H)) fun x34 H =>
  some (x34, H)) (
  bnd (some (x10, H)) fun x35 H =>
  bnd (some (a1, H)) fun x36 H =>
  bnd (C 24 [x35, (Value.int .i64 (6)), x36] H) fun x37 H =>
  bnd (some (x10, H)) fun x38 H =>
  bnd (C 22 [x38] H) fun x39 H =>
  bnd (some (x39, H)) fun x40 H =>
  bnd (some (a1, H)) fun x41 H =>
  bnd (some (a2, H)) fun x42 H =>
  bnd (C 59 [(Value.int .i64 (3)), (Value.int .i64 (6)), x41, x42] H) fun x43 H =>
  bnd (some (x43, H)) fun x44 H =>
  bnd (some (x44, H)) fun x45 H =>
  bnd (some (x10, H)) fun x46 H =>
  bnd (C 60 [x45, x46] H) fun x47 H =>
  bnd (some (x47, H)) fun x48 H =>
  bnd (some (x3, H)) fun x49 H =>
  bnd (pS (abin Try.prog .lss 3 x49 (Value.int .i64 (5))) H) fun x50 H =>
  brB x50 (bnd (C 58 [] H) fun x51 H =>
  bnd (some (x51, H)) fun x52 H =>
  bnd (gd (wantV x52 true) (some (x48, H)) H) fun x53 H =>
  bnd (pickS x52 x53 (Value.bool false) H) fun x54 H =>
  bnd (some (x54, H)) fun x55 H =>
  bnd (gd (wantV x55 true) (some (x44, H)) H) fun x56 H =>
  bnd (gd (wantV x55 true) (C 61 [x56] H) H) fun x57 H =>
  bnd (gd (wantV x55 true) (pS (abin Try.prog .eql 3 x57 (Value.int .i64 (3))) H) H) fun x58 H =>
  bnd (pickS x55 x58 (Value.bool false) H) fun x59 H =>
  bnd (some (x59, H)) fun x60 H =>
  bnd (gd (wantV x60 true) (some (x44, H)) H) fun x61 H =>
  bnd (gd (wantV x60 true) (C 62 [x61] H) H) fun x62 H =>
  bnd (gd (wantV x60 true) (pS (abin Try.prog .eql 3 x62 (Value.int .i64 (0))) H) H) fun x63 H =>
  bnd (pickS x60 x63 (Value.bool false) H) fun x64 H =>
  bnd (some (x64, H)) fun x65 H =>
  bnd (gd (wantV x65 true) (some (x10, H)) H) fun x66 H =>
  bnd (gd (wantV x65 true) (C 22 [x66] H) H) fun x67 H =>
  bnd (gd (wantV x65 true) (some (x40, H)) H) fun x68 H =>
  bnd (gd (wantV x65 true) (C 27 [x67, x68] H) H) fun x69 H =>
  bnd (pickS x65 x69 (Value.bool false) H) fun x70 H =>
  bnd (some (x70, H)) fun x71 H =>
  bnd (gd (wantV x71 true) (some (x10, H)) H) fun x72 H =>
  bnd (gd (wantV x71 true) (C 32 [x72] H) H) fun x73 H =>
  bnd (gd (wantV x71 true) (pS (abin Try.prog .eql 3 x73 (Value.int .i64 (1))) H) H) fun x74 H =>
  bnd (pickS x71 x74 (Value.bool false) H) fun x75 H =>
  bnd (some (x75, H)) fun x76 H =>
  some (x76, H)) (
  bnd (C 58 [] H) fun x77 H =>
  bnd (some (x77, H)) fun x78 H =>
  bnd (gd (wantV x78 true) (some (x48, H)) H) fun x79 H =>
  bnd (gd (wantV x78 true) (pS (aun .not x79) H) H) fun x80 H =>
  bnd (pickS x78 x80 (Value.bool false) H) fun x81 H =>
  bnd (some (x81, H)) fun x82 H =>
  bnd (gd (wantV x82 true) (some (x44, H)) H) fun x83 H =>
  bnd (gd (wantV x82 true) (C 62 [x83] H) H) fun x84 H =>
  bnd (gd (wantV x82 true) (pS (abin Try.prog .eql 3 x84 (Value.int .i64 (8))) H) H) fun x85 H =>
  bnd (pickS x82 x85 (Value.bool false) H) fun x86 H =>
  bnd (some (x86, H)) fun x87 H =>
  bnd (gd (wantV x87 true) (some (x10, H)) H) fun x88 H =>
  bnd (gd (wantV x87 true) (C 20 [x88] H) H) fun x89 H =>
  bnd (gd (wantV x87 true) (pS (abin Try.prog .eql 3 x89 (Value.int .i64 (12))) H) H) fun x90 H =>
  bnd (pickS x87 x90 (Value.bool false) H) fun x91 H =>
  bnd (some (x91, H)) fun x92 H =>
  bnd (gd (wantV x92 true) (some (x10, H)) H) fun x93 H =>
  bnd (gd (wantV x92 true) (C 32 [x93] H) H) fun x94 H =>
  bnd (gd (wantV x92 true) (pS (abin Try.prog .eql 3 x94 (Value.int .i64 (0))) H) H) fun x95 H =>
  bnd (pickS x92 x95 (Value.bool false) H) fun x96 H =>
  bnd (some (x96, H)) fun x97 H =>
  some (x97, H)))

theorem F13_eq (G : Oracle) (n : Nat) (a0 a1 a2 : Value) (H : Heap) : run G (n + 1) 13 [a0, a1, a2] H = F13 (run G n) n a0 a1 a2 H := by
  unfold run; rw [acall_k (fn := Try.f13) (keep := [0, 1, 2, 6, 7, 8, 9, 41, 11, 55, 12, 10]) (notBad 13 rfl) (by kernel_rfl) (by kernel_rfl)]
  kernel_rfl

end Go.Proofs.Ytpenlcigickkbaa.Fun
