/- The program's functions as plain terms, each with its equation; printed by wip/am/fun.py. -/
import Derived.Test.YtpenlcigickkbaaFunK
namespace Go.Proofs.Ytpenlcigickkbaa.Fun
open Go.RowKit Go.Proofs.YtpenlcigickkbaaA.Am
set_option linter.unusedVariables false
set_option maxRecDepth 10000
noncomputable def F10 (C : Oracle) (n : Nat) (a0 a1 : Value) (H : Heap) : Option (Value × Heap) :=
  bnd (some ((Value.bool false), H)) fun x0 H =>
  bnd (some (a0, H)) fun x1 H =>
  bnd (C 15 [x1, (Value.int .i64 (20))] H) fun x2 H =>
  bnd (pS (abin Try.prog .add 3 (Value.int .i64 (1)) x2) H) fun x3 H =>
  bnd (some (x3, H)) fun x4 H =>
  bnd (some (x4, H)) fun x5 H =>
  bnd (C 16 [x5] H) fun x6 H =>
  bnd (some (x6, H)) fun x7 H =>
  bnd (extS 0 x7 H) fun x8 H =>
  bnd (extS 1 x7 H) fun x9 H =>
  bnd (some (x8, H)) fun x10 H =>
  bnd (some (x9, H)) fun x11 H =>
  bnd (some (x10, H)) fun x12 H =>
  bnd (pS (abin Try.prog .eql 24 x12 (Value.pointer none)) H) fun x13 H =>
  bnd (some (x13, H)) fun x14 H =>
  bnd (gd (wantV x14 false) (some (x11, H)) H) fun x15 H =>
  bnd (gd (wantV x14 false) (pS (abin Try.prog .neq 25 x15 (Value.int .i64 (0))) H) H) fun x16 H =>
  bnd (pickS x14 (Value.bool true) x16 H) fun x17 H =>
  bnd (some (x17, H)) fun x18 H =>
  bnd (gd (wantV x18 false) (some (a1, H)) H) fun x19 H =>
  bnd (gd (wantV x18 false) (pS (slen x19) H) H) fun x20 H =>
  bnd (gd (wantV x18 false) (pS (abin Try.prog .gtr 3 x20 (Value.int .i64 (50))) H) H) fun x21 H =>
  bnd (pickS x18 (Value.bool true) x21 H) fun x22 H =>
  brB x22 (bnd (some (x10, H)) fun x23 H =>
  bnd (pS (abin Try.prog .neq 24 x23 (Value.pointer none)) H) fun x24 H =>
  bnd (some (x24, H)) fun x25 H =>
  bnd (gd (wantV x25 true) (C 36 [] H) H) fun x26 H =>
  bnd (pickS x25 x26 (Value.bool false) H) fun x27 H =>
  bnd (some (x27, H)) fun x28 H =>
  some (x28, H)) (
  bnd (some (x10, H)) fun x29 H =>
  bnd (some (a1, H)) fun x30 H =>
  bnd (C 17 [x29, x30] H) fun x31 H =>
  bnd (some (x31, H)) fun x32 H =>
  bnd (extS 0 x32 H) fun x33 H =>
  bnd (extS 1 x32 H) fun x34 H =>
  bnd (some (x33, H)) fun x35 H =>
  bnd (some (x34, H)) fun x36 H =>
  bnd (some (x10, H)) fun x37 H =>
  bnd (C 22 [x37] H) fun x38 H =>
  bnd (some (x38, H)) fun x39 H =>
  bnd (some (x10, H)) fun x40 H =>
  bnd (C 51 [x40] H) fun x41 H =>
  bnd (some (x41, H)) fun x42 H =>
  bnd (some (x42, H)) fun x43 H =>
  bnd (some (x36, H)) fun x44 H =>
  bnd (pS (aun .not x44) H) fun x45 H =>
  bnd (some (x45, H)) fun x46 H =>
  bnd (gd (wantV x46 true) (some (x4, H)) H) fun x47 H =>
  bnd (gd (wantV x46 true) (pS (abin Try.prog .geq 3 x47 (Value.int .i64 (7))) H) H) fun x48 H =>
  bnd (pickS x46 x48 (Value.bool false) H) fun x49 H =>
  bnd (pS (abin Try.prog .neq 4 x43 x49) H) fun x50 H =>
  brB x50 (bnd (some ((Value.bool false), H)) fun x51 H =>
  some (x51, H)) (
  bnd (some (x42, H)) fun x52 H =>
  bnd (pS (aun .not x52) H) fun x53 H =>
  brB x53 (bnd (C 36 [] H) fun x54 H =>
  bnd (some (x54, H)) fun x55 H =>
  bnd (gd (wantV x55 true) (some (x10, H)) H) fun x56 H =>
  bnd (gd (wantV x55 true) (C 22 [x56] H) H) fun x57 H =>
  bnd (gd (wantV x55 true) (some (x39, H)) H) fun x58 H =>
  bnd (gd (wantV x55 true) (C 27 [x57, x58] H) H) fun x59 H =>
  bnd (pickS x55 x59 (Value.bool false) H) fun x60 H =>
  bnd (some (x60, H)) fun x61 H =>
  some (x61, H)) (
  bnd (some (x10, H)) fun x62 H =>
  bnd (C 28 [x62, (Value.int .i64 (6))] H) fun x63 H =>
  bnd (some (x63, H)) fun x64 H =>
  bnd (C 36 [] H) fun x65 H =>
  bnd (some (x65, H)) fun x66 H =>
  bnd (gd (wantV x66 true) (some (x10, H)) H) fun x67 H =>
  bnd (gd (wantV x66 true) (C 20 [x67] H) H) fun x68 H =>
  bnd (gd (wantV x66 true) (pS (abin Try.prog .eql 3 x68 (Value.int .i64 (7))) H) H) fun x69 H =>
  bnd (pickS x66 x69 (Value.bool false) H) fun x70 H =>
  bnd (some (x70, H)) fun x71 H =>
  bnd (gd (wantV x71 true) (some (x10, H)) H) fun x72 H =>
  bnd (gd (wantV x71 true) (C 28 [x72, (Value.int .i64 (1))] H) H) fun x73 H =>
  bnd (gd (wantV x71 true) (pS (abin Try.prog .eql 2 x73 (Value.int .i64 (1))) H) H) fun x74 H =>
  bnd (pickS x71 x74 (Value.bool false) H) fun x75 H =>
  bnd (some (x75, H)) fun x76 H =>
  bnd (gd (wantV x76 true) (C 49 [(Value.int .i64 (1)), (Value.int .i64 (1)), (Value.int .i64 (0))] H) H) fun x77 H =>
  bnd (gd (wantV x76 true) (pS (abin Try.prog .eql 3 x77 (Value.int .i64 (6))) H) H) fun x78 H =>
  bnd (pickS x76 x78 (Value.bool false) H) fun x79 H =>
  bnd (some (x79, H)) fun x80 H =>
  bnd (gd (wantV x80 true) (some (x64, H)) H) fun x81 H =>
  bnd (gd (wantV x80 true) (C 52 [x81] H) H) fun x82 H =>
  bnd (gd (wantV x80 true) (pS (abin Try.prog .eql 3 x82 (Value.int .i64 (1))) H) H) fun x83 H =>
  bnd (pickS x80 x83 (Value.bool false) H) fun x84 H =>
  bnd (some (x84, H)) fun x85 H =>
  bnd (gd (wantV x85 true) (some (x64, H)) H) fun x86 H =>
  bnd (gd (wantV x85 true) (C 53 [x86] H) H) fun x87 H =>
  bnd (gd (wantV x85 true) (pS (abin Try.prog .eql 3 x87 (Value.int .i64 (7))) H) H) fun x88 H =>
  bnd (pickS x85 x88 (Value.bool false) H) fun x89 H =>
  bnd (some (x89, H)) fun x90 H =>
  bnd (gd (wantV x90 true) (some (x10, H)) H) fun x91 H =>
  bnd (gd (wantV x90 true) (C 51 [x91] H) H) fun x92 H =>
  bnd (gd (wantV x90 true) (pS (aun .not x92) H) H) fun x93 H =>
  bnd (pickS x90 x93 (Value.bool false) H) fun x94 H =>
  bnd (some (x94, H)) fun x95 H =>
  bnd (gd (wantV x95 true) (some (x10, H)) H) fun x96 H =>
  bnd (gd (wantV x95 true) (C 20 [x96] H) H) fun x97 H =>
  bnd (gd (wantV x95 true) (pS (abin Try.prog .eql 3 x97 (Value.int .i64 (7))) H) H) fun x98 H =>
  bnd (pickS x95 x98 (Value.bool false) H) fun x99 H =>
  bnd (some (x99, H)) fun x100 H =>
  some (x100, H))))

theorem F10_eq (G : Oracle) (n : Nat) (a0 a1 : Value) (H : Heap) : run G (n + 1) 10 [a0, a1] H = F10 (run G n) n a0 a1 H := by
  unfold run; rw [acall_k (fn := Try.f10) (keep := [0, 1, 4, 5, 6, 7, 31, 11, 9, 54, 56, 10, 12]) (notBad 10 rfl) (by kernel_rfl) (by kernel_rfl)]
  kernel_rfl

end Go.Proofs.Ytpenlcigickkbaa.Fun
