/- The program's functions as plain terms, each with its equation; printed by wip/am/fun.py. -/
import Derived.Test.YtpapgoadglijiabProg
import Derived.Test.YtpapgoadglijiabAmK
import Derived.KernelRfl
namespace Go.Proofs.Ytpapgoadglijiab.Fun
open Go.RowKit Go.Proofs.YtpapgoadglijiabA.Am
set_option linter.unusedVariables false
set_option maxRecDepth 10000

/-- ordinate/ordinatelaw8.NodeApart -/
noncomputable def F5 (C : Oracle) (n : Nat) (a0 a1 a2 a3 : Value) (H : Heap) : Option (Value × Heap) :=
  bnd (some ((Value.bool false), H)) fun x0 H =>
  bnd (some (a0, H)) fun x1 H =>
  bnd (some (a1, H)) fun x2 H =>
  bnd (C 13 [x1, x2] H) fun x3 H =>
  bnd (some (a0, H)) fun x4 H =>
  bnd (some (a1, H)) fun x5 H =>
  bnd (C 13 [x4, x5] H) fun x6 H =>
  bnd (some (x3, H)) fun x7 H =>
  bnd (some (x6, H)) fun x8 H =>
  bnd (some (a2, H)) fun x9 H =>
  bnd (some (a3, H)) fun x10 H =>
  bnd (some (a0, H)) fun x11 H =>
  bnd (some (a1, H)) fun x12 H =>
  bnd (C 20 [x9, x10, x11, x12] H) fun x13 H =>
  bnd (some (a2, H)) fun x14 H =>
  bnd (some (a3, H)) fun x15 H =>
  bnd (some (a0, H)) fun x16 H =>
  bnd (some (a1, H)) fun x17 H =>
  bnd (C 20 [x14, x15, x16, x17] H) fun x18 H =>
  bnd (some (x13, H)) fun x19 H =>
  bnd (some (x18, H)) fun x20 H =>
  bnd (C 15 [] H) fun x21 H =>
  bnd (C 15 [] H) fun x22 H =>
  bnd (some (x21, H)) fun x23 H =>
  bnd (some (x22, H)) fun x24 H =>
  bnd (some (x7, H)) fun x25 H =>
  bnd (pS (slen x25) H) fun x26 H =>
  bnd (pS (abin Try.prog .neq 3 x26 (Value.int .i64 (2))) H) fun x27 H =>
  bnd (some (x27, H)) fun x28 H =>
  bnd (gd (wantV x28 false) (some (x19, H)) H) fun x29 H =>
  bnd (gd (wantV x28 false) (pS (slen x29) H) H) fun x30 H =>
  bnd (gd (wantV x28 false) (pS (abin Try.prog .neq 3 x30 (Value.int .i64 (5))) H) H) fun x31 H =>
  bnd (pickS x28 (Value.bool true) x31 H) fun x32 H =>
  bnd (some (x32, H)) fun x33 H =>
  bnd (gd (wantV x33 false) (some (x23, H)) H) fun x34 H =>
  bnd (gd (wantV x33 false) (pS (slen x34) H) H) fun x35 H =>
  bnd (gd (wantV x33 false) (pS (abin Try.prog .neq 3 x35 (Value.int .i64 (1))) H) H) fun x36 H =>
  bnd (pickS x33 (Value.bool true) x36 H) fun x37 H =>
  brB x37 (bnd (some ((Value.bool false), H)) fun x38 H =>
  some (x38, H)) (
  bnd (some (x7, H)) fun x39 H =>
  bnd (some (x19, H)) fun x40 H =>
  bnd (some (x23, H)) fun x41 H =>
  bnd (some (x7, H)) fun x42 H =>
  bnd (iadS 1 x42 (Value.int .i64 (0)) H) fun x43 H =>
  bnd (pS (ld1 x43 H) H) fun x44 H =>
  bnd (pS (abin Try.prog .add 2 x44 (Value.int .i64 (1))) H) fun x45 H =>
  bnd (iadS 1 x39 (Value.int .i64 (0)) H) fun x46 H =>
  bnd (stS 1 x46 x45 H) fun x47 H =>
  bnd (iadS 1 x40 (Value.int .i64 (4)) H) fun x48 H =>
  bnd (stS 1 x48 (Value.int .i64 (9)) H) fun x49 H =>
  bnd (iadS 1 x41 (Value.int .i64 (0)) H) fun x50 H =>
  bnd (stS 1 x50 (Value.int .i64 (9)) H) fun x51 H =>
  bnd (C 8 [] H) fun x52 H =>
  bnd (some (x52, H)) fun x53 H =>
  bnd (gd (wantV x53 true) (some (x8, H)) H) fun x54 H =>
  bnd (gd (wantV x53 true) (pS (slen x54) H) H) fun x55 H =>
  bnd (gd (wantV x53 true) (pS (abin Try.prog .eql 3 x55 (Value.int .i64 (2))) H) H) fun x56 H =>
  bnd (pickS x53 x56 (Value.bool false) H) fun x57 H =>
  bnd (some (x57, H)) fun x58 H =>
  bnd (gd (wantV x58 true) (some (x20, H)) H) fun x59 H =>
  bnd (gd (wantV x58 true) (pS (slen x59) H) H) fun x60 H =>
  bnd (gd (wantV x58 true) (pS (abin Try.prog .eql 3 x60 (Value.int .i64 (5))) H) H) fun x61 H =>
  bnd (pickS x58 x61 (Value.bool false) H) fun x62 H =>
  bnd (some (x62, H)) fun x63 H =>
  bnd (gd (wantV x63 true) (some (x24, H)) H) fun x64 H =>
  bnd (gd (wantV x63 true) (pS (slen x64) H) H) fun x65 H =>
  bnd (gd (wantV x63 true) (pS (abin Try.prog .eql 3 x65 (Value.int .i64 (1))) H) H) fun x66 H =>
  bnd (pickS x63 x66 (Value.bool false) H) fun x67 H =>
  bnd (some (x67, H)) fun x68 H =>
  bnd (gd (wantV x68 true) (some (x8, H)) H) fun x69 H =>
  bnd (gd (wantV x68 true) (iadS 1 x69 (Value.int .i64 (0)) H) H) fun x70 H =>
  bnd (gd (wantV x68 true) (pS (ld1 x70 H) H) H) fun x71 H =>
  bnd (gd (wantV x68 true) (some (a0, H)) H) fun x72 H =>
  bnd (gd (wantV x68 true) (pS (abin Try.prog .eql 2 x71 x72) H) H) fun x73 H =>
  bnd (pickS x68 x73 (Value.bool false) H) fun x74 H =>
  bnd (some (x74, H)) fun x75 H =>
  bnd (gd (wantV x75 true) (some (x8, H)) H) fun x76 H =>
  bnd (gd (wantV x75 true) (iadS 1 x76 (Value.int .i64 (1)) H) H) fun x77 H =>
  bnd (gd (wantV x75 true) (pS (ld1 x77 H) H) H) fun x78 H =>
  bnd (gd (wantV x75 true) (some (a1, H)) H) fun x79 H =>
  bnd (gd (wantV x75 true) (pS (abin Try.prog .eql 2 x78 x79) H) H) fun x80 H =>
  bnd (pickS x75 x80 (Value.bool false) H) fun x81 H =>
  bnd (some (x81, H)) fun x82 H =>
  bnd (gd (wantV x82 true) (some (x20, H)) H) fun x83 H =>
  bnd (gd (wantV x82 true) (iadS 1 x83 (Value.int .i64 (4)) H) H) fun x84 H =>
  bnd (gd (wantV x82 true) (pS (ld1 x84 H) H) H) fun x85 H =>
  bnd (gd (wantV x82 true) (pS (abin Try.prog .eql 2 x85 (Value.int .i64 (0))) H) H) fun x86 H =>
  bnd (pickS x82 x86 (Value.bool false) H) fun x87 H =>
  bnd (some (x87, H)) fun x88 H =>
  bnd (gd (wantV x88 true) (some (x20, H)) H) fun x89 H =>
  bnd (gd (wantV x88 true) (iadS 1 x89 (Value.int .i64 (3)) H) H) fun x90 H =>
  bnd (gd (wantV x88 true) (pS (ld1 x90 H) H) H) fun x91 H =>
  bnd (gd (wantV x88 true) (some (a1, H)) H) fun x92 H =>
  bnd (gd (wantV x88 true) (pS (abin Try.prog .eql 2 x91 x92) H) H) fun x93 H =>
  bnd (pickS x88 x93 (Value.bool false) H) fun x94 H =>
  bnd (some (x94, H)) fun x95 H =>
  bnd (gd (wantV x95 true) (some (x20, H)) H) fun x96 H =>
  bnd (gd (wantV x95 true) (iadS 1 x96 (Value.int .i64 (2)) H) H) fun x97 H =>
  bnd (gd (wantV x95 true) (pS (ld1 x97 H) H) H) fun x98 H =>
  bnd (gd (wantV x95 true) (some (a0, H)) H) fun x99 H =>
  bnd (gd (wantV x95 true) (pS (abin Try.prog .eql 2 x98 x99) H) H) fun x100 H =>
  bnd (pickS x95 x100 (Value.bool false) H) fun x101 H =>
  bnd (some (x101, H)) fun x102 H =>
  bnd (gd (wantV x102 true) (some (x24, H)) H) fun x103 H =>
  bnd (gd (wantV x102 true) (iadS 1 x103 (Value.int .i64 (0)) H) H) fun x104 H =>
  bnd (gd (wantV x102 true) (pS (ld1 x104 H) H) H) fun x105 H =>
  bnd (gd (wantV x102 true) (pS (abin Try.prog .eql 2 x105 (Value.int .i64 (0))) H) H) fun x106 H =>
  bnd (pickS x102 x106 (Value.bool false) H) fun x107 H =>
  bnd (some (x107, H)) fun x108 H =>
  some (x108, H))

theorem F5_eq (G : Oracle) (n : Nat) (a0 a1 a2 a3 : Value) (H : Heap) : acall Try.prog (badOf Try.prog) G (n + 1) 5 [a0, a1, a2, a3] H = F5 (acall Try.prog (badOf Try.prog) G n) n a0 a1 a2 a3 H := by
  rw [acall_k (fn := Try.f5) (keep := [0, 1, 2, 3, 8, 9, 11, 13, 45, 10, 12, 14]) (by kernel_rfl) (by kernel_rfl) (by kernel_rfl)]
  kernel_rfl

/-- ordinate/node.LeafWords -/
noncomputable def F13 (C : Oracle) (n : Nat) (a0 a1 : Value) (H : Heap) : Option (Value × Heap) :=
  bnd (some ((Value.slice none 0 0), H)) fun x0 H =>
  bnd (some (a0, H)) fun x1 H =>
  bnd (some (a1, H)) fun x2 H =>
  bnd (abuildSlice Try.prog 23 2 [(0, x1), (1, x2)] H) fun x3 H =>
  bnd (some (x3, H)) fun x4 H =>
  some (x4, H)

theorem F13_eq (G : Oracle) (n : Nat) (a0 a1 : Value) (H : Heap) : acall Try.prog (badOf Try.prog) G (n + 1) 13 [a0, a1] H = F13 (acall Try.prog (badOf Try.prog) G n) n a0 a1 H := by
  rw [acall_k (fn := Try.f13) (keep := [0, 1, 4]) (by kernel_rfl) (by kernel_rfl) (by kernel_rfl)]
  kernel_rfl

/-- ordinate/node.EmptyWords -/
noncomputable def F15 (C : Oracle) (n : Nat) (H : Heap) : Option (Value × Heap) :=
  bnd (some ((Value.slice none 0 0), H)) fun x0 H =>
  bnd (abuildSlice Try.prog 23 1 [(0, (Value.int .i64 (0)))] H) fun x1 H =>
  bnd (some (x1, H)) fun x2 H =>
  some (x2, H)

theorem F15_eq (G : Oracle) (n : Nat) (H : Heap) : acall Try.prog (badOf Try.prog) G (n + 1) 15 [] H = F15 (acall Try.prog (badOf Try.prog) G n) n H := by
  rw [acall_k (fn := Try.f15) (keep := [0]) (by kernel_rfl) (by kernel_rfl) (by kernel_rfl)]
  kernel_rfl

/-- ordinate/node.DcssWords -/
noncomputable def F20 (C : Oracle) (n : Nat) (a0 a1 a2 a3 : Value) (H : Heap) : Option (Value × Heap) :=
  bnd (some ((Value.slice none 0 0), H)) fun x0 H =>
  bnd (some (a0, H)) fun x1 H =>
  bnd (some (a1, H)) fun x2 H =>
  bnd (some (a2, H)) fun x3 H =>
  bnd (some (a3, H)) fun x4 H =>
  bnd (abuildSlice Try.prog 23 5 [(0, x1), (1, x2), (2, x3), (3, x4), (4, (Value.int .i64 (0)))] H) fun x5 H =>
  bnd (some (x5, H)) fun x6 H =>
  some (x6, H)

theorem F20_eq (G : Oracle) (n : Nat) (a0 a1 a2 a3 : Value) (H : Heap) : acall Try.prog (badOf Try.prog) G (n + 1) 20 [a0, a1, a2, a3] H = F20 (acall Try.prog (badOf Try.prog) G n) n a0 a1 a2 a3 H := by
  rw [acall_k (fn := Try.f20) (keep := [0, 1, 2, 3, 8]) (by kernel_rfl) (by kernel_rfl) (by kernel_rfl)]
  kernel_rfl
end Go.Proofs.Ytpapgoadglijiab.Fun
