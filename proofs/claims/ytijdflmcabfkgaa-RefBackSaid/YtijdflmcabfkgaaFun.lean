/- The program's functions as plain terms, each with its equation; printed by wip/am/fun.py. -/
import Derived.Test.YtijdflmcabfkgaaProg
import Derived.Test.YtijdflmcabfkgaaAmK
import Derived.KernelRfl
namespace Go.Proofs.Ytijdflmcabfkgaa.Fun
open Go.RowKit Go.Proofs.YtijdflmcabfkgaaA.Am
set_option linter.unusedVariables false
set_option maxRecDepth 10000
/-- ordinate/ordinatelaw1.RefBack -/
noncomputable def F5 (C : Oracle) (n : Nat) (a0 a1 a2 : Value) (H : Heap) : Option (Value × Heap) :=
  bnd (some ((Value.bool false), H)) fun x0 H =>
  bnd (some (a0, H)) fun x1 H =>
  bnd (some (a1, H)) fun x2 H =>
  bnd (C 9 [x1, x2] H) fun x3 H =>
  bnd (some (x3, H)) fun x4 H =>
  bnd (some (x4, H)) fun x5 H =>
  bnd (pS (abin Try.prog .neq 2 x5 (Value.int .i64 (0))) H) fun x6 H =>
  bnd (some (x6, H)) fun x7 H =>
  bnd (gd (wantV x7 true) (some (x4, H)) H) fun x8 H =>
  bnd (gd (wantV x7 true) (C 14 [x8] H) H) fun x9 H =>
  bnd (gd (wantV x7 true) (some (a0, H)) H) fun x10 H =>
  bnd (gd (wantV x7 true) (pS (abin Try.prog .neq 3 x9 x10) H) H) fun x11 H =>
  bnd (gd (wantV x7 true) (some (x11, H)) H) fun x12 H =>
  bnd (gd (wantV x12 false) (some (x4, H)) H) fun x13 H =>
  bnd (gd (wantV x12 false) (C 11 [x13] H) H) fun x14 H =>
  bnd (gd (wantV x12 false) (some (a1, H)) H) fun x15 H =>
  bnd (gd (wantV x12 false) (pS (abin Try.prog .neq 3 x14 x15) H) H) fun x16 H =>
  bnd (gd (wantV x7 true) (pickS x12 (Value.bool true) x16 H) H) fun x17 H =>
  bnd (gd (wantV x7 true) (some (x17, H)) H) fun x18 H =>
  bnd (gd (wantV x18 false) (some (x4, H)) H) fun x19 H =>
  bnd (gd (wantV x18 false) (C 10 [x19] H) H) fun x20 H =>
  bnd (gd (wantV x18 false) (pS (aun .not x20) H) H) fun x21 H =>
  bnd (gd (wantV x7 true) (pickS x18 (Value.bool true) x21 H) H) fun x22 H =>
  bnd (pickS x7 x22 (Value.bool false) H) fun x23 H =>
  brB x23 (bnd (some ((Value.bool false), H)) fun x24 H =>
  some (x24, H)) (
  bnd (some (a2, H)) fun x25 H =>
  bnd (C 10 [x25] H) fun x26 H =>
  bnd (some (x26, H)) fun x27 H =>
  bnd (gd (wantV x27 true) (some (a2, H)) H) fun x28 H =>
  bnd (gd (wantV x27 true) (C 14 [x28] H) H) fun x29 H =>
  bnd (gd (wantV x27 true) (some (a2, H)) H) fun x30 H =>
  bnd (gd (wantV x27 true) (C 11 [x30] H) H) fun x31 H =>
  bnd (gd (wantV x27 true) (C 9 [x29, x31] H) H) fun x32 H =>
  bnd (gd (wantV x27 true) (some (a2, H)) H) fun x33 H =>
  bnd (gd (wantV x27 true) (pS (abin Try.prog .neq 2 x32 x33) H) H) fun x34 H =>
  bnd (pickS x27 x34 (Value.bool false) H) fun x35 H =>
  brB x35 (bnd (some ((Value.bool false), H)) fun x36 H =>
  some (x36, H)) (
  bnd (some (a0, H)) fun x37 H =>
  bnd (pS (abin Try.prog .geq 3 x37 (Value.int .i64 (1))) H) fun x38 H =>
  bnd (some (x38, H)) fun x39 H =>
  bnd (gd (wantV x39 true) (some (a0, H)) H) fun x40 H =>
  bnd (gd (wantV x39 true) (pS (abin Try.prog .leq 3 x40 (Value.int .i64 (5))) H) H) fun x41 H =>
  bnd (pickS x39 x41 (Value.bool false) H) fun x42 H =>
  bnd (some (x42, H)) fun x43 H =>
  bnd (gd (wantV x43 true) (some (a1, H)) H) fun x44 H =>
  bnd (gd (wantV x43 true) (pS (abin Try.prog .geq 3 x44 (Value.int .i64 (1))) H) H) fun x45 H =>
  bnd (pickS x43 x45 (Value.bool false) H) fun x46 H =>
  bnd (some (x46, H)) fun x47 H =>
  bnd (gd (wantV x47 true) (some (a1, H)) H) fun x48 H =>
  bnd (gd (wantV x47 true) (pS (abin Try.prog .leq 3 x48 (Value.int .i64 (65536))) H) H) fun x49 H =>
  bnd (pickS x47 x49 (Value.bool false) H) fun x50 H =>
  bnd (some (x50, H)) fun x51 H =>
  bnd (C 8 [] H) fun x52 H =>
  bnd (some (x52, H)) fun x53 H =>
  bnd (gd (wantV x53 true) (some (x4, H)) H) fun x54 H =>
  bnd (gd (wantV x53 true) (pS (abin Try.prog .neq 2 x54 (Value.int .i64 (0))) H) H) fun x55 H =>
  bnd (gd (wantV x53 true) (some (x51, H)) H) fun x56 H =>
  bnd (gd (wantV x53 true) (pS (abin Try.prog .eql 4 x55 x56) H) H) fun x57 H =>
  bnd (pickS x53 x57 (Value.bool false) H) fun x58 H =>
  bnd (some (x58, H)) fun x59 H =>
  bnd (gd (wantV x59 true) (some (a2, H)) H) fun x60 H =>
  bnd (gd (wantV x59 true) (C 10 [x60] H) H) fun x61 H =>
  bnd (gd (wantV x59 true) (some (a2, H)) H) fun x62 H =>
  bnd (gd (wantV x59 true) (C 14 [x62] H) H) fun x63 H =>
  bnd (gd (wantV x59 true) (pS (abin Try.prog .neq 3 x63 (Value.int .i64 (0))) H) H) fun x64 H =>
  bnd (gd (wantV x59 true) (pS (abin Try.prog .eql 4 x61 x64) H) H) fun x65 H =>
  bnd (pickS x59 x65 (Value.bool false) H) fun x66 H =>
  bnd (some (x66, H)) fun x67 H =>
  bnd (gd (wantV x67 true) (some (a2, H)) H) fun x68 H =>
  bnd (gd (wantV x67 true) (C 10 [x68] H) H) fun x69 H =>
  bnd (gd (wantV x67 true) (some (a2, H)) H) fun x70 H =>
  bnd (gd (wantV x67 true) (C 11 [x70] H) H) fun x71 H =>
  bnd (gd (wantV x67 true) (pS (abin Try.prog .neq 3 x71 (Value.int .i64 (0))) H) H) fun x72 H =>
  bnd (gd (wantV x67 true) (pS (abin Try.prog .eql 4 x69 x72) H) H) fun x73 H =>
  bnd (pickS x67 x73 (Value.bool false) H) fun x74 H =>
  bnd (some (x74, H)) fun x75 H =>
  some (x75, H)))

theorem F5_eq (G : Oracle) (n : Nat) (a0 a1 a2 : Value) (H : Heap) : acall Try.prog (badOf Try.prog) G (n + 1) 5 [a0, a1, a2] H = F5 (acall Try.prog (badOf Try.prog) G n) n a0 a1 a2 H := by
  rw [acall_k (fn := Try.f5) (keep := [0, 1, 2, 6, 7, 30, 41, 8]) (by kernel_rfl) (by kernel_rfl) (by kernel_rfl)]
  kernel_rfl

/-- ordinate/ordinatelaw1.known -/
noncomputable def F8 (C : Oracle) (n : Nat) (H : Heap) : Option (Value × Heap) :=
  bnd (some ((Value.bool false), H)) fun x0 H =>
  bnd (C 9 [(Value.int .i64 (2)), (Value.int .i64 (3))] H) fun x1 H =>
  bnd (pS (abin Try.prog .eql 2 x1 (Value.int .i64 (26))) H) fun x2 H =>
  bnd (some (x2, H)) fun x3 H =>
  bnd (gd (wantV x3 true) (C 14 [(Value.int .i64 (26))] H) H) fun x4 H =>
  bnd (gd (wantV x3 true) (pS (abin Try.prog .eql 3 x4 (Value.int .i64 (2))) H) H) fun x5 H =>
  bnd (pickS x3 x5 (Value.bool false) H) fun x6 H =>
  bnd (some (x6, H)) fun x7 H =>
  bnd (gd (wantV x7 true) (C 11 [(Value.int .i64 (26))] H) H) fun x8 H =>
  bnd (gd (wantV x7 true) (pS (abin Try.prog .eql 3 x8 (Value.int .i64 (3))) H) H) fun x9 H =>
  bnd (pickS x7 x9 (Value.bool false) H) fun x10 H =>
  bnd (some (x10, H)) fun x11 H =>
  bnd (gd (wantV x11 true) (C 10 [(Value.int .i64 (26))] H) H) fun x12 H =>
  bnd (pickS x11 x12 (Value.bool false) H) fun x13 H =>
  bnd (some (x13, H)) fun x14 H =>
  bnd (gd (wantV x14 true) (C 9 [(Value.int .i64 (0)), (Value.int .i64 (3))] H) H) fun x15 H =>
  bnd (gd (wantV x14 true) (pS (abin Try.prog .eql 2 x15 (Value.int .i64 (0))) H) H) fun x16 H =>
  bnd (pickS x14 x16 (Value.bool false) H) fun x17 H =>
  bnd (some (x17, H)) fun x18 H =>
  bnd (gd (wantV x18 true) (C 9 [(Value.int .i64 (2)), (Value.int .i64 (0))] H) H) fun x19 H =>
  bnd (gd (wantV x18 true) (pS (abin Try.prog .eql 2 x19 (Value.int .i64 (0))) H) H) fun x20 H =>
  bnd (pickS x18 x20 (Value.bool false) H) fun x21 H =>
  bnd (some (x21, H)) fun x22 H =>
  bnd (gd (wantV x22 true) (C 10 [(Value.int .i64 (8))] H) H) fun x23 H =>
  bnd (gd (wantV x22 true) (pS (aun .not x23) H) H) fun x24 H =>
  bnd (pickS x22 x24 (Value.bool false) H) fun x25 H =>
  bnd (some (x25, H)) fun x26 H =>
  bnd (gd (wantV x26 true) (C 10 [(Value.int .i64 (30))] H) H) fun x27 H =>
  bnd (gd (wantV x26 true) (pS (aun .not x27) H) H) fun x28 H =>
  bnd (pickS x26 x28 (Value.bool false) H) fun x29 H =>
  bnd (some (x29, H)) fun x30 H =>
  bnd (gd (wantV x30 true) (C 14 [(Value.int .i64 (-6))] H) H) fun x31 H =>
  bnd (gd (wantV x30 true) (pS (abin Try.prog .eql 3 x31 (Value.int .i64 (0))) H) H) fun x32 H =>
  bnd (pickS x30 x32 (Value.bool false) H) fun x33 H =>
  bnd (some (x33, H)) fun x34 H =>
  some (x34, H)

theorem F8_eq (G : Oracle) (n : Nat) (H : Heap) : acall Try.prog (badOf Try.prog) G (n + 1) 8 [] H = F8 (acall Try.prog (badOf Try.prog) G n) n H := by
  rw [acall_k (fn := Try.f8) (keep := [0]) (by kernel_rfl) (by kernel_rfl) (by kernel_rfl)]
  kernel_rfl

/-- ordinate/ref.Of -/
noncomputable def F9 (C : Oracle) (n : Nat) (a0 a1 : Value) (H : Heap) : Option (Value × Heap) :=
  bnd (some ((Value.int .i64 (0)), H)) fun x0 H =>
  bnd (some (a0, H)) fun x1 H =>
  bnd (some (a1, H)) fun x2 H =>
  bnd (C 18 [x1, x2] H) fun x3 H =>
  bnd (pS (aun .not x3) H) fun x4 H =>
  brB x4 (bnd (some ((Value.int .i64 (0)), H)) fun x5 H =>
  some (x5, H)) (
  bnd (some (a1, H)) fun x6 H =>
  bnd (pS (abin Try.prog .shl 2 x6 (Value.int .u64 (3))) H) fun x7 H =>
  bnd (some (a0, H)) fun x8 H =>
  bnd (pS (abin Try.prog .or 2 x7 x8) H) fun x9 H =>
  bnd (some (x9, H)) fun x10 H =>
  some (x10, H))

theorem F9_eq (G : Oracle) (n : Nat) (a0 a1 : Value) (H : Heap) : acall Try.prog (badOf Try.prog) G (n + 1) 9 [a0, a1] H = F9 (acall Try.prog (badOf Try.prog) G n) n a0 a1 H := by
  rw [acall_k (fn := Try.f9) (keep := [0, 1, 4, 8]) (by kernel_rfl) (by kernel_rfl) (by kernel_rfl)]
  kernel_rfl

/-- ordinate/ref.Right -/
noncomputable def F10 (C : Oracle) (n : Nat) (a0 : Value) (H : Heap) : Option (Value × Heap) :=
  bnd (some ((Value.bool false), H)) fun x0 H =>
  bnd (some (a0, H)) fun x1 H =>
  bnd (C 19 [x1] H) fun x2 H =>
  bnd (some (x2, H)) fun x3 H =>
  bnd (extS 0 x3 H) fun x4 H =>
  bnd (extS 1 x3 H) fun x5 H =>
  bnd (extS 2 x3 H) fun x6 H =>
  bnd (some (x4, H)) fun x7 H =>
  bnd (some (x5, H)) fun x8 H =>
  bnd (some (x6, H)) fun x9 H =>
  bnd (some (x9, H)) fun x10 H =>
  bnd (some (x10, H)) fun x11 H =>
  some (x11, H)

theorem F10_eq (G : Oracle) (n : Nat) (a0 : Value) (H : Heap) : acall Try.prog (badOf Try.prog) G (n + 1) 10 [a0] H = F10 (acall Try.prog (badOf Try.prog) G n) n a0 H := by
  rw [acall_k (fn := Try.f10) (keep := [0, 2, 5]) (by kernel_rfl) (by kernel_rfl) (by kernel_rfl)]
  kernel_rfl

/-- ordinate/ref.At -/
noncomputable def F11 (C : Oracle) (n : Nat) (a0 : Value) (H : Heap) : Option (Value × Heap) :=
  bnd (some ((Value.int .i64 (0)), H)) fun x0 H =>
  bnd (some (a0, H)) fun x1 H =>
  bnd (C 19 [x1] H) fun x2 H =>
  bnd (some (x2, H)) fun x3 H =>
  bnd (extS 0 x3 H) fun x4 H =>
  bnd (extS 1 x3 H) fun x5 H =>
  bnd (extS 2 x3 H) fun x6 H =>
  bnd (some (x4, H)) fun x7 H =>
  bnd (some (x5, H)) fun x8 H =>
  bnd (some (x6, H)) fun x9 H =>
  bnd (some (x8, H)) fun x10 H =>
  bnd (some (x10, H)) fun x11 H =>
  some (x11, H)

theorem F11_eq (G : Oracle) (n : Nat) (a0 : Value) (H : Heap) : acall Try.prog (badOf Try.prog) G (n + 1) 11 [a0] H = F11 (acall Try.prog (badOf Try.prog) G n) n a0 H := by
  rw [acall_k (fn := Try.f11) (keep := [0, 2, 4]) (by kernel_rfl) (by kernel_rfl) (by kernel_rfl)]
  kernel_rfl

/-- ordinate/ref.Kind -/
noncomputable def F14 (C : Oracle) (n : Nat) (a0 : Value) (H : Heap) : Option (Value × Heap) :=
  bnd (some ((Value.int .i64 (0)), H)) fun x0 H =>
  bnd (some (a0, H)) fun x1 H =>
  bnd (C 19 [x1] H) fun x2 H =>
  bnd (some (x2, H)) fun x3 H =>
  bnd (extS 0 x3 H) fun x4 H =>
  bnd (extS 1 x3 H) fun x5 H =>
  bnd (extS 2 x3 H) fun x6 H =>
  bnd (some (x4, H)) fun x7 H =>
  bnd (some (x5, H)) fun x8 H =>
  bnd (some (x6, H)) fun x9 H =>
  bnd (some (x7, H)) fun x10 H =>
  bnd (some (x10, H)) fun x11 H =>
  some (x11, H)

theorem F14_eq (G : Oracle) (n : Nat) (a0 : Value) (H : Heap) : acall Try.prog (badOf Try.prog) G (n + 1) 14 [a0] H = F14 (acall Try.prog (badOf Try.prog) G n) n a0 H := by
  rw [acall_k (fn := Try.f14) (keep := [0, 2, 3]) (by kernel_rfl) (by kernel_rfl) (by kernel_rfl)]
  kernel_rfl

/-- ordinate/ref.may -/
noncomputable def F18 (C : Oracle) (n : Nat) (a0 a1 : Value) (H : Heap) : Option (Value × Heap) :=
  bnd (some ((Value.bool false), H)) fun x0 H =>
  bnd (some (a0, H)) fun x1 H =>
  bnd (pS (abin Try.prog .geq 3 x1 (Value.int .i64 (1))) H) fun x2 H =>
  bnd (some (x2, H)) fun x3 H =>
  bnd (gd (wantV x3 true) (some (a0, H)) H) fun x4 H =>
  bnd (gd (wantV x3 true) (pS (abin Try.prog .leq 3 x4 (Value.int .i64 (5))) H) H) fun x5 H =>
  bnd (pickS x3 x5 (Value.bool false) H) fun x6 H =>
  bnd (some (x6, H)) fun x7 H =>
  bnd (gd (wantV x7 true) (some (a1, H)) H) fun x8 H =>
  bnd (gd (wantV x7 true) (pS (abin Try.prog .geq 3 x8 (Value.int .i64 (1))) H) H) fun x9 H =>
  bnd (pickS x7 x9 (Value.bool false) H) fun x10 H =>
  bnd (some (x10, H)) fun x11 H =>
  bnd (gd (wantV x11 true) (some (a1, H)) H) fun x12 H =>
  bnd (gd (wantV x11 true) (pS (abin Try.prog .leq 3 x12 (Value.int .i64 (65536))) H) H) fun x13 H =>
  bnd (pickS x11 x13 (Value.bool false) H) fun x14 H =>
  bnd (some (x14, H)) fun x15 H =>
  some (x15, H)

theorem F18_eq (G : Oracle) (n : Nat) (a0 a1 : Value) (H : Heap) : acall Try.prog (badOf Try.prog) G (n + 1) 18 [a0, a1] H = F18 (acall Try.prog (badOf Try.prog) G n) n a0 a1 H := by
  rw [acall_k (fn := Try.f18) (keep := [0, 1, 4]) (by kernel_rfl) (by kernel_rfl) (by kernel_rfl)]
  kernel_rfl

/-- ordinate/ref.parts -/
noncomputable def F19 (C : Oracle) (n : Nat) (a0 : Value) (H : Heap) : Option (Value × Heap) :=
  bnd (some ((Value.int .i64 (0)), H)) fun x0 H =>
  bnd (some ((Value.int .i64 (0)), H)) fun x1 H =>
  bnd (some ((Value.bool false), H)) fun x2 H =>
  bnd (some (a0, H)) fun x3 H =>
  bnd (pS (abin Try.prog .lss 2 x3 (Value.int .i64 (0))) H) fun x4 H =>
  bnd (some (x4, H)) fun x5 H =>
  bnd (gd (wantV x5 false) (some (a0, H)) H) fun x6 H =>
  bnd (gd (wantV x5 false) (pS (abin Try.prog .gtr 2 x6 (Value.int .i64 (524296))) H) H) fun x7 H =>
  bnd (pickS x5 (Value.bool true) x7 H) fun x8 H =>
  brB x8 (bnd (some ((Value.int .i64 (0)), H)) fun x9 H =>
  bnd (some ((Value.int .i64 (0)), H)) fun x10 H =>
  bnd (some ((Value.bool false), H)) fun x11 H =>
  some (Value.tuple #[x9, x10, x11], H)) (
  bnd (some (a0, H)) fun x12 H =>
  bnd (pS (abin Try.prog .and 2 x12 (Value.int .i64 (7))) H) fun x13 H =>
  bnd (some (a0, H)) fun x14 H =>
  bnd (pS (abin Try.prog .shr 2 x14 (Value.int .u64 (3))) H) fun x15 H =>
  bnd (some (x13, H)) fun x16 H =>
  bnd (some (x15, H)) fun x17 H =>
  bnd (some (x16, H)) fun x18 H =>
  bnd (some (x17, H)) fun x19 H =>
  bnd (C 18 [x18, x19] H) fun x20 H =>
  bnd (pS (aun .not x20) H) fun x21 H =>
  brB x21 (bnd (some ((Value.int .i64 (0)), H)) fun x22 H =>
  bnd (some ((Value.int .i64 (0)), H)) fun x23 H =>
  bnd (some ((Value.bool false), H)) fun x24 H =>
  some (Value.tuple #[x22, x23, x24], H)) (
  bnd (some (x16, H)) fun x25 H =>
  bnd (some (x17, H)) fun x26 H =>
  bnd (some (x25, H)) fun x27 H =>
  bnd (some (x26, H)) fun x28 H =>
  bnd (some ((Value.bool true), H)) fun x29 H =>
  some (Value.tuple #[x27, x28, x29], H)))

theorem F19_eq (G : Oracle) (n : Nat) (a0 : Value) (H : Heap) : acall Try.prog (badOf Try.prog) G (n + 1) 19 [a0] H = F19 (acall Try.prog (badOf Try.prog) G n) n a0 H := by
  rw [acall_k (fn := Try.f19) (keep := [0, 2, 3, 4, 12, 5, 6, 20]) (by kernel_rfl) (by kernel_rfl) (by kernel_rfl)]
  kernel_rfl

end Go.Proofs.Ytijdflmcabfkgaa.Fun
