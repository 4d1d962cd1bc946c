/- The program's functions as plain terms, each with its equation; printed by wip/am/fun.py. -/
import Derived.Test.YtgakioiplkehgaaFunK
namespace Go.Proofs.Ytgakioiplkehgaa.Fun
open Go.RowKit Go.Proofs.YtgakioiplkehgaaA.Am
set_option linter.unusedVariables false
set_option maxRecDepth 10000
abbrev F5_st (v0 : Value := undef) (v1 : Value := undef) (v2 : Value := undef) (v3 : Value := undef) (v4 : Value := undef) (v10 : Value := undef) (v15 : Value := undef) (v11 : Value := undef) (v20 : Value := undef) (v24 : Value := undef) (v8 : Value := undef) (v12 : Value := undef) : List Value := [v0, v1, v2, v3, v4, v10, v15, v11, v20, v24, v8, v12]

noncomputable def F5_j1 (C : Oracle) (n : Nat) (vs : List Value) (H : Heap) : Option (Value × Heap) :=
  bnd (abuildSlice Try.prog 27 0 [] H) fun x9 H =>
  bnd (some ((sl [0, 1, 2, 3, 4, 10, 15, 11, 20, 24, 8, 12] vs 11), H)) fun x10 H =>
  bnd (appS 26 2 16 x9 x10 H) fun x11 H =>
  bnd (some (x11, H)) fun x12 H =>
  bnd (C 8 [] H) fun x13 Hx13 =>
  bnd (some (x13, Hx13)) fun x14 Hx14 =>
  bnd (gd (wantV x14 true) (some (x12, Hx14)) Hx14) fun x15 Hx15 =>
  bnd (gd (wantV x14 true) (pS (ldn 3 (sl [0, 1, 2, 3, 4, 10, 15, 11, 20, 24, 8, 12] vs 8) Hx15) Hx15) Hx15) fun x16 Hx16 =>
  bnd (gd (wantV x14 true) (C 13 [x15, x16] Hx16) Hx16) fun x17 Hx17 =>
  bnd (gd (wantV x14 true) (some ((sl [0, 1, 2, 3, 4, 10, 15, 11, 20, 24, 8, 12] vs 11), Hx17)) Hx17) fun x18 Hx18 =>
  bnd (gd (wantV x14 true) (pS (ldn 3 (sl [0, 1, 2, 3, 4, 10, 15, 11, 20, 24, 8, 12] vs 8) Hx18) Hx18) Hx18) fun x19 Hx19 =>
  bnd (gd (wantV x14 true) (C 14 [x18, x19] Hx19) Hx19) fun x20 Hx20 =>
  bnd (gd (wantV x14 true) (C 12 [x17, x20] Hx20) Hx20) fun x21 Hx21 =>
  bnd (pickS x14 x21 (Value.bool false) Hx21) fun x22 Hx22 =>
  bnd (some (x22, Hx22)) fun x23 Hx23 =>
  bnd (gd (wantV x23 true) (some (x12, Hx23)) Hx23) fun x24 Hx24 =>
  bnd (gd (wantV x23 true) (pS (ldn 3 (sl [0, 1, 2, 3, 4, 10, 15, 11, 20, 24, 8, 12] vs 8) Hx24) Hx24) Hx24) fun x25 Hx25 =>
  bnd (gd (wantV x23 true) (C 16 [x24, x25] Hx25) Hx25) fun x26 Hx26 =>
  bnd (gd (wantV x23 true) (some ((sl [0, 1, 2, 3, 4, 10, 15, 11, 20, 24, 8, 12] vs 11), Hx26)) Hx26) fun x27 Hx27 =>
  bnd (gd (wantV x23 true) (pS (ldn 3 (sl [0, 1, 2, 3, 4, 10, 15, 11, 20, 24, 8, 12] vs 8) Hx27) Hx27) Hx27) fun x28 Hx28 =>
  bnd (gd (wantV x23 true) (C 17 [x27, x28] Hx28) Hx28) fun x29 Hx29 =>
  bnd (gd (wantV x23 true) (C 15 [x26, x29] Hx29) Hx29) fun x30 Hx30 =>
  bnd (pickS x23 x30 (Value.bool false) Hx30) fun x31 Hx31 =>
  bnd (some (x31, Hx31)) fun x32 Hx32 =>
  bnd (gd (wantV x32 true) (some (x12, Hx32)) Hx32) fun x33 Hx33 =>
  bnd (gd (wantV x32 true) (some ((sl [0, 1, 2, 3, 4, 10, 15, 11, 20, 24, 8, 12] vs 11), Hx33)) Hx33) fun x34 Hx34 =>
  bnd (gd (wantV x32 true) (C 15 [x33, x34] Hx34) Hx34) fun x35 Hx35 =>
  bnd (pickS x32 x35 (Value.bool false) Hx35) fun x36 Hx36 =>
  bnd (some (x36, Hx36)) fun x37 Hx37 =>
  if (cfS (wantV x14 true) (wantV x14 true) (pS (ldn 3 (sl [0, 1, 2, 3, 4, 10, 15, 11, 20, 24, 8, 12] vs 8) Hx18) Hx18) (pS (ldn 3 (sl [0, 1, 2, 3, 4, 10, 15, 11, 20, 24, 8, 12] vs 8) Hx16) Hx16) (pS (ldn 3 (sl [0, 1, 2, 3, 4, 10, 15, 11, 20, 24, 8, 12] vs 8) Hx17) Hx17) && (cfS (wantV x23 true) (wantV x23 true) (pS (ldn 3 (sl [0, 1, 2, 3, 4, 10, 15, 11, 20, 24, 8, 12] vs 8) Hx27) Hx27) (pS (ldn 3 (sl [0, 1, 2, 3, 4, 10, 15, 11, 20, 24, 8, 12] vs 8) Hx25) Hx25) (pS (ldn 3 (sl [0, 1, 2, 3, 4, 10, 15, 11, 20, 24, 8, 12] vs 8) Hx26) Hx26) && true)) = true then (fun H =>
  some (x37, H)) Hx37 else none

noncomputable def F5_j1v (C : Oracle) (n : Nat) (v0 v1 v2 v3 v4 v10 v15 v11 v20 v24 v8 v12 : Value) (H : Heap) : Option (Value × Heap) :=
  bnd (abuildSlice Try.prog 27 0 [] H) fun x9 H =>
  bnd (some (v11, H)) fun x10 H =>
  bnd (appS 26 2 16 x9 x10 H) fun x11 H =>
  bnd (some (x11, H)) fun x12 H =>
  bnd (C 8 [] H) fun x13 Hx13 =>
  bnd (some (x13, Hx13)) fun x14 Hx14 =>
  bnd (gd (wantV x14 true) (some (x12, Hx14)) Hx14) fun x15 Hx15 =>
  bnd (gd (wantV x14 true) (pS (ldn 3 v8 Hx15) Hx15) Hx15) fun x16 Hx16 =>
  bnd (gd (wantV x14 true) (C 13 [x15, x16] Hx16) Hx16) fun x17 Hx17 =>
  bnd (gd (wantV x14 true) (some (v11, Hx17)) Hx17) fun x18 Hx18 =>
  bnd (gd (wantV x14 true) (pS (ldn 3 v8 Hx18) Hx18) Hx18) fun x19 Hx19 =>
  bnd (gd (wantV x14 true) (C 14 [x18, x19] Hx19) Hx19) fun x20 Hx20 =>
  bnd (gd (wantV x14 true) (C 12 [x17, x20] Hx20) Hx20) fun x21 Hx21 =>
  bnd (pickS x14 x21 (Value.bool false) Hx21) fun x22 Hx22 =>
  bnd (some (x22, Hx22)) fun x23 Hx23 =>
  bnd (gd (wantV x23 true) (some (x12, Hx23)) Hx23) fun x24 Hx24 =>
  bnd (gd (wantV x23 true) (pS (ldn 3 v8 Hx24) Hx24) Hx24) fun x25 Hx25 =>
  bnd (gd (wantV x23 true) (C 16 [x24, x25] Hx25) Hx25) fun x26 Hx26 =>
  bnd (gd (wantV x23 true) (some (v11, Hx26)) Hx26) fun x27 Hx27 =>
  bnd (gd (wantV x23 true) (pS (ldn 3 v8 Hx27) Hx27) Hx27) fun x28 Hx28 =>
  bnd (gd (wantV x23 true) (C 17 [x27, x28] Hx28) Hx28) fun x29 Hx29 =>
  bnd (gd (wantV x23 true) (C 15 [x26, x29] Hx29) Hx29) fun x30 Hx30 =>
  bnd (pickS x23 x30 (Value.bool false) Hx30) fun x31 Hx31 =>
  bnd (some (x31, Hx31)) fun x32 Hx32 =>
  bnd (gd (wantV x32 true) (some (x12, Hx32)) Hx32) fun x33 Hx33 =>
  bnd (gd (wantV x32 true) (some (v11, Hx33)) Hx33) fun x34 Hx34 =>
  bnd (gd (wantV x32 true) (C 15 [x33, x34] Hx34) Hx34) fun x35 Hx35 =>
  bnd (pickS x32 x35 (Value.bool false) Hx35) fun x36 Hx36 =>
  bnd (some (x36, Hx36)) fun x37 Hx37 =>
  if (cfS (wantV x14 true) (wantV x14 true) (pS (ldn 3 v8 Hx18) Hx18) (pS (ldn 3 v8 Hx16) Hx16) (pS (ldn 3 v8 Hx17) Hx17) && (cfS (wantV x23 true) (wantV x23 true) (pS (ldn 3 v8 Hx27) Hx27) (pS (ldn 3 v8 Hx25) Hx25) (pS (ldn 3 v8 Hx26) Hx26) && true)) = true then (fun H =>
  some (x37, H)) Hx37 else none

theorem F5_j1_v (C : Oracle) (n : Nat) (v0 v1 v2 v3 v4 v10 v15 v11 v20 v24 v8 v12 : Value) (H : Heap) : F5_j1 C n [v0, v1, v2, v3, v4, v10, v15, v11, v20, v24, v8, v12] H = F5_j1v C n v0 v1 v2 v3 v4 v10 v15 v11 v20 v24 v8 v12 H := by
  kernel_rfl

noncomputable def F5_j0 (C : Oracle) (n : Nat) (vs : List Value) (H : Heap) : Option (Value × Heap) :=
  bnd (some ((sl [0, 1, 2, 3, 4, 10, 15, 11, 20, 24, 8, 12] vs 11), H)) fun x4 H =>
  bnd (pS (slen x4) H) fun x5 H =>
  bnd (pS (abin Try.prog .gtr 3 x5 (Value.int .i64 (200))) H) fun x6 H =>
  brB x6 (bnd (C 8 [] H) fun x7 H =>
  bnd (some (x7, H)) fun x8 H =>
  some (x8, H)) (
  bnd (some ((sl [0, 1, 2, 3, 4, 10, 15, 11, 20, 24, 8, 12] vs 4), H)) fun x38 H =>
  bnd (pS (abin Try.prog .rem 3 x38 (Value.int .i64 (3))) H) fun x39 H =>
  bnd (pS (abin Try.prog .neq 3 x39 (Value.int .i64 (0))) H) fun x40 H =>
  brB x40 (bnd (some ((sl [0, 1, 2, 3, 4, 10, 15, 11, 20, 24, 8, 12] vs 4), H)) fun x41 H =>
  bnd (pS (abin Try.prog .quo 3 x41 (Value.int .i64 (3))) H) fun x42 H =>
  bnd (C 9 [x42, (Value.int .i64 (10))] H) fun x43 H =>
  bnd (pS (abin Try.prog .add 3 (Value.int .i64 (1)) x43) H) fun x44 H =>
  bnd (some ((sl [0, 1, 2, 3, 4, 10, 15, 11, 20, 24, 8, 12] vs 4), H)) fun x45 H =>
  bnd (pS (abin Try.prog .quo 3 x45 (Value.int .i64 (30))) H) fun x46 H =>
  bnd (C 9 [x46, (Value.int .i64 (90))] H) fun x47 H =>
  bnd (pS (abin Try.prog .sub 3 x47 (Value.int .i64 (40))) H) fun x48 H =>
  bnd (some ((sl [0, 1, 2, 3, 4, 10, 15, 11, 20, 24, 8, 12] vs 4), H)) fun x49 H =>
  bnd (pS (abin Try.prog .quo 3 x49 (Value.int .i64 (2700))) H) fun x50 H =>
  bnd (C 9 [x50, (Value.int .i64 (90))] H) fun x51 H =>
  bnd (pS (abin Try.prog .sub 3 x51 (Value.int .i64 (40))) H) fun x52 H =>
  bnd (pS (abuild Try.prog 23 [(0, x44), (1, x48), (2, x52)]) H) fun x53 H =>
  bnd (stS 3 (sl [0, 1, 2, 3, 4, 10, 15, 11, 20, 24, 8, 12] vs 8) x53 H) fun x54 H =>
  F5_j1 C n [(sl [0, 1, 2, 3, 4, 10, 15, 11, 20, 24, 8, 12] vs 0), (sl [0, 1, 2, 3, 4, 10, 15, 11, 20, 24, 8, 12] vs 1), (sl [0, 1, 2, 3, 4, 10, 15, 11, 20, 24, 8, 12] vs 2), (sl [0, 1, 2, 3, 4, 10, 15, 11, 20, 24, 8, 12] vs 3), (sl [0, 1, 2, 3, 4, 10, 15, 11, 20, 24, 8, 12] vs 4), (sl [0, 1, 2, 3, 4, 10, 15, 11, 20, 24, 8, 12] vs 10), (sl [0, 1, 2, 3, 4, 10, 15, 11, 20, 24, 8, 12] vs 15), (sl [0, 1, 2, 3, 4, 10, 15, 11, 20, 24, 8, 12] vs 11), x6, x40, (sl [0, 1, 2, 3, 4, 10, 15, 11, 20, 24, 8, 12] vs 8), (sl [0, 1, 2, 3, 4, 10, 15, 11, 20, 24, 8, 12] vs 12)] H) (
  F5_j1 C n [(sl [0, 1, 2, 3, 4, 10, 15, 11, 20, 24, 8, 12] vs 0), (sl [0, 1, 2, 3, 4, 10, 15, 11, 20, 24, 8, 12] vs 1), (sl [0, 1, 2, 3, 4, 10, 15, 11, 20, 24, 8, 12] vs 2), (sl [0, 1, 2, 3, 4, 10, 15, 11, 20, 24, 8, 12] vs 3), (sl [0, 1, 2, 3, 4, 10, 15, 11, 20, 24, 8, 12] vs 4), (sl [0, 1, 2, 3, 4, 10, 15, 11, 20, 24, 8, 12] vs 10), (sl [0, 1, 2, 3, 4, 10, 15, 11, 20, 24, 8, 12] vs 15), (sl [0, 1, 2, 3, 4, 10, 15, 11, 20, 24, 8, 12] vs 11), x6, x40, (sl [0, 1, 2, 3, 4, 10, 15, 11, 20, 24, 8, 12] vs 8), (sl [0, 1, 2, 3, 4, 10, 15, 11, 20, 24, 8, 12] vs 12)] H))

noncomputable def F5_j0v (C : Oracle) (n : Nat) (v0 v1 v2 v3 v4 v10 v15 v11 v20 v24 v8 v12 : Value) (H : Heap) : Option (Value × Heap) :=
  bnd (some (v11, H)) fun x4 H =>
  bnd (pS (slen x4) H) fun x5 H =>
  bnd (pS (abin Try.prog .gtr 3 x5 (Value.int .i64 (200))) H) fun x6 H =>
  brB x6 (bnd (C 8 [] H) fun x7 H =>
  bnd (some (x7, H)) fun x8 H =>
  some (x8, H)) (
  bnd (some (v4, H)) fun x38 H =>
  bnd (pS (abin Try.prog .rem 3 x38 (Value.int .i64 (3))) H) fun x39 H =>
  bnd (pS (abin Try.prog .neq 3 x39 (Value.int .i64 (0))) H) fun x40 H =>
  brB x40 (bnd (some (v4, H)) fun x41 H =>
  bnd (pS (abin Try.prog .quo 3 x41 (Value.int .i64 (3))) H) fun x42 H =>
  bnd (C 9 [x42, (Value.int .i64 (10))] H) fun x43 H =>
  bnd (pS (abin Try.prog .add 3 (Value.int .i64 (1)) x43) H) fun x44 H =>
  bnd (some (v4, H)) fun x45 H =>
  bnd (pS (abin Try.prog .quo 3 x45 (Value.int .i64 (30))) H) fun x46 H =>
  bnd (C 9 [x46, (Value.int .i64 (90))] H) fun x47 H =>
  bnd (pS (abin Try.prog .sub 3 x47 (Value.int .i64 (40))) H) fun x48 H =>
  bnd (some (v4, H)) fun x49 H =>
  bnd (pS (abin Try.prog .quo 3 x49 (Value.int .i64 (2700))) H) fun x50 H =>
  bnd (C 9 [x50, (Value.int .i64 (90))] H) fun x51 H =>
  bnd (pS (abin Try.prog .sub 3 x51 (Value.int .i64 (40))) H) fun x52 H =>
  bnd (pS (abuild Try.prog 23 [(0, x44), (1, x48), (2, x52)]) H) fun x53 H =>
  bnd (stS 3 v8 x53 H) fun x54 H =>
  F5_j1 C n [v0, v1, v2, v3, v4, v10, v15, v11, x6, x40, v8, v12] H) (
  F5_j1 C n [v0, v1, v2, v3, v4, v10, v15, v11, x6, x40, v8, v12] H))

theorem F5_j0_v (C : Oracle) (n : Nat) (v0 v1 v2 v3 v4 v10 v15 v11 v20 v24 v8 v12 : Value) (H : Heap) : F5_j0 C n [v0, v1, v2, v3, v4, v10, v15, v11, v20, v24, v8, v12] H = F5_j0v C n v0 v1 v2 v3 v4 v10 v15 v11 v20 v24 v8 v12 H := by
  kernel_rfl

noncomputable def F5 (C : Oracle) (n : Nat) (a0 a1 a2 a3 a4 : Value) (H : Heap) : Option (Value × Heap) :=
  bnd (boxS 23 a3 H) fun x0 H =>
  bnd (some ((Value.bool false), H)) fun x1 H =>
  bnd (some (a0, H)) fun x2 H =>
  bnd (some (x2, H)) fun x3 H =>
  bnd (some (a2, H)) fun x55 H =>
  bnd (pS (aun .not x55) H) fun x56 H =>
  brB x56 (bnd (some (a1, H)) fun x57 H =>
  bnd (C 11 [x57] H) fun x58 H =>
  bnd (some (x58, H)) fun x59 H =>
  F5_j0 C n [a0, a1, a2, a3, a4, x1, x56, x59, undef, undef, x0, undef] H) (
  F5_j0 C n [a0, a1, a2, a3, a4, x1, x56, x3, undef, undef, x0, undef] H)

theorem F5_eq (G : Oracle) (n : Nat) (a0 a1 a2 a3 a4 : Value) (H : Heap) : run G (n + 1) 5 [a0, a1, a2, a3, a4] H = F5 (run G n) n a0 a1 a2 a3 a4 H := by
  unfold run; rw [acall_k (fn := Try.f5) (keep := [0, 1, 2, 3, 4, 10, 15, 11, 20, 24, 8, 12]) (notBad 5 rfl) (by kernel_rfl) (by kernel_rfl)]
  kernel_rfl

end Go.Proofs.Ytgakioiplkehgaa.Fun
