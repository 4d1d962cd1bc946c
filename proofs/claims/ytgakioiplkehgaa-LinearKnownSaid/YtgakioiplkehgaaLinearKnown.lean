/- LinearKnown over the abstract machine: closed; the logs are made by the kernel, and checked by what linear.Check comes to. -/
--STRICT
import Derived.Test.YtgakioiplkehgaaFunLinearKnown
import Derived.Test.YtgakioiplkehgaaLinL
import Derived.Test.YtgakioiplkehgaaFunLinearKnown
namespace Go.Proofs.Ytgakioiplkehgaa.Fun
open Go Go.RowKit Go.Proofs.YtgakioiplkehgaaA.Am
set_option linter.unusedVariables false
set_option linter.unusedSimpArgs false
set_option linter.unnecessarySimpa false
set_option maxRecDepth 10000
noncomputable def F3pre (H : Heap) : Option (List Value × Heap) :=
  bnd (some ((Value.bool false), H)) fun x0 H =>
  bnd (pS (abuild Try.prog 23 [(0, (Value.int .i64 (1))), (1, (Value.int .i64 (1))), (2, (Value.int .i64 (10)))]) H) fun x1 H =>
  bnd (pS (abuild Try.prog 31 [(0, (Value.int .i64 (1))), (3, x1)]) H) fun x2 H =>
  bnd (some (newBlk H 31 1 [(Value.int .i64 (0)), (Value.int .i64 (0)), (Value.int .i64 (0)), (Value.int .i64 (0)), (Value.int .i64 (0)), (Value.int .i64 (0)), (Value.int .i64 (0)), (Value.bool false), (Value.int .i64 (0)), (Value.int .i64 (0)), (Value.int .i64 (0)), (Value.slice none 0 0), (Value.int .i64 (0))])) fun x3 H =>
  bnd (stS 13 x3 x2 H) fun x4 H =>
  bnd (pS (abuild Try.prog 23 [(0, (Value.int .i64 (9))), (1, (Value.int .i64 (0))), (2, (Value.int .i64 (9)))]) H) fun x5 H =>
  bnd (pS (abuild Try.prog 31 [(0, (Value.int .i64 (1))), (1, (Value.int .i64 (1))), (2, (Value.int .i64 (1))), (3, x5)]) H) fun x6 H =>
  bnd (some (newBlk H 31 1 [(Value.int .i64 (0)), (Value.int .i64 (0)), (Value.int .i64 (0)), (Value.int .i64 (0)), (Value.int .i64 (0)), (Value.int .i64 (0)), (Value.int .i64 (0)), (Value.bool false), (Value.int .i64 (0)), (Value.int .i64 (0)), (Value.int .i64 (0)), (Value.slice none 0 0), (Value.int .i64 (0))])) fun x7 H =>
  bnd (stS 13 x7 x6 H) fun x8 H =>
  bnd (pS (abuild Try.prog 31 [(0, (Value.int .i64 (2)))]) H) fun x9 H =>
  bnd (some (newBlk H 31 1 [(Value.int .i64 (0)), (Value.int .i64 (0)), (Value.int .i64 (0)), (Value.int .i64 (0)), (Value.int .i64 (0)), (Value.int .i64 (0)), (Value.int .i64 (0)), (Value.bool false), (Value.int .i64 (0)), (Value.int .i64 (0)), (Value.int .i64 (0)), (Value.slice none 0 0), (Value.int .i64 (0))])) fun x10 H =>
  bnd (stS 13 x10 x9 H) fun x11 H =>
  bnd (pS (abuild Try.prog 31 [(0, (Value.int .i64 (3)))]) H) fun x12 H =>
  bnd (some (newBlk H 31 1 [(Value.int .i64 (0)), (Value.int .i64 (0)), (Value.int .i64 (0)), (Value.int .i64 (0)), (Value.int .i64 (0)), (Value.int .i64 (0)), (Value.int .i64 (0)), (Value.bool false), (Value.int .i64 (0)), (Value.int .i64 (0)), (Value.int .i64 (0)), (Value.slice none 0 0), (Value.int .i64 (0))])) fun x13 H =>
  bnd (stS 13 x13 x12 H) fun x14 H =>
  bnd (pS (abuild Try.prog 31 [(0, (Value.int .i64 (3))), (1, (Value.int .i64 (1))), (2, (Value.int .i64 (1)))]) H) fun x15 H =>
  bnd (some (newBlk H 31 1 [(Value.int .i64 (0)), (Value.int .i64 (0)), (Value.int .i64 (0)), (Value.int .i64 (0)), (Value.int .i64 (0)), (Value.int .i64 (0)), (Value.int .i64 (0)), (Value.bool false), (Value.int .i64 (0)), (Value.int .i64 (0)), (Value.int .i64 (0)), (Value.slice none 0 0), (Value.int .i64 (0))])) fun x16 H =>
  bnd (stS 13 x16 x15 H) fun x17 H =>
  bnd (pS (ldn 13 x16 H) H) fun x18 H =>
  bnd (some (newBlk H 31 1 [(Value.int .i64 (0)), (Value.int .i64 (0)), (Value.int .i64 (0)), (Value.int .i64 (0)), (Value.int .i64 (0)), (Value.int .i64 (0)), (Value.int .i64 (0)), (Value.bool false), (Value.int .i64 (0)), (Value.int .i64 (0)), (Value.int .i64 (0)), (Value.slice none 0 0), (Value.int .i64 (0))])) fun x19 H =>
  bnd (stS 13 x19 x18 H) fun x20 H =>
  bnd (pS (abuild Try.prog 26 [(0, (Value.int .i64 (1))), (1, (Value.int .i64 (10)))]) H) fun x21 H =>
  bnd (abuildSlice Try.prog 27 1 [(0, x21)] H) fun x22 H =>
  bnd (fadS 6 x19 H) fun x23 H =>
  bnd (fadS 5 x23 H) fun x24 H =>
  bnd (stS 1 x24 x22 H) fun x25 H =>
  bnd (pS (ldn 13 x16 H) H) fun x26 H =>
  bnd (some (newBlk H 31 1 [(Value.int .i64 (0)), (Value.int .i64 (0)), (Value.int .i64 (0)), (Value.int .i64 (0)), (Value.int .i64 (0)), (Value.int .i64 (0)), (Value.int .i64 (0)), (Value.bool false), (Value.int .i64 (0)), (Value.int .i64 (0)), (Value.int .i64 (0)), (Value.slice none 0 0), (Value.int .i64 (0))])) fun x27 H =>
  bnd (stS 13 x27 x26 H) fun x28 H =>
  bnd (pS (abuild Try.prog 26 [(0, (Value.int .i64 (2))), (1, (Value.int .i64 (10)))]) H) fun x29 H =>
  bnd (abuildSlice Try.prog 27 1 [(0, x29)] H) fun x30 H =>
  bnd (fadS 6 x27 H) fun x31 H =>
  bnd (fadS 5 x31 H) fun x32 H =>
  bnd (stS 1 x32 x30 H) fun x33 H =>
  bnd (pS (ldn 13 x13 H) H) fun x34 H =>
  bnd (some (newBlk H 31 1 [(Value.int .i64 (0)), (Value.int .i64 (0)), (Value.int .i64 (0)), (Value.int .i64 (0)), (Value.int .i64 (0)), (Value.int .i64 (0)), (Value.int .i64 (0)), (Value.bool false), (Value.int .i64 (0)), (Value.int .i64 (0)), (Value.int .i64 (0)), (Value.slice none 0 0), (Value.int .i64 (0))])) fun x35 H =>
  bnd (stS 13 x35 x34 H) fun x36 H =>
  bnd (pS (abuild Try.prog 26 [(0, (Value.int .i64 (1))), (1, (Value.int .i64 (10)))]) H) fun x37 H =>
  bnd (pS (abuild Try.prog 29 [(1, (Value.bool true)), (2, x37)]) H) fun x38 H =>
  bnd (fadS 6 x35 H) fun x39 H =>
  bnd (stS 6 x39 x38 H) fun x40 H =>
  bnd (pS (ldn 13 x13 H) H) fun x41 H =>
  bnd (some (newBlk H 31 1 [(Value.int .i64 (0)), (Value.int .i64 (0)), (Value.int .i64 (0)), (Value.int .i64 (0)), (Value.int .i64 (0)), (Value.int .i64 (0)), (Value.int .i64 (0)), (Value.bool false), (Value.int .i64 (0)), (Value.int .i64 (0)), (Value.int .i64 (0)), (Value.slice none 0 0), (Value.int .i64 (0))])) fun x42 H =>
  bnd (stS 13 x42 x41 H) fun x43 H =>
  bnd (fadS 6 x42 H) fun x44 H =>
  bnd (fadS 0 x44 H) fun x45 H =>
  bnd (stS 1 x45 (Value.int .i64 (8)) H) fun x46 H =>
  bnd (pS (ldn 13 x16 H) H) fun x47 H =>
  bnd (some (newBlk H 31 1 [(Value.int .i64 (0)), (Value.int .i64 (0)), (Value.int .i64 (0)), (Value.int .i64 (0)), (Value.int .i64 (0)), (Value.int .i64 (0)), (Value.int .i64 (0)), (Value.bool false), (Value.int .i64 (0)), (Value.int .i64 (0)), (Value.int .i64 (0)), (Value.slice none 0 0), (Value.int .i64 (0))])) fun x48 H =>
  bnd (stS 13 x48 x47 H) fun x49 H =>
  bnd (fadS 6 x48 H) fun x50 H =>
  bnd (fadS 0 x50 H) fun x51 H =>
  bnd (stS 1 x51 (Value.int .i64 (9)) H) fun x52 H =>
  bnd (pS (ldn 13 x3 H) H) fun x53 H =>
  bnd (pS (ldn 13 x7 H) H) fun x54 H =>
  bnd (pS (ldn 13 x10 H) H) fun x55 H =>
  bnd (pS (ldn 13 x13 H) H) fun x56 H =>
  bnd (pS (ldn 13 x16 H) H) fun x57 H =>
  bnd (abuildSlice Try.prog 32 5 [(0, x53), (1, x54), (2, x55), (3, x56), (4, x57)] H) fun x58 H =>
  bnd (pS (ldn 13 x3 H) H) fun x59 H =>
  bnd (pS (ldn 13 x7 H) H) fun x60 H =>
  bnd (pS (ldn 13 x10 H) H) fun x61 H =>
  bnd (pS (ldn 13 x13 H) H) fun x62 H =>
  bnd (pS (ldn 13 x19 H) H) fun x63 H =>
  bnd (abuildSlice Try.prog 32 5 [(0, x59), (1, x60), (2, x61), (3, x62), (4, x63)] H) fun x64 H =>
  bnd (pS (ldn 13 x3 H) H) fun x65 H =>
  bnd (pS (ldn 13 x10 H) H) fun x66 H =>
  bnd (pS (ldn 13 x7 H) H) fun x67 H =>
  bnd (pS (ldn 13 x19 H) H) fun x68 H =>
  bnd (abuildSlice Try.prog 32 4 [(0, x65), (1, x66), (2, x67), (3, x68)] H) fun x69 H =>
  bnd (pS (ldn 13 x3 H) H) fun x70 H =>
  bnd (pS (ldn 13 x10 H) H) fun x71 H =>
  bnd (pS (ldn 13 x7 H) H) fun x72 H =>
  bnd (pS (ldn 13 x16 H) H) fun x73 H =>
  bnd (abuildSlice Try.prog 32 4 [(0, x70), (1, x71), (2, x72), (3, x73)] H) fun x74 H =>
  bnd (pS (ldn 13 x3 H) H) fun x75 H =>
  bnd (pS (ldn 13 x7 H) H) fun x76 H =>
  bnd (pS (ldn 13 x10 H) H) fun x77 H =>
  bnd (pS (ldn 13 x27 H) H) fun x78 H =>
  bnd (abuildSlice Try.prog 32 4 [(0, x75), (1, x76), (2, x77), (3, x78)] H) fun x79 H =>
  bnd (pS (ldn 13 x3 H) H) fun x80 H =>
  bnd (pS (ldn 13 x7 H) H) fun x81 H =>
  bnd (pS (ldn 13 x13 H) H) fun x82 H =>
  bnd (abuildSlice Try.prog 32 3 [(0, x80), (1, x81), (2, x82)] H) fun x83 H =>
  bnd (pS (ldn 13 x3 H) H) fun x84 H =>
  bnd (pS (ldn 13 x10 H) H) fun x85 H =>
  bnd (pS (ldn 13 x10 H) H) fun x86 H =>
  bnd (abuildSlice Try.prog 32 3 [(0, x84), (1, x85), (2, x86)] H) fun x87 H =>
  bnd (pS (ldn 13 x3 H) H) fun x88 H =>
  bnd (pS (ldn 13 x10 H) H) fun x89 H =>
  bnd (pS (ldn 13 x35 H) H) fun x90 H =>
  bnd (abuildSlice Try.prog 32 3 [(0, x88), (1, x89), (2, x90)] H) fun x91 H =>
  bnd (pS (ldn 13 x3 H) H) fun x92 H =>
  bnd (pS (ldn 13 x42 H) H) fun x93 H =>
  bnd (pS (ldn 13 x7 H) H) fun x94 H =>
  bnd (pS (ldn 13 x48 H) H) fun x95 H =>
  bnd (abuildSlice Try.prog 32 4 [(0, x92), (1, x93), (2, x94), (3, x95)] H) fun x96 H =>
  bnd (pS (abuild Try.prog 33 [(0, x58), (1, x64), (2, x69), (3, x74), (4, x79), (5, x83), (6, x87), (7, x91), (8, x96)]) H) fun x97 H =>
  bnd (some (newBlk H 33 1 [(Value.slice none 0 0), (Value.slice none 0 0), (Value.slice none 0 0), (Value.slice none 0 0), (Value.slice none 0 0), (Value.slice none 0 0), (Value.slice none 0 0), (Value.slice none 0 0), (Value.slice none 0 0)])) fun x98 H =>
  bnd (stS 9 x98 x97 H) fun x99 H =>
  bnd (pS (abuild Try.prog 34 [(0, (Value.int .i64 (-1))), (1, (Value.int .i64 (-1))), (2, (Value.int .i64 (-1))), (3, (Value.int .i64 (3))), (4, (Value.int .i64 (3))), (5, (Value.int .i64 (2))), (6, (Value.int .i64 (2))), (7, (Value.int .i64 (2))), (8, (Value.int .i64 (-1)))]) H) fun x100 H =>
  bnd (some (newBlk H 34 1 [(Value.int .i64 (0)), (Value.int .i64 (0)), (Value.int .i64 (0)), (Value.int .i64 (0)), (Value.int .i64 (0)), (Value.int .i64 (0)), (Value.int .i64 (0)), (Value.int .i64 (0)), (Value.int .i64 (0))])) fun x101 H =>
  bnd (stS 9 x101 x100 H) fun x102 H =>
  bnd (some ((Value.int .i64 (0)), H)) fun x103 H =>
  some ([x0, x16, x19, x27, x13, x35, x42, x48, x3, x7, x10, x103, undef, x98, x101, undef], H)
noncomputable abbrev F3k (C : Oracle) (n : Nat) : AExit → List Value → Heap → Option (Value × Heap) := (kBlk 0 (kSeq (F3_j1 C n) (kRet Try.prog [.tmp 0] [0, 5, 6, 7, 4, 8, 9, 10, 1, 2, 3, 13, 88, 11, 12, 98])))

theorem known_bad : (ks ++ badOf Try.prog).contains 8 = true := by rw [badIs]; rfl
theorem known_run (n : Nat) (H : Heap) : run KG (n + 1) 8 [] H = some (.bool true, H) := by
  unfold run
  simp only [acall, known_bad, if_true]
  simp [kinG]
theorem F3_split (C : Oracle) (n : Nat) : F3 C n [] = match F3pre [] with | some (vs, H) => onOut (iter n (F3_b0 C n) vs H) (F3k C n) | none => none := by kernel_rfl
noncomputable abbrev preV : List Value × Heap := (F3pre []).getD ([], [])
theorem pre_some : (F3pre []).isSome = true := by kernel_rfl
theorem pre_eq : F3pre [] = some preV := by
  obtain ⟨x, hx⟩ := Option.isSome_iff_exists.1 pre_some
  unfold preV
  rw [hx]; rfl
def op0 : OpV := ⟨0, 0, 0⟩
def ea : EvV := ⟨1, 0, 0, ⟨1, 1, 10⟩, res0, 0⟩
def eb : EvV := ⟨1, 1, 1, ⟨9, 0, 9⟩, res0, 0⟩
def ec : EvV := ⟨2, 0, 0, op0, res0, 0⟩
def ed : EvV := ⟨3, 0, 0, op0, res0, 0⟩
def ee : EvV := ⟨3, 1, 1, op0, res0, 0⟩
def ef : EvV := ⟨3, 1, 1, op0, ⟨0, false, 0, 0, 0, [(1, 10)]⟩, 0⟩
def eg : EvV := ⟨3, 1, 1, op0, ⟨0, false, 0, 0, 0, [(2, 10)]⟩, 0⟩
def eh : EvV := ⟨3, 0, 0, op0, ⟨0, true, 1, 10, 0, []⟩, 0⟩
def ei : EvV := ⟨3, 0, 0, op0, resW 8, 0⟩
def ej : EvV := ⟨3, 1, 1, op0, resW 9, 0⟩
abbrev s6 : Value := .slice (some ⟨6, 0, none⟩) 1 1
abbrev s8 : Value := .slice (some ⟨8, 0, none⟩) 1 1
def logs : List (List (EvV × Value)) := [[(ea, nils), (eb, nils), (ec, nils), (ed, nils), (ee, nils)], [(ea, nils), (eb, nils), (ec, nils), (ed, nils), (ef, s6)], [(ea, nils), (ec, nils), (eb, nils), (ef, s6)], [(ea, nils), (ec, nils), (eb, nils), (ee, nils)], [(ea, nils), (eb, nils), (ec, nils), (eg, s8)],
  [(ea, nils), (eb, nils), (ed, nils)], [(ea, nils), (ec, nils), (ec, nils)], [(ea, nils), (ec, nils), (eh, nils)], [(ea, nils), (ei, nils), (eb, nils), (ej, nils)]]
def want : List Int := [-1, -1, -1, 3, 3, 2, 2, 2, -1]
abbrev sls : List Value := [.slice (some ⟨12, 0, none⟩) 5 5, .slice (some ⟨13, 0, none⟩) 5 5, .slice (some ⟨14, 0, none⟩) 4 4, .slice (some ⟨15, 0, none⟩) 4 4, .slice (some ⟨16, 0, none⟩) 4 4, .slice (some ⟨17, 0, none⟩) 3 3, .slice (some ⟨18, 0, none⟩) 3 3, .slice (some ⟨19, 0, none⟩) 3 3, .slice (some ⟨20, 0, none⟩) 4 4]
theorem vsIs : preV.1 = [.bool false, pv 4, pv 5, pv 7, pv 3, pv 9, pv 10, pv 11, pv 0, pv 1, pv 2, cv 0, undef, pv 21, pv 22, undef] := by kernel_rfl
theorem g6 : preV.2.get 6 = some ⟨[cv 1, cv 10], 26, 2, false⟩ := by kernel_rfl
theorem g8 : preV.2.get 8 = some ⟨[cv 2, cv 10], 26, 2, false⟩ := by kernel_rfl
theorem g0 : preV.2.get 0 = some ⟨evCells ea nils, 31, 1, false⟩ := by kernel_rfl
theorem g21 : (preV.2.get 21).map (fun b => (b.cells, b.es, b.ro)) = some (sls, 1, false) := by kernel_rfl
theorem g22 : (preV.2.get 22).map (fun b => (b.cells, b.es, b.ro)) = some (want.map cv, 1, false) := by kernel_rfl
theorem gl : ∀ i, i < 9 → preV.2.get (12 + i) = some ⟨evs (logs.getD i []), 31, 13, false⟩ ∧ sls[i]? = some (.slice (some ⟨12 + i, 0, none⟩) (logs.getD i []).length (logs.getD i []).length) ∧ check ((logs.getD i []).map fun z => z.1) st0 0 = want.getD i 0 := by
  intro i hi
  match i, hi with
  | 0, _ => exact ⟨by kernel_rfl, rfl, by kernel_rfl⟩
  | 1, _ => exact ⟨by kernel_rfl, rfl, by kernel_rfl⟩
  | 2, _ => exact ⟨by kernel_rfl, rfl, by kernel_rfl⟩
  | 3, _ => exact ⟨by kernel_rfl, rfl, by kernel_rfl⟩
  | 4, _ => exact ⟨by kernel_rfl, rfl, by kernel_rfl⟩
  | 5, _ => exact ⟨by kernel_rfl, rfl, by kernel_rfl⟩
  | 6, _ => exact ⟨by kernel_rfl, rfl, by kernel_rfl⟩
  | 7, _ => exact ⟨by kernel_rfl, rfl, by kernel_rfl⟩
  | 8, _ => exact ⟨by kernel_rfl, rfl, by kernel_rfl⟩
theorem chk1 : check [⟨4, 0, 0, op0, ⟨0, false, 0, 0, 0, [(2, 0), (2, 0)]⟩, 0⟩] st0 0 = 0 := by kernel_rfl
theorem chk2 : check [ea, ⟨4, 0, 0, op0, res0, 0⟩] st0 0 = 1 := by kernel_rfl
theorem bsP2 (H : Heap) : abuildSlice Try.prog 27 2 [(0, .agg #[cv 2, cv 0]), (1, .agg #[cv 2, cv 0])] H = some (.slice (some ⟨H.length, 0, none⟩) 2 2, H.new ⟨[cv 2, cv 0, cv 2, cv 0], 26, 2, false⟩) := by kernel_rfl
theorem abP2 : abuild Try.prog 26 [(0, cv 2)] = some (.agg #[cv 2, cv 0]) := by kernel_rfl
theorem abE4 (a : Option Addr) (m c : Nat) : abuild Try.prog 31 [(0, cv 4), (4, .agg #[cv 0, .bool false, cv 0, cv 0, cv 0, .slice a m c])] = some (.agg #[cv 4, cv 0, cv 0, cv 0, cv 0, cv 0, cv 0, .bool false, cv 0, cv 0, cv 0, .slice a m c, cv 0]) := by kernel_rfl
theorem abE4' : abuild Try.prog 31 [(0, cv 4)] = some (.agg #[cv 4, cv 0, cv 0, cv 0, cv 0, cv 0, cv 0, .bool false, cv 0, cv 0, cv 0, nils, cv 0]) := by kernel_rfl
theorem bsE1 (a : Option Addr) (m c : Nat) (H : Heap) : abuildSlice Try.prog 32 1 [(0, .agg #[cv 4, cv 0, cv 0, cv 0, cv 0, cv 0, cv 0, .bool false, cv 0, cv 0, cv 0, .slice a m c, cv 0])] H =
    some (.slice (some ⟨H.length, 0, none⟩) 1 1, H.new ⟨[cv 4, cv 0, cv 0, cv 0, cv 0, cv 0, cv 0, .bool false, cv 0, cv 0, cv 0, .slice a m c, cv 0], 31, 13, false⟩) := by kernel_rfl
theorem bsE2 (H : Heap) : abuildSlice Try.prog 32 2 [(0, evA ea nils), (1, .agg #[cv 4, cv 0, cv 0, cv 0, cv 0, cv 0, cv 0, .bool false, cv 0, cv 0, cv 0, nils, cv 0])] H =
    some (.slice (some ⟨H.length, 0, none⟩) 2 2, H.new ⟨evs [(ea, nils), (⟨4, 0, 0, op0, res0, 0⟩, nils)], 31, 13, false⟩) := by kernel_rfl
theorem lits {H : Heap} {i : Nat} {es : List (EvV × Value)} {t : TypeId} (h : H.get i = some ⟨evs es, t, 13, false⟩) (hs : ∀ z ∈ es, SlR H o0 (-1) z.2 z.1.res.list) : EvsR H o0 (-1) (-1) (.slice (some ⟨i, 0, none⟩) es.length es.length) (es.map fun z => z.1) :=
  LogR.evs (.inr ⟨i, es.length, [], t, es, by simp, by simpa using h, rfl, by simp, rfl, hs⟩)
theorem small {i : Nat} (hi : i < 9) {z : EvV × Value} (hz : z ∈ logs.getD i []) : (z.1.res.list = [] ∧ z.2 = nils) ∨ (z.1.res.list = [(1, 10)] ∧ z.2 = s6) ∨ (z.1.res.list = [(2, 10)] ∧ z.2 = s8) := by
  match i, hi with
  | 0, _ | 1, _ | 2, _ | 3, _ | 4, _ | 5, _ | 6, _ | 7, _ | 8, _ =>
    simp only [logs, List.getD_cons_zero, List.getD_cons_succ, List.mem_cons, List.not_mem_nil, or_false] at hz
    rcases hz with rfl | rfl | rfl | rfl | rfl <;> simp [ea, eb, ec, ed, ee, ef, eg, eh, ei, ej, res0, resW]
theorem iaa {b i m : Nat} (hi : i < m) (H : Heap) : iaaS m 1 (pv b) (cv i) H = some (.pointer (some ⟨b, i, none⟩), H) := by
  simp only [iaaS]
  rw [if_pos (by constructor <;> omega)]
  simp
theorem sm1 {H : Heap} {b : Nat} {k v : Int} {t : TypeId} {o : Owner} {q : Int} (h : H.get b = some ⟨[cv k, cv v], t, 2, false⟩) (ho : o b = q) : SlR H o q (.slice (some ⟨b, 0, none⟩) 1 1) [(k, v)] :=
  .inr (.inr ⟨b, 0, 1, _, rfl, h, rfl, ho, Nat.le_refl _, by simp, rfl⟩)
theorem LinearKnown_run : ∃ n H', run KG n 3 [] [] = some (.bool true, H') := by
  refine ⟨16777217, ?_⟩
  rw [F3_eq, F3_split, pre_eq]
  have hv := vsIs
  have h6 := g6
  have h8 := g8
  have h0 := g0
  have h21 := g21
  have h22 := g22
  have hl := gl
  generalize preV = P at *
  obtain ⟨vs, HS⟩ := P
  simp only at hv h6 h8 h0 h21 h22 hl ⊢
  subst hv
  obtain ⟨b21, k21, e21⟩ := Option.map_eq_some_iff.1 h21
  obtain ⟨b22, k22, e22⟩ := Option.map_eq_some_iff.1 h22
  have c21 : b21.cells = sls := congrArg Prod.fst e21
  have c22 : b22.cells = want.map cv := congrArg Prod.fst e22
  have kn : ∀ H, run KG 16777216 8 [] H = some (.bool true, H) := fun H => known_run 16777215 H
  obtain ⟨r, hit, hne, x', d13, d88, d98, hr⟩ := iter_go (step := F3_b0 (run KG 16777216) 16777216)
    (Q := fun m vs H' => ∃ (i : Nat) (d88 d98 : Value), i ≤ 9 ∧ m = 9 - i ∧ vs = [.bool false, pv 4, pv 5, pv 7, pv 3, pv 9, pv 10, pv 11, pv 0, pv 1, pv 2, cv i, d88, pv 21, pv 22, d98] ∧ Ext HS H')
    (R := fun r => Ext HS r.2.2 ∧ ∃ (d13 d88 d98 : Value), r.1 = .exit 0 ∧ r.2.1 = [.bool false, pv 4, pv 5, pv 7, pv 3, pv 9, pv 10, pv 11, pv 0, pv 1, pv 2, d13, d88, pv 21, pv 22, d98])
    (by
      rintro m vs H' ⟨i, d88, d98, hi, rfl, rfl, ex⟩
      by_cases hlt : i < 9
      · have h1 : (i : Int) < 9 := by omega
        obtain ⟨q1, q2, q3⟩ := hl i hlt
        have hev : EvsR HS o0 (-1) (-1) (.slice (some ⟨12 + i, 0, none⟩) (logs.getD i []).length (logs.getD i []).length) ((logs.getD i []).map fun z => z.1) := lits q1 fun z hz => by
          rcases small hlt hz with ⟨e1, e2⟩ | ⟨e1, e2⟩ | ⟨e1, e2⟩
          · rw [e1, e2]; exact .nil
          · rw [e1, e2]; exact sm1 h6 rfl
          · rw [e1, e2]; exact sm1 h8 rfl
        obtain ⟨H'', rc, xc⟩ := check_runs (n := 16777194) (B := 2) (hev.fr (ex.fr o0 0) (by simp) (by simp)) (by
            rw [List.length_map]
            match i, hlt with
            | 0, _ | 1, _ | 2, _ | 3, _ | 4, _ | 5, _ | 6, _ | 7, _ | 8, _ => simp [logs]) (by
            intro e he
            obtain ⟨z, hz, rfl⟩ := List.mem_map.1 he
            rcases small hlt hz with ⟨e1, e2⟩ | ⟨e1, e2⟩ | ⟨e1, e2⟩ <;> rw [e1] <;> simp) (by omega) (by omega)
        rw [q3] at rc
        have L1 : ld1 (.pointer (some ⟨21, i, none⟩)) H' = some (.slice (some ⟨12 + i, 0, none⟩) (logs.getD i []).length (logs.getD i []).length) := by
          rw [ld1_pv _ _ _ (ex.get k21), c21]; exact q2
        have W1 : ∀ Hx, Ext HS Hx → ld1 (.pointer (some ⟨22, i, none⟩)) Hx = some (cv (want.getD i 0)) := fun Hx hx => by
          rw [ld1_pv _ _ _ (hx.get k22), c22, List.getElem?_map, List.getD_eq_getElem?_getD]
          have : i < want.length := hlt
          rw [List.getElem?_eq_getElem this]; rfl
        have hw : IntKind.i64.wrap ((i : Int) + 1) = ((i + 1 : Nat) : Int) := by rw [w64 (by omega)]; omega
        refine .inl ⟨_, H'', 9 - (i + 1), by omega, ?_, i + 1, .bool true, .bool false, by omega, rfl, rfl, ex.trans xc⟩
        simp -implicitDefEqProofs [-List.getD_eq_getElem?_getD, -Int.natCast_add, F3_b0_v, F3_b0v, lss_int, h1, iaa hlt, L1, rc, W1 H' ex, W1 H'' (ex.trans xc), neq_int, add_int, hw, fin]
      · have h1 : ¬ (i : Int) < 9 := by omega
        refine .inr ⟨(.exit 0, [.bool false, pv 4, pv 5, pv 7, pv 3, pv 9, pv 10, pv 11, pv 0, pv 1, pv 2, cv i, .bool false, pv 21, pv 22, d98], H'), ?_, by simp, ex, _, _, _, rfl, rfl⟩
        simp -implicitDefEqProofs [F3_b0_v, F3_b0v, lss_int, h1, fin])
    (9 - 0) [.bool false, pv 4, pv 5, pv 7, pv 3, pv 9, pv 10, pv 11, pv 0, pv 1, pv 2, cv (0 : Nat), undef, pv 21, pv 22, undef] HS ⟨0, _, _, Nat.zero_le _, rfl, rfl, .refl _⟩ 16777216 (by omega)
  obtain ⟨e, vs, H1⟩ := r
  simp only at x' hr
  obtain ⟨rfl, rfl⟩ := hr
  simp only [Int.natCast_zero] at hit
  -- two logs more
  have b2 := bsP2 H1
  obtain ⟨H2, e2⟩ : ∃ z, z = H1.new ⟨[cv 2, cv 0, cv 2, cv 0], 26, 2, false⟩ := ⟨_, rfl⟩
  rw [← e2] at b2
  have x2 : Ext H1 H2 := by rw [e2]; exact (Ext.refl H1).new _
  have g2 : H2.get H1.length = some ⟨[cv 2, cv 0, cv 2, cv 0], 26, 2, false⟩ := by rw [e2]; exact get_new
  have b3 := bsE1 (some ⟨H1.length, 0, none⟩) 2 2 H2
  obtain ⟨H3, e3⟩ : ∃ z, z = H2.new ⟨evs [(⟨4, 0, 0, op0, ⟨0, false, 0, 0, 0, [(2, 0), (2, 0)]⟩, 0⟩, .slice (some ⟨H1.length, 0, none⟩) 2 2)], 31, 13, false⟩ := ⟨_, rfl⟩
  have b3' : abuildSlice Try.prog 32 1 [(0, .agg #[cv 4, cv 0, cv 0, cv 0, cv 0, cv 0, cv 0, .bool false, cv 0, cv 0, cv 0, .slice (some ⟨H1.length, 0, none⟩) 2 2, cv 0])] H2 = some (.slice (some ⟨H2.length, 0, none⟩) 1 1, H3) := by rw [b3, e3]; rfl
  have x3 : Ext H2 H3 := by rw [e3]; exact (Ext.refl H2).new _
  have g3 : H3.get H2.length = some ⟨evs [(⟨4, 0, 0, op0, ⟨0, false, 0, 0, 0, [(2, 0), (2, 0)]⟩, 0⟩, .slice (some ⟨H1.length, 0, none⟩) 2 2)], 31, 13, false⟩ := by rw [e3]; exact get_new
  have ev3 := lits g3 fun z hz => by
    have : z = (⟨4, 0, 0, op0, ⟨0, false, 0, 0, 0, [(2, 0), (2, 0)]⟩, 0⟩, .slice (some ⟨H1.length, 0, none⟩) 2 2) := by simpa using hz
    subst this
    exact .inr (.inr ⟨H1.length, 0, 2, _, rfl, x3.get g2, rfl, rfl, Nat.le_refl _, by simp, rfl⟩)
  obtain ⟨H4, r4, x4⟩ := check_runs (n := 16777194) (B := 2) ev3 (by simp) (by simp) (by omega) (by omega)
  simp only [List.map_cons, List.map_nil, List.length_cons, List.length_nil, Nat.zero_add] at r4
  rw [chk1] at r4
  have xA := ((x'.trans x2).trans x3).trans x4
  have L0 := ldE13 (xA.get h0)
  have b5 := bsE2 H4
  obtain ⟨H5, e5⟩ : ∃ z, z = H4.new ⟨evs [(ea, nils), (⟨4, 0, 0, op0, res0, 0⟩, nils)], 31, 13, false⟩ := ⟨_, rfl⟩
  rw [← e5] at b5
  have g5 : H5.get H4.length = some ⟨evs [(ea, nils), (⟨4, 0, 0, op0, res0, 0⟩, nils)], 31, 13, false⟩ := by rw [e5]; exact get_new
  have ev5 := lits g5 fun z hz => by
    have : z.1.res.list = [] ∧ z.2 = nils := by
      simp only [List.mem_cons, List.not_mem_nil, or_false] at hz
      rcases hz with rfl | rfl <;> exact ⟨rfl, rfl⟩
    rw [this.1, this.2]; exact .nil
  obtain ⟨H6, r6, x6⟩ := check_runs (n := 16777194) (B := 2) ev5 (by simp) (by
    intro e he
    simp only [List.map_cons, List.map_nil, List.mem_cons, List.not_mem_nil, or_false] at he
    rcases he with rfl | rfl <;> simp [ea, res0]) (by omega) (by omega)
  simp only [List.map_cons, List.map_nil, List.length_cons, List.length_nil, Nat.zero_add] at r6
  rw [chk2] at r6
  refine ⟨H6, ?_⟩
  have hit' : iter 16777216 (F3_b0 (run KG 16777216) 16777216) [.bool false, pv 4, pv 5, pv 7, pv 3, pv 9, pv 10, pv 11, pv 0, pv 1, pv 2, cv 0, undef, pv 21, pv 22, undef] HS = _ := hit
  simp -implicitDefEqProofs [hit', F3k, F3_j1_v, F3_j1v, kn, abP2, b2, abRl, abE4, b3', r4, eql_int, pick_bool, L0, abE4', b5, r6]
end Go.Proofs.Ytgakioiplkehgaa.Fun
namespace Go.Proofs.Ytgakioiplkehgaa.Pure
open Go.RowKit Go.Proofs.YtgakioiplkehgaaA.Am Fun
theorem LinearKnown_law : Law Try.prog 3 [] := by
  intro W H args μ hr hi hS vs hv
  have ha : args = [] := hi
  subst ha
  obtain ⟨n, H', h⟩ := LinearKnown_run
  have : vs = [] := List.length_eq_zero_iff.1 hv.1.symm
  subst this
  exact law_true_ins insAll okP okKP knownHold h (Sim.empty W) .nil
end Go.Proofs.Ytgakioiplkehgaa.Pure
