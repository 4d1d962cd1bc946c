/- NodeApart over the abstract machine. -/
import Derived.Test.YtpapgoadglijiabFunA
namespace Go.Proofs.Ytpapgoadglijiab.Fun
open Go.RowKit Go.Proofs.YtpapgoadglijiabA.Am
set_option linter.unusedVariables false
set_option linter.unusedSimpArgs false
abbrev cv (x : Int) : Value := .int .i64 x
abbrev sv (i n : Nat) : Value := .slice (some ⟨i, 0, none⟩) n n
abbrev bk (l : List Value) : Option Blk := some ⟨l, 2, 1, false⟩
theorem eql_int (t : TypeId) (a b : Int) : abin Try.prog .eql t (cv a) (cv b) = some (.bool (decide (a = b))) := by
  have h : (a == b) = decide (a = b) := by by_cases e : a = b <;> simp [e]
  rw [← h]; rfl
theorem neq_int (t : TypeId) (a b : Int) : abin Try.prog .neq t (cv a) (cv b) = some (.bool (!decide (a = b))) := by
  have h : (a == b) = decide (a = b) := by by_cases e : a = b <;> simp [e]
  rw [← h]; rfl
theorem add_int (t : TypeId) (a b : Int) : abin Try.prog .add t (cv a) (cv b) = some (cv (IntKind.i64.wrap (a + b))) := rfl
theorem pick_bool (b : Bool) (x y : Value) (H : Heap) : pickS (.bool b) x y H = some (if b then x else y, H) := rfl
theorem leaf_spec (G : Oracle) (n : Nat) (k v : Int) (H : Heap) : acall Try.prog (badOf Try.prog) G (n + 1) 13 [cv k, cv v] H = some (sv H.length 2, H ++ [bk [cv k, cv v]]) := by
  rw [F13_eq]; kernel_rfl
theorem empty_spec (G : Oracle) (n : Nat) (H : Heap) : acall Try.prog (badOf Try.prog) G (n + 1) 15 [] H = some (sv H.length 1, H ++ [bk [cv 0]]) := by
  rw [F15_eq]; kernel_rfl
theorem dcss_spec (G : Oracle) (n : Nat) (a b k v : Int) (H : Heap) : acall Try.prog (badOf Try.prog) G (n + 1) 20 [cv a, cv b, cv k, cv v] H = some (sv H.length 5, H ++ [bk [cv a, cv b, cv k, cv v, cv 0]]) := by
  rw [F20_eq]; kernel_rfl
theorem known_run (b0 b1 b2 b3 b4 b5 : Option Blk) : (acall Try.prog (badOf Try.prog) noG 200 8 [] [b0, b1, b2, b3, b4, b5]).map (fun r => (r.1, r.2.take 6)) = some (.bool true, [b0, b1, b2, b3, b4, b5]) := by kernel_rfl
theorem slen_sv (i n : Nat) : slen (sv i n) = some (cv n) := rfl
theorem iad_sv (i n : Nat) (j : Int) (H : Heap) (h : 0 ≤ j ∧ j < n) : iadS 1 (sv i n) (cv j) H = some (.pointer (some ⟨i, j.toNat, none⟩), H) := by
  simp only [iadS]; rw [if_pos h]; simp
theorem ld1_pv (p o : Nat) (H : Heap) : ld1 (.pointer (some ⟨p, o, none⟩)) H = (H.get p).bind fun b => b.cells[o]? := by
  simp only [ld1]; cases H.get p <;> rfl
theorem st_pv (p o : Nat) (x : Int) (H : Heap) {b : Blk} (h : H.get p = some b) (hr : b.ro = false) (ho : o < b.cells.length) :
    stS 1 (.pointer (some ⟨p, o, none⟩)) (cv x) H = some (undef, H.set p (some { b with cells := b.cells.set o (cv x) })) := by
  simp only [stS, stCells, h]
  rw [if_pos ⟨rfl, rfl⟩]
  have : (!b.ro && decide (o + (cv x).cells.toList.length ≤ b.cells.length) && (cv x).cells.toList.all oneCell) = true := by
    rw [hr]; simp [Value.cells, oneCell]; omega
  rw [this]; rfl
theorem apart_run (k v a b : Int) : ∃ H', acall Try.prog (badOf Try.prog) noG 201 5 [cv k, cv v, cv a, cv b] [] = some (.bool true, H') := by
  rw [F5_eq]
  obtain ⟨⟨r, H'⟩, h1, h2⟩ := Option.map_eq_some_iff.1 (known_run (bk [cv (IntKind.i64.wrap (k + 1)), cv v]) (bk [cv k, cv v]) (bk [cv a, cv b, cv k, cv v, cv 9]) (bk [cv a, cv b, cv k, cv v, cv 0]) (bk [cv 9]) (bk [cv 0]))
  have e1 := congrArg Prod.fst h2
  have e2 := congrArg Prod.snd h2
  simp only at e1 e2; subst e1
  have e3 := List.take_append_drop 6 H'
  rw [e2] at e3
  generalize List.drop 6 H' = T at e3
  subst e3
  clear h2 e2
  refine ⟨[bk [cv (IntKind.i64.wrap (k + 1)), cv v], bk [cv k, cv v], bk [cv a, cv b, cv k, cv v, cv 9], bk [cv a, cv b, cv k, cv v, cv 0], bk [cv 9], bk [cv 0]] ++ T, ?_⟩
  simp -implicitDefEqProofs [F5, leaf_spec, dcss_spec, empty_spec, slen_sv, neq_int, eql_int, pick_bool, add_int, iad_sv, ld1_pv, Heap.get, st_pv (b := ⟨[cv k, cv v], 2, 1, false⟩), st_pv (b := ⟨[cv a, cv b, cv k, cv v, cv 0], 2, 1, false⟩), st_pv (b := ⟨[cv 0], 2, 1, false⟩), h1]
end Go.Proofs.Ytpapgoadglijiab.Fun
namespace Go.Proofs.Ytpapgoadglijiab.Pure
open Go.RowKit Go.Proofs.YtpapgoadglijiabA.Am
theorem okNodeApart : okProg Try.prog (badOf Try.prog) = true := by kernel_rfl
theorem NodeApart_walk (k v a b : Int) (w0 : World) (_h0 : (Lit.int .i64 k).wf = true) (_h1 : (Lit.int .i64 v).wf = true) (_h2 : (Lit.int .i64 a).wf = true) (_h3 : (Lit.int .i64 b).wf = true) :
    Calls Try.prog 5 #[.int .i64 k, .int .i64 v, .int .i64 a, .int .i64 b] w0 fun e w' => e = .returned (.bool true) ∧ Below w0.heap.size w0 w' := by
  obtain ⟨H', h⟩ := Fun.apart_run k v a b
  exact law_true okNodeApart h (Sim.empty w0) (.cons (.plain _ rfl) (.cons (.plain _ rfl) (.cons (.plain _ rfl) (.cons (.plain _ rfl) .nil))))
end Go.Proofs.Ytpapgoadglijiab.Pure
