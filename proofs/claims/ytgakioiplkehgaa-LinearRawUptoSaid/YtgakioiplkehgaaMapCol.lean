
/- The loop that collects a map's pairs. -/
import Derived.Test.YtgakioiplkehgaaMapSame
namespace Go.Proofs.Ytgakioiplkehgaa.Fun
open Go Go.RowKit Go.Proofs.YtgakioiplkehgaaA.Am
set_option linter.unusedVariables false
set_option linter.unusedSimpArgs false
set_option linter.unnecessarySimpa false
noncomputable def colB (y : Nat) (v k w : Value) (H : Heap) : Option (Value × Heap) :=
  begR y H fun H =>
  bnd (pS (ld1 v H) H) fun x66 H =>
  bnd (pS (abuild Try.prog 26 [(0, k), (1, w)]) H) fun x69 H =>
  bnd (abuildSlice Try.prog 27 1 [(0, x69)] H) fun x70 H =>
  bnd (appS 26 2 16 x66 x70 H) fun x71 H =>
  bnd (stS 1 v x71 H) fun x72 H =>
  endR y .normal H
theorem abP (k w : Int) : abuild Try.prog 26 [(0, cv k), (1, cv w)] = some (.agg #[cv k, cv w]) := by kernel_rfl
theorem bsP (k w : Int) (H : Heap) : abuildSlice Try.prog 27 1 [(0, .agg #[cv k, cv w])] H = some (.slice (some ⟨H.length, 0, none⟩) 1 1, H.new ⟨[cv k, cv w], 26, 2, false⟩) := by kernel_rfl
section
variable {G : Oracle} {H : Heap} {o : Owner} {p : Nat} {l : PL} {n : Nat}
theorem take_at {i : Nat} (hi : i < l.length) : l.take (i + 1) = l.take i ++ [((l.getD i (0, 0)).1, (l.getD i (0, 0)).2)] := by
  have e : l[i]? = some l[i] := List.getElem?_eq_getElem hi
  rw [List.take_add_one, List.getD_eq_getElem?_getD, e]; rfl
/-- Its state. -/
def ColJ (C : Heap) (oC : Owner) (L : ALoop) (b : Nat) (t : TypeId) (q : Int) (l : PL) (i : Nat) (H' : Heap) : Prop :=
  ∃ x o', Fr C oC H' o' [q] ∧ H'.oth C.length = some (.loop L .ready) ∧ H'.get b = some ⟨[x], t, 1, false⟩ ∧ SlP H' o' q x (l.take i) ∧ i ≤ l.length
theorem col_round {C : Heap} {oC : Owner} {L : ALoop} {b : Nat} {t : TypeId} {q : Int} {i : Nat} (hb : b < C.length) (ob : oC b = q) (hl : l.length ≤ 4194304) (hi : i < l.length) {H' : Heap} (h : ColJ C oC L b t q l i H') :
    ∃ H'', colB C.length (pv b) (cv (l.getD i (0, 0)).1) (cv (l.getD i (0, 0)).2) H' = some (.bool true, H'') ∧ ColJ C oC L b t q l (i + 1) H'' := by
  obtain ⟨x, o', f, ot, gb, hx, _⟩ := h
  obtain ⟨A, eA⟩ : ∃ A, A = H'.putO C.length (.loop L .busy) := ⟨_, rfl⟩
  have otA : A.oth C.length = some (.loop L .busy) := by rw [eA]; exact oth_putO ot
  have gA : A.get b = some ⟨[x], t, 1, false⟩ := by rw [eA]; exact get_putO ot gb
  have xA : SlP A o' q x (l.take i) := by rw [eA]; exact hx.putO ot
  have fA : Fr C oC A o' [q] := by rw [eA]; exact f.putO (fun h => by omega)
  obtain ⟨B, eB⟩ : ∃ B, B = A.new ⟨[cv (l.getD i (0, 0)).1, cv (l.getD i (0, 0)).2], 26, 2, false⟩ := ⟨_, rfl⟩
  have fB : Fr A o' B (o'.up A.length (q - 1)) [] := by rw [eB]; exact (Fr.refl _ _ _).new _ _
  have xB := xA.fr fB (by simp)
  have otB : B.oth C.length = some (.loop L .busy) := by rw [eB, oth_slot (slot_new (oth_lt otA))]; exact otA
  have gB : B.get b = some ⟨[x], t, 1, false⟩ := by rw [eB, get_new_lt (get_lt gA)]; exact gA
  have gs : B.get A.length = some ⟨[cv (l.getD i (0, 0)).1, cv (l.getD i (0, 0)).2], 26, 2, false⟩ := by rw [eB]; exact get_new
  have hbs := bsP (l.getD i (0, 0)).1 (l.getD i (0, 0)).2 A
  rw [← eB] at hbs
  obtain ⟨x', D, oD, ha, xD, fD, hs⟩ := xB.app 26 (Src.one gs) (by simp; omega)
  obtain ⟨sb, nb⟩ := hs b (xB.base_ne gB) (get_lt gB)
  obtain ⟨sy, ny⟩ := hs C.length (xB.base_oth otB) (oth_lt otB)
  have gD : D.get b = some ⟨[x], t, 1, false⟩ := by rw [get_slot sb]; exact gB
  have otD : D.oth C.length = some (.loop L .busy) := by rw [oth_slot sy]; exact otB
  obtain ⟨c1, c2, c3⟩ := slice_one (by obtain ⟨a, c, e⟩ := xD.isSlice; exact ⟨a, _, c, e⟩)
  have st := st_1 b 0 x' D gD rfl (by simp) c1 c2 c3
  simp only [List.set_cons_zero] at st
  have hne := oth_ne otD gD
  have otE := oth_put' (x := ⟨[x'], t, 1, false⟩) otD hne
  have en := endR_eq (e := .normal) otE
  simp only [LState.of] at en
  refine ⟨(D.put b ⟨[x'], t, 1, false⟩).putO C.length (.loop L .ready), ?_, x', oD, ?_, oth_putO otE, get_putO otE (get_put gD), ?_, hi⟩
  · unfold colB
    simp -implicitDefEqProofs [-List.getD_eq_getElem?_getD, begR_eq ot, ← eA, ld1_pv _ _ _ gA, abP, hbs, ha, st, en, AExit.on]
  · have := ((fA.tr (fB.wk (by simp))).tr fD)
    exact (this.put (fun _ => by simp [ob])).putO (fun h => by omega)
  · rw [take_at hi]
    exact (xD.put_ne gD).putO otE
end
end Go.Proofs.Ytgakioiplkehgaa.Fun
