/- DcssMany: the places in the heap, the search, the compare of what the slot stands for. -/
import Derived.Test.YtpenlcigickkbaaMany
import Derived.Test.YtpenlcigickkbaaKnown
import Derived.Test.YtpenlcigickkbaaFunDcssMany
import Derived.Test.YtpenlcigickkbaaFun4
import Derived.Test.YtpenlcigickkbaaFunDcssMany
namespace Go.Proofs.Ytpenlcigickkbaa.Fun
open Go.RowKit Go.Proofs.YtpenlcigickkbaaA.Am
set_option linter.unusedVariables false
set_option linter.unusedSimpArgs false
section
variable {G : Oracle} {H : Heap} {o : Own}
/-- At most so many of a slice. -/
theorem Few_runs {q : Int} {v : Value} {l : List Int} (hv : IntsR H o q v l) (hs : v = .slice none 0 0 ∨ ∃ i, v = .slice (some ⟨i, 0, none⟩) l.length l.length) (n : Nat) :
    ∃ s', run G (n + 1) 63 [v, cv 300] H = some (s', H) ∧ IntsR H o q s' (l.take 300) := by
  have hvl := hv.1.len
  rw [F63_eq]
  by_cases hgt : 300 < l.length
  · have h1 : (l.length : Int) > 300 := by omega
    rcases hs with rfl | ⟨i, rfl⟩
    · rcases hv.1 with ⟨_, rfl⟩ | ⟨i, off, c, e, _⟩
      · simp at hgt
      · cases e
    · obtain ⟨hi, ho⟩ := hv
      rcases hi with ⟨e, _⟩ | ⟨i', off, c, e, hb⟩
      · cases e
      · cases e
        have hne : l ≠ [] := by rintro rfl; simp at hgt
        obtain ⟨b, h2, h3, h4, h5⟩ := hb hne
        have hsc : scut 1 H (.slice (some ⟨i, 0, none⟩) l.length l.length) none (some (cv 300)) = some (.slice (some ⟨i, 0, none⟩) 300 l.length) := by
          simp only [scut, boundOf, intOfV, h2, h3]
          rw [if_pos (by omega)]; simp
        refine ⟨.slice (some ⟨i, 0, none⟩) 300 l.length, by simp -implicitDefEqProofs [F63, hvl, gtr_int, h1, hsc], .inr ⟨i, 0, l.length, by simp; omega, fun _ => ⟨b, h2, h3, by simp; omega, ?_⟩⟩, fun b' n' c' e' hne' => ?_⟩
        · rw [List.drop_zero] at h5 ⊢
          have := congrArg (List.take 300) h5
          rw [List.take_take] at this
          rw [List.length_take, this, List.map_take]
        · cases e'; exact ho _ _ _ rfl hne
  · have h1 : ¬ (l.length : Int) > 300 := by omega
    refine ⟨v, by simp -implicitDefEqProofs [F63, hvl, gtr_int, h1], ?_⟩
    rw [List.take_of_length_le (by omega)]; exact hv
end
def hp : Option Nat → Value
  | none => .pointer none
  | some q => pv q
/-- Where all lies. -/
structure MAll (H : Heap) (o : Own) (p aO aN aF aH : Nat) (fs : Nat → Nat) (hs : Nat → Option Nat) (D : Nat → DV) (h : Nat → Option HV) : Prop where
  bO : ∃ ty, B1 H o aO ⟨[cv 57, cv 57, cv 90, cv 98, cv 90], ty, 1, false⟩
  bN : ∃ ty, B1 H o aN ⟨[cv 90, cv 98, cv 106, cv 114, cv 122], ty, 1, false⟩
  bF : ∃ ty, B1 H o aF ⟨[pv (fs 0), pv (fs 1), pv (fs 2), pv (fs 3), pv (fs 4)], ty, 1, false⟩
  bH : ∃ ty, B1 H o aH ⟨[hp (hs 0), hp (hs 1), hp (hs 2), hp (hs 3), hp (hs 4)], ty, 1, false⟩
  each : ∀ k, k < 5 → DcssR H o (fs k) (D k)
  hel : ∀ k, k < 5 → ∀ q, hs k = some q → ∃ hv, h k = some hv ∧ HelpR H o q hv
  hno : ∀ k, k < 5 → hs k = none → h k = none
  ord : p < aO ∧ aO < aN ∧ aN < aF
  ordF : ∀ k, k < 5 → aF < fs k ∧ fs k < aH
  ordH : ∀ k, k < 5 → ∀ q, hs k = some q → aH < q
  injF : ∀ j k, j < 5 → k < 5 → fs j = fs k → j = k
  injH : ∀ j k q, j < 5 → k < 5 → hs j = some q → hs k = some q → j = k
section
variable {H H' : Heap} {o o' : Own} {p aO aN aF aH : Nat} {fs : Nat → Nat} {hs : Nat → Option Nat} {D : Nat → DV} {h : Nat → Option HV}
theorem MAll.fr (m : MAll H o p aO aN aF aH fs hs D h) (f : Fr H o H' o' [p]) : MAll H' o' p aO aN aF aH fs hs D h := by
  obtain ⟨o1, o2, o3⟩ := m.ord
  have o4 := m.ordF 0 (by omega)
  obtain ⟨t1, b1⟩ := m.bO; obtain ⟨t2, b2⟩ := m.bN; obtain ⟨t3, b3⟩ := m.bF; obtain ⟨t4, b4⟩ := m.bH
  refine ⟨⟨t1, b1.fr f (by simp; omega)⟩, ⟨t2, b2.fr f (by simp; omega)⟩, ⟨t3, b3.fr f (by simp; omega)⟩, ⟨t4, b4.fr f (by simp; omega)⟩, fun k hk => (m.each k hk).fr f ?_, fun k hk q e => ?_, m.hno, m.ord, m.ordF, m.ordH, m.injF, m.injH⟩
  · have := m.ordF k hk; simp; omega
  · obtain ⟨hv, e1, e2⟩ := m.hel k hk q e
    have := m.ordH k hk q e
    exact ⟨hv, e1, e2.fr f (by simp; omega)⟩
theorem MAll.dstep (m : MAll H o p aO aN aF aH fs hs D h) {j : Nat} (hj : j < 5) {d' : DV} (f : Fr H o H' o' [fs j, p]) (hd : DcssR H' o' (fs j) d') : MAll H' o' p aO aN aF aH fs hs (upd D j d') h := by
  obtain ⟨o1, o2, o3⟩ := m.ord
  have o4 := m.ordF j hj
  obtain ⟨t1, b1⟩ := m.bO; obtain ⟨t2, b2⟩ := m.bN; obtain ⟨t3, b3⟩ := m.bF; obtain ⟨t4, b4⟩ := m.bH
  refine ⟨⟨t1, b1.fr f (by simp; omega)⟩, ⟨t2, b2.fr f (by simp; omega)⟩, ⟨t3, b3.fr f (by simp; omega)⟩, ⟨t4, b4.fr f (by simp; omega)⟩, fun k hk => ?_, fun k hk q e => ?_, m.hno, m.ord, m.ordF, m.ordH, m.injF, m.injH⟩
  · by_cases hkj : k = j
    · subst hkj; rw [upd_self]; exact hd
    · rw [upd_ne _ _ hkj]
      have o5 := m.ordF k hk
      have : fs k ≠ fs j := fun e => hkj (m.injF k j hk hj e)
      exact (m.each k hk).fr f (by simp; omega)
  · obtain ⟨hv, e1, e2⟩ := m.hel k hk q e
    have := m.ordH k hk q e
    exact ⟨hv, e1, e2.fr f (by simp; omega)⟩
theorem MAll.hstep (m : MAll H o p aO aN aF aH fs hs D h) {j q : Nat} (hj : j < 5) (hq : hs j = some q) {hv' : HV} (f : Fr H o H' o' [q, p]) (hd : HelpR H' o' q hv') : MAll H' o' p aO aN aF aH fs hs D (upd h j (some hv')) := by
  obtain ⟨o1, o2, o3⟩ := m.ord
  have o4 := m.ordF j hj
  have o6 := m.ordH j hj q hq
  obtain ⟨t1, b1⟩ := m.bO; obtain ⟨t2, b2⟩ := m.bN; obtain ⟨t3, b3⟩ := m.bF; obtain ⟨t4, b4⟩ := m.bH
  refine ⟨⟨t1, b1.fr f (by simp; omega)⟩, ⟨t2, b2.fr f (by simp; omega)⟩, ⟨t3, b3.fr f (by simp; omega)⟩, ⟨t4, b4.fr f (by simp; omega)⟩, fun k hk => ?_, fun k hk q' e => ?_, fun k hk e => ?_, m.ord, m.ordF, m.ordH, m.injF, m.injH⟩
  · have o5 := m.ordF k hk
    exact (m.each k hk).fr f (by simp; omega)
  · by_cases hkj : k = j
    · subst hkj
      rw [hq] at e; cases e
      exact ⟨hv', upd_self _ _ _, hd⟩
    · obtain ⟨hv, e1, e2⟩ := m.hel k hk q' e
      have := m.ordH k hk q' e
      have hne : q' ≠ q := fun e' => hkj (m.injH k j q hk hj (by rw [e, e']) hq)
      exact ⟨hv, by rw [upd_ne _ _ hkj]; exact e1, e2.fr f (by simp; omega)⟩
  · by_cases hkj : k = j
    · subst hkj; rw [hq] at e; cases e
    · rw [upd_ne _ _ hkj]; exact m.hno k hk e
theorem MAll.hnew (m : MAll H o p aO aN aF aH fs hs D h) {j : Nat} (hj : j < 5) (hq : hs j = none) {hv' : HV} {q : Nat} (hqH : H.length ≤ q) (f : Fr H o H' o' []) (hd : HelpR H' o' q hv') {ty : TypeId}
    (hb : B1 H o aH ⟨[hp (hs 0), hp (hs 1), hp (hs 2), hp (hs 3), hp (hs 4)], ty, 1, false⟩) :
    MAll (H'.put aH ⟨[hp (hs 0), hp (hs 1), hp (hs 2), hp (hs 3), hp (hs 4)].set j (pv q), ty, 1, false⟩) o' p aO aN aF aH fs (upd hs j (some q)) D (upd h j (some hv')) := by
  obtain ⟨o1, o2, o3⟩ := m.ord
  have o4 := m.ordF j hj
  have b4 := hb.fr f (by simp)
  have hlt := hb.lt
  have f2 : Fr H o (H'.put aH ⟨[hp (hs 0), hp (hs 1), hp (hs 2), hp (hs 3), hp (hs 4)].set j (pv q), ty, 1, false⟩) o' [aH] := (f.wk (by simp)).put fun _ => by rw [hb.2]; simp
  have f3 : Fr H' o' (H'.put aH ⟨[hp (hs 0), hp (hs 1), hp (hs 2), hp (hs 3), hp (hs 4)].set j (pv q), ty, 1, false⟩) o' [aH] := (Fr.refl _ _ _).put fun _ => by rw [b4.2]; simp
  obtain ⟨t1, b1⟩ := m.bO; obtain ⟨t2, b2⟩ := m.bN; obtain ⟨t3, b3⟩ := m.bF
  have e4 : ([hp (hs 0), hp (hs 1), hp (hs 2), hp (hs 3), hp (hs 4)] : List Value).set j (pv q) = [hp (upd hs j (some q) 0), hp (upd hs j (some q) 1), hp (upd hs j (some q) 2), hp (upd hs j (some q) 3), hp (upd hs j (some q) 4)] := by
    rcases (show j = 0 ∨ j = 1 ∨ j = 2 ∨ j = 3 ∨ j = 4 by omega) with rfl | rfl | rfl | rfl | rfl <;> simp [upd, hp]
  refine ⟨⟨t1, b1.fr f2 (by simp; omega)⟩, ⟨t2, b2.fr f2 (by simp; omega)⟩, ⟨t3, b3.fr f2 (by simp; omega)⟩, ⟨ty, by rw [← e4]; exact b4.put⟩, fun k hk => ?_, fun k hk q' e => ?_, fun k hk e => ?_, m.ord, m.ordF, fun k hk q' e => ?_, m.injF, fun i k q' hi hk ei ek => ?_⟩
  · have o5 := m.ordF k hk
    exact (m.each k hk).fr f2 (by simp; omega)
  · by_cases hkj : k = j
    · subst hkj
      rw [upd_self] at e; cases e
      exact ⟨hv', upd_self _ _ _, hd.fr f3 (by simp; omega)⟩
    · rw [upd_ne _ _ hkj] at e
      obtain ⟨hv, e1, e2⟩ := m.hel k hk q' e
      have := m.ordH k hk q' e
      exact ⟨hv, by rw [upd_ne _ _ hkj]; exact e1, e2.fr f2 (by simp; omega)⟩
  · by_cases hkj : k = j
    · subst hkj; rw [upd_self] at e; cases e
    · rw [upd_ne _ _ hkj] at e ⊢; exact m.hno k hk e
  · by_cases hkj : k = j
    · subst hkj; rw [upd_self] at e; cases e; omega
    · rw [upd_ne _ _ hkj] at e; exact m.ordH k hk q' e
  · have hlq : ∀ k, k < 5 → ∀ q', hs k = some q' → q' < H.length := fun k hk q' e => by obtain ⟨hv, _, e2⟩ := m.hel k hk q' e; exact e2.lt
    by_cases hij : i = j <;> by_cases hkj : k = j
    · omega
    · subst hij; rw [upd_self] at ei; cases ei
      rw [upd_ne _ _ hkj] at ek
      have := hlq k hk _ ek; omega
    · subst hkj; rw [upd_self] at ek; cases ek
      rw [upd_ne _ _ hij] at ei
      have := hlq i hi _ ei; omega
    · rw [upd_ne _ _ hij] at ei; rw [upd_ne _ _ hkj] at ek
      exact m.injH i k q' hi hk ei ek
theorem cell5 (f : Nat → Value) {k : Nat} (hk : k < 5) : ([f 0, f 1, f 2, f 3, f 4] : List Value)[k]? = some (f k) := by
  rcases (show k = 0 ∨ k = 1 ∨ k = 2 ∨ k = 3 ∨ k = 4 by omega) with rfl | rfl | rfl | rfl | rfl <;> rfl
theorem MAll.rdF (m : MAll H o p aO aN aF aH fs hs D h) {k : Nat} (hk : k < 5) : ld1 (.pointer (some ⟨aF, k, none⟩)) H = some (pv (fs k)) := by
  obtain ⟨t, b⟩ := m.bF; rw [ld1_pv _ _ _ b.1]; exact cell5 (fun k => pv (fs k)) hk
theorem MAll.rdH (m : MAll H o p aO aN aF aH fs hs D h) {k : Nat} (hk : k < 5) : ld1 (.pointer (some ⟨aH, k, none⟩)) H = some (hp (hs k)) := by
  obtain ⟨t, b⟩ := m.bH; rw [ld1_pv _ _ _ b.1]; exact cell5 (fun k => hp (hs k)) hk
theorem MAll.rdO (m : MAll H o p aO aN aF aH fs hs D h) {k : Nat} (hk : k < 5) : ld1 (.pointer (some ⟨aO, k, none⟩)) H = some (cv (oldM k)) := by
  obtain ⟨t, b⟩ := m.bO; rw [ld1_pv _ _ _ b.1]
  rcases (show k = 0 ∨ k = 1 ∨ k = 2 ∨ k = 3 ∨ k = 4 by omega) with rfl | rfl | rfl | rfl | rfl <;> rfl
theorem MAll.rdN (m : MAll H o p aO aN aF aH fs hs D h) {k : Nat} (hk : k < 5) : ld1 (.pointer (some ⟨aN, k, none⟩)) H = some (cv (newM k)) := by
  obtain ⟨t, b⟩ := m.bN; rw [ld1_pv _ _ _ b.1]
  rcases (show k = 0 ∨ k = 1 ∨ k = 2 ∨ k = 3 ∨ k = 4 by omega) with rfl | rfl | rfl | rfl | rfl <;> rfl
theorem iaa5 (p k : Nat) (hk : k < 5) (H : Heap) : iaaS 5 1 (pv p) (cv k) H = some (.pointer (some ⟨p, k, none⟩), H) := by
  simp only [iaaS]; rw [if_pos (by omega)]; simp
def hitM (D : Nat → DV) (L A : Int) (k : Nat) : Bool := decide (oldM k = L) && (decide (newM k = A) && decide ((D k).record > 0))
variable {G : Oracle} {M : MV}
theorem many_look (m : MAll H o p aO aN aF aH fs hs D h) (n : Nat) (L A : Int) {k : Nat} (hk : k < 5) (s : Bool) (vS v1 v4 v6 v36 v10 v40 v14 v60 v67 v75 v15 v16 v112 v116 v138 v140 v166 v13 v21 v171 v178 v183 v20 : Value) :
    F14_b12 (run G (n + 1)) (n + 1) [vS, v1, v4, pv p, v6, v36, v10, v40, pv aO, pv aN, pv aF, v14, v60, v67, v75, v15, v16, pv aH, v112, v116, cv A, cv L, v138, cv k, v140, .bool s, v166, v13, v21, v171, v178, v183, v20] H =
      some (.normal, [vS, v1, v4, pv p, v6, v36, v10, v40, pv aO, pv aN, pv aF, v14, v60, v67, v75, v15, v16, pv aH, v112, v116, cv A, cv L, v138, cv ((k + 1 : Nat) : Int), .bool true, .bool (s || hitM D L A k), v166, v13, v21, v171, v178, v183, v20], H) := by
  have g1 : (k : Int) < 5 := by omega
  have hw : IntKind.i64.wrap ((k : Int) + 1) = ((k + 1 : Nat) : Int) := by rw [w64 (by omega)]; omega
  have i1 := fun p => iaa5 p k hk H
  have r1 := m.rdO hk
  have r2 := m.rdN hk
  have r3 := m.rdF hk
  have r4 := DRecord_runs (G := G) (m.each k hk) n
  unfold hitM
  cases s with
  | true => simp -implicitDefEqProofs [-Int.natCast_add, F14_b12_v, F14_b12v, lss_int, g1, pick_bool, add_int, hw, fin, wantV, undef]
  | false =>
    by_cases h1 : oldM k = L
    · by_cases h2 : newM k = A
      · simp -implicitDefEqProofs [-Int.natCast_add, F14_b12_v, F14_b12v, lss_int, g1, pick_bool, add_int, hw, fin, i1, r1, r2, r3, r4, eql_int, h1, h2, gtr_int]
      · simp -implicitDefEqProofs [-Int.natCast_add, F14_b12_v, F14_b12v, lss_int, g1, pick_bool, add_int, hw, fin, i1, r1, r2, r3, r4, eql_int, h1, h2, gtr_int]
    · simp -implicitDefEqProofs [-Int.natCast_add, F14_b12_v, F14_b12v, lss_int, g1, pick_bool, add_int, hw, fin, i1, r1, r2, r3, r4, eql_int, h1, gtr_int]
theorem many_lookEnd (n : Nat) (s : Bool) (vS v1 v4 v5 v6 v36 v10 v40 v7 v8 v9 v14 v60 v67 v75 v15 v16 v11 v112 v116 v17 v12 v138 v140 v166 v13 v21 v171 v178 v183 v20 : Value) :
    F14_b12 (run G n) n [vS, v1, v4, v5, v6, v36, v10, v40, v7, v8, v9, v14, v60, v67, v75, v15, v16, v11, v112, v116, v17, v12, v138, cv 5, v140, .bool s, v166, v13, v21, v171, v178, v183, v20] H =
      some (.exit 4, [vS, v1, v4, v5, v6, v36, v10, v40, v7, v8, v9, v14, v60, v67, v75, v15, v16, v11, v112, v116, v17, v12, v138, cv 5, .bool false, .bool s, v166, v13, v21, v171, v178, v183, v20], H) := by
  simp -implicitDefEqProofs [F14_b12_v, F14_b12v, lss_int, fin]
end
end Go.Proofs.Ytpenlcigickkbaa.Fun
