/- What the laws of chapter 4 share: known, fill. -/
import Derived.Test.YtdgolnenpnkjbaaFun2
import Derived.Test.YtdgolnenpnkjbaaFun3
import Derived.Test.YtdgolnenpnkjbaaOmap3
namespace Go.Proofs.Ytdgolnenpnkjbaa.Fun
open Go Go.RowKit Go.Proofs.YtdgolnenpnkjbaaA.Am
set_option linter.unusedVariables false
set_option linter.unusedSimpArgs false
set_option linter.unnecessarySimpa false
theorem known_bad : (ks ++ badOf Try.prog).contains 10 = true := by rw [badIs]; rfl
theorem known_run (n : Nat) (H : Heap) : run KG (n + 1) 10 [] H = some (.bool true, H) := by
  unfold run
  simp only [acall, known_bad, if_true]
  simp [kinG]
/-- A map of the first n keys, each with its place. -/
def fillTo (keys : List Int) : Nat → PL
  | 0 => []
  | i + 1 => mput (fillTo keys i) (keys.getD i 0) i
theorem fillTo_len (keys : List Int) : ∀ i, (fillTo keys i).length ≤ i
  | 0 => Nat.le_refl _
  | i + 1 => by
    have h1 := fillTo_len keys i
    have h2 := len_mput (fillTo keys i) (keys.getD i 0) i
    show (mput _ _ _).length ≤ _
    rw [h2]; split <;> omega
theorem fillTo_asc (keys : List Int) : ∀ i, Asc (keysOf (fillTo keys i))
  | 0 => .nil
  | i + 1 => asc_mput (fillTo_asc keys i) _ _
theorem abM0 : abuild Try.prog 48 [] = some (.agg #[.slice none 0 0, .slice none 0 0]) := by kernel_rfl
theorem boxM (t : TypeId) (H : Heap) : boxS t (.agg #[.slice none 0 0, .slice none 0 0]) H = some (pv H.length, H.new ⟨[.slice none 0 0, .slice none 0 0], t, 1, false⟩) := by
  simp [boxS, Value.cells, oneCell, newBlk]
/-- A new map. -/
theorem MapR.fresh (H : Heap) (o : Owner) (t : TypeId) : MapR (H.new ⟨[.slice none 0 0, .slice none 0 0], t, 1, false⟩) (o.up H.length H.length) H.length [] :=
  ⟨⟨_, _, none, none, t, get_new, ⟨rfl, rfl⟩, ⟨rfl, rfl⟩, by simp, by simp, by simp⟩, up_self, .nil, by simp⟩
section
variable {H : Heap} {o : Owner} {n : Nat}
theorem Cut_runs {G : Oracle} (n : Nat) (a k : Int) (ha : -9223372036854775808 ≤ a ∧ a ≤ 9223372036854775807) (hk : 0 < k ∧ k ≤ 4611686018427387904) (H : Heap) : run G (n + 1) 24 [cv a, cv k] H = some (cv (a % k), H) := by
  rw [F24_eq]
  have h0 : k ≠ 0 := by omega
  have h1 := Int.emod_nonneg a h0
  have h2 := Int.emod_lt_of_pos a hk.1
  have e : a.tmod k = if 0 ≤ a ∨ a % k = 0 then a % k else a % k - k := by
    rw [Int.tmod_eq_emod]
    by_cases h : 0 ≤ a ∨ k ∣ a
    · have h' : 0 ≤ a ∨ a % k = 0 := h.imp id (fun h => Int.emod_eq_zero_of_dvd h)
      simp [h, h']
    · have h' : ¬ (0 ≤ a ∨ a % k = 0) := fun hh => h (hh.imp id (fun h => Int.dvd_of_emod_eq_zero h))
      simp only [h, h', if_false]; rw [Int.natAbs_of_nonneg (by omega)]
  by_cases hc : 0 ≤ a ∨ a % k = 0
  · have e2 : ¬ (a % k < 0) := by omega
    simp -implicitDefEqProofs [F24, F24_j0_v, F24_j0v, rem_int _ _ _ h0, e, hc, lss_int, e2]
  · have e2 : (a % k - k < 0) := by omega
    have e3 : IntKind.i64.wrap (a % k) = a % k := w64 (by omega)
    simp -implicitDefEqProofs [F24, F24_j0_v, F24_j0v, rem_int _ _ _ h0, e, hc, lss_int, e2, add_int, e3]

/-- A loop that goes on as long as a measure allows. -/
theorem fill_runs {v : Value} {keys : List Int} (hv : IntsR H o (-1) v keys) (hn : 65536 < n) :
    ∃ H' o', run KG (n + 5) 11 [v] H = some (pv H.length, H') ∧ MapR H' o' H.length (fillTo keys (min keys.length 200)) ∧ Fr H o H' o' [(H.length : Int)] := by
  rw [F11_eq]
  obtain ⟨H1, e1⟩ : ∃ x, x = H.new ⟨[.slice none 0 0, .slice none 0 0], 48, 1, false⟩ := ⟨_, rfl⟩
  have b1 := boxM 48 H
  rw [← e1] at b1
  have m1 : MapR H1 (o.up H.length H.length) H.length (fillTo keys 0) := by rw [e1]; exact MapR.fresh H o _
  have f1 : Fr H o H1 (o.up H.length H.length) [(H.length : Int)] := by rw [e1]; exact (Fr.refl _ _ _).new _ _
  have hvl := hv.1.len
  obtain ⟨r, hit, hne, e2, o', e3⟩ := iter_go (step := F11_b0 (run KG (n + 4)) (n + 4))
    (Q := fun m vs H' => ∃ (i : Nat) (d : Value) (o' : Owner), i ≤ min keys.length 200 ∧ m = min keys.length 200 - i ∧ vs = [v, .pointer none, cv i, d, pv H.length] ∧ MapR H' o' H.length (fillTo keys i) ∧ Fr H o H' o' [(H.length : Int)])
    (R := fun r => r.1 = .exit 0 ∧ ∃ o', (∃ d1 d2, r.2.1 = [v, .pointer none, d1, d2, pv H.length]) ∧ MapR r.2.2 o' H.length (fillTo keys (min keys.length 200)) ∧ Fr H o r.2.2 o' [(H.length : Int)])
    (by
      rintro m vs H' ⟨i, d, o', hi, rfl, rfl, hm, hf⟩
      by_cases hlt : i < min keys.length 200
      · have h1 : (i : Int) < keys.length := by omega
        have h2 : (i : Int) < 200 := by omega
        have hk : i < keys.length := by omega
        obtain ⟨q, off, b, hix, hb, hc⟩ := (hv.fr hf (by simp)).1.idx hk
        have hl := fillTo_len keys i
        obtain ⟨H'', o'', hr, hm', hf'⟩ := Put_runs (n := n) hm (keys.getD i 0) i (by omega) hn
        have hw : IntKind.i64.wrap ((i : Int) + 1) = ((i + 1 : Nat) : Int) := by rw [w64 (by omega)]; omega
        refine .inl ⟨_, H'', min keys.length 200 - (i + 1), by omega, ?_, i + 1, .bool true, o'', by omega, rfl, rfl, hm', hf.tr hf'⟩
        simp -implicitDefEqProofs [-List.getD_eq_getElem?_getD, -Int.natCast_add, F11_b0_v, F11_b0v, hvl, lss_int, h1, h2, pick_bool, hix, ld1_pv _ _ _ hb, hc, hr, add_int, hw, fin]
      · have hi' : i = min keys.length 200 := by omega
        refine .inr ⟨(.exit 0, [v, .pointer none, cv i, .bool false, pv H.length], H'), ?_, by simp, rfl, o', ⟨_, _, rfl⟩, by rw [← hi']; exact hm, hf⟩
        by_cases h1 : (i : Int) < keys.length
        · have h2 : ¬ (i : Int) < 200 := by omega
          simp -implicitDefEqProofs [F11_b0_v, F11_b0v, hvl, lss_int, h1, h2, pick_bool, fin]
        · simp -implicitDefEqProofs [F11_b0_v, F11_b0v, hvl, lss_int, h1, pick_bool, fin])
    (min keys.length 200 - 0) [v, .pointer none, cv (0 : Nat), undef, pv H.length] H1 ⟨0, _, _, Nat.zero_le _, rfl, rfl, m1, f1⟩ (n + 4) (by omega)
  obtain ⟨e, vs, H'⟩ := r
  simp only at e2 e3
  obtain ⟨⟨d1, d2, rfl⟩, e4, e5⟩ := e3
  subst e2
  refine ⟨H', o', ?_, e4, e5⟩
  simp only [Int.natCast_zero] at hit
  simp -implicitDefEqProofs [F11, abM0, b1, hit, F11_j1_v, F11_j1v]
end
end Go.Proofs.Ytdgolnenpnkjbaa.Fun
