/- The document's words of records over the abstract machine. -/
import Derived.Test.YtpenlcigickkbaaFun0
import Derived.Test.YtpenlcigickkbaaFun1
import Derived.Test.YtpenlcigickkbaaFun4
import Derived.Test.YtpenlcigickkbaaFun5
import Derived.Test.YtpenlcigickkbaaNode
namespace Go.Proofs.Ytpenlcigickkbaa.Fun
open Go.RowKit Go.Proofs.YtpenlcigickkbaaA.Am
set_option linter.unusedVariables false
set_option linter.unusedSimpArgs false
section
variable {G : Oracle} {H : Heap} {o : Own}
theorem RLeaf_runs (r : Int) (k v : Int) (n : Nat) : Told G (n + 1) 39 [cv k, cv v] H o r [k, v] :=
  ⟨_, _, _, by rw [F39_eq]; simp -implicitDefEqProofs [F39, bI2], Sli.new H o r 2 [k, v], (Fr.refl _ _ _).new _ _⟩
theorem REmpty_runs (r : Int) (n : Nat) : Told G (n + 1) 41 [] H o r [0] :=
  ⟨_, _, _, by rw [F41_eq]; simp -implicitDefEqProofs [F41, bI1], Sli.new H o r 2 [0], (Fr.refl _ _ _).new _ _⟩
theorem RRebuild_runs (r : Int) (a b c : Int) (n : Nat) : Told G (n + 1) 44 [cv a, cv b, cv c] H o r [a, b, c, 0, 0] :=
  ⟨_, _, _, by rw [F44_eq]; simp -implicitDefEqProofs [F44, bI5], Sli.new H o r 2 [a, b, c, 0, 0], (Fr.refl _ _ _).new _ _⟩
theorem RDcss_runs (r : Int) (a b c d : Int) (n : Nat) : Told G (n + 1) 46 [cv a, cv b, cv c, cv d] H o r [a, b, c, d, 0] :=
  ⟨_, _, _, by rw [F46_eq]; simp -implicitDefEqProofs [F46, bI5], Sli.new H o r 2 [a, b, c, d, 0], (Fr.refl _ _ _).new _ _⟩
theorem RInner_runs {q1 q2 : Int} {xq xc : Value} {q c : List Int} (size : Int) (hq : IntsR H o q1 xq q) (hc : IntsR H o q2 xc c) (r : Int) (h1 : q1 ≠ r) (h2 : q2 ≠ r) (hb1 : q.length ≤ 65536) (hb2 : c.length ≤ 65536) (n : Nat) :
    Told G (n + 1) 42 [cv size, xq, xc] H o r (innerW size q c) := by
  have hql := hq.1.len
  have hcl := hc.1.len
  have w1 : IntKind.i64.wrap ((q.length : Int) + 1) = (q.length : Int) + 1 := w64 (by omega)
  by_cases he : c.length = q.length + 1
  · have he' : (c.length : Int) = (q.length : Int) + 1 := by omega
    have f1 : Fr H o (H.new ⟨[cv c.length, cv size, cv 0, cv 0, cv 0], 2, 1, false⟩) (o.up H.length r) [] := (Fr.refl _ _ _).new _ _
    have s1 : Sli (H.new ⟨[cv c.length, cv size, cv 0, cv 0, cv 0], 2, 1, false⟩) (o.up H.length r) r (.slice (some ⟨H.length, 0, none⟩) 5 5) [(c.length : Int), size, 0, 0, 0] := Sli.new H o r 2 [(c.length : Int), size, 0, 0, 0]
    have hb := bI5 (c.length : Int) size 0 0 0 H
    generalize H.new ⟨[cv c.length, cv size, cv 0, cv 0, cv 0], 2, 1, false⟩ = H1 at f1 s1 hb
    generalize o.up H.length r = o1 at f1 s1
    obtain ⟨t2, H2, o2, e2, c2, f2, u2⟩ := app_spec 2 s1 (hq.fr f1 (by simp)).1 (by simp; omega)
    obtain ⟨t3, H3, o3, e3, c3, f3, u3⟩ := app_spec 2 c2 ((hc.fr f1 (by simp)).fr f2 (by simpa using h2)).1 (by simp; omega)
    have hz1 := f1.size
    have hz2 := f2.size
    have hz3 := f3.size
    have hlt : ∀ i, i < H.length → H3.get i = H.get i ∧ o3 i = o i := by
      intro i hi
      obtain ⟨a1, a2, a3⟩ := u2 i (fun n k e => by cases e; omega) (by omega)
      obtain ⟨b1, b2, _⟩ := u3 i a3 (by omega)
      exact ⟨by rw [b1, a1, f1.same i hi (by simp)], by rw [b2, a2, f1.own i hi]⟩
    refine ⟨t3, H3, o3, ?_, ?_, ⟨fun i hi _ => (hlt i hi).1, fun i hi => (hlt i hi).2, by omega⟩⟩
    · rw [F42_eq]
      simp -implicitDefEqProofs [F42, hql, hcl, add_int, w1, neq_int, eq_true he', hb, e2, e3]
    · unfold innerW; rw [if_pos he]; exact c3
  · have he' : ¬ (c.length : Int) = (q.length : Int) + 1 := by omega
    refine ⟨.slice none 0 0, H, o, ?_, ?_, .refl _ _ _⟩
    · rw [F42_eq]
      simp -implicitDefEqProofs [F42, hql, hcl, add_int, w1, neq_int, he']
    · unfold innerW; rw [if_neg he]; exact .inl ⟨rfl, rfl⟩
theorem within_runs (x : Int) (n : Nat) (H : Heap) : run G (n + 1) 76 [cv x] H = some (.bool (nearI x), H) := by
  rw [F76_eq]
  by_cases h1 : x ≥ 0
  · by_cases h2 : x ≤ 1099511627776
    · have : nearI x = true := by rw [nearI_iff]; omega
      simp -implicitDefEqProofs [-ge_iff_le, F76, geq_int, leq_int, h1, h2, pick_bool, this]
    · have : nearI x = false := by rw [← Bool.not_eq_true, nearI_iff]; omega
      simp -implicitDefEqProofs [-ge_iff_le, F76, geq_int, leq_int, h1, h2, pick_bool, this]
  · have : nearI x = false := by rw [← Bool.not_eq_true, nearI_iff]; omega
    simp -implicitDefEqProofs [-ge_iff_le, F76, geq_int, leq_int, h1, pick_bool, this]
theorem RKeyAt_runs (a i : Int) (n : Nat) (H : Heap) : run G (n + 2) 48 [cv a, cv i] H = some (cv (keyAtI a i), H) := by
  rw [F48_eq]
  have ha := fun H => within_runs (G := G) a n H
  have hi := fun H => within_runs (G := G) i n H
  unfold keyAtI
  cases h1 : nearI a with
  | false => simp -implicitDefEqProofs [F48, ha, h1, not_bool, pick_bool]
  | true =>
    cases h2 : nearI i with
    | false => simp -implicitDefEqProofs [F48, ha, hi, h1, h2, not_bool, pick_bool]
    | true =>
      rw [nearI_iff] at h1 h2
      have w1 : IntKind.i64.wrap (a + 4) = a + 4 := w64 (by omega)
      have w2 : IntKind.i64.wrap (a + 4 + i) = a + 4 + i := w64 (by omega)
      rw [← nearI_iff] at h1 h2
      simp -implicitDefEqProofs [F48, ha, hi, h1, h2, not_bool, pick_bool, add_int, w1, w2]
theorem RChildAt_runs (a d i : Int) (n : Nat) (H : Heap) : run G (n + 2) 50 [cv a, cv d, cv i] H = some (cv (childAtI a d i), H) := by
  rw [F50_eq]
  have ha := fun H => within_runs (G := G) a n H
  have hd := fun H => within_runs (G := G) d n H
  have hi := fun H => within_runs (G := G) i n H
  unfold childAtI
  cases h1 : nearI a with
  | false => simp -implicitDefEqProofs [F50, ha, h1, not_bool, pick_bool]
  | true =>
    cases h3 : nearI d with
    | false => simp -implicitDefEqProofs [F50, ha, hd, h1, h3, not_bool, pick_bool]
    | true =>
      cases h2 : nearI i with
      | false => simp -implicitDefEqProofs [F50, ha, hd, hi, h1, h2, h3, not_bool, pick_bool]
      | true =>
        rw [nearI_iff] at h1 h2 h3
        have w1 : IntKind.i64.wrap (a + 4) = a + 4 := w64 (by omega)
        have w2 : IntKind.i64.wrap (a + 4 + d) = a + 4 + d := w64 (by omega)
        have w3 : IntKind.i64.wrap (a + 4 + d + i) = a + 4 + d + i := w64 (by omega)
        rw [← nearI_iff] at h1 h2 h3
        simp -implicitDefEqProofs [F50, ha, hd, hi, h1, h2, h3, not_bool, pick_bool, add_int, w1, w2, w3]
end
end Go.Proofs.Ytpenlcigickkbaa.Fun
