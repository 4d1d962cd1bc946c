/- node's functions over the abstract machine: what each comes to. -/
import Derived.Test.YtpenlcigickkbaaFun0
import Derived.Test.YtpenlcigickkbaaFun1
import Derived.Test.YtpenlcigickkbaaFun2
import Derived.Test.YtpenlcigickkbaaFun3
import Derived.Test.YtpenlcigickkbaaFun4
import Derived.Test.YtpenlcigickkbaaFun5
import Derived.Test.YtpenlcigickkbaaRef
namespace Go.Proofs.Ytpenlcigickkbaa.Fun
open Go.RowKit Go.Proofs.YtpenlcigickkbaaA.Am
set_option linter.unusedVariables false
set_option linter.unusedSimpArgs false
theorem bI1 (a : Int) (H : Heap) : abuildSlice Try.prog 28 1 [(0, cv a)] H = some (.slice (some ⟨H.length, 0, none⟩) 1 1, H.new ⟨[cv a], 2, 1, false⟩) := by kernel_rfl
theorem bI2 (a b : Int) (H : Heap) : abuildSlice Try.prog 28 2 [(0, cv a), (1, cv b)] H = some (.slice (some ⟨H.length, 0, none⟩) 2 2, H.new ⟨[cv a, cv b], 2, 1, false⟩) := by kernel_rfl
theorem bI5 (a b c d e : Int) (H : Heap) : abuildSlice Try.prog 28 5 [(0, cv a), (1, cv b), (2, cv c), (3, cv d), (4, cv e)] H = some (.slice (some ⟨H.length, 0, none⟩) 5 5, H.new ⟨[cv a, cv b, cv c, cv d, cv e], 2, 1, false⟩) := by kernel_rfl
theorem bJ2 (a b : Int) (H : Heap) : abuildSlice Try.prog 22 2 [(0, cv a), (1, cv b)] H = some (.slice (some ⟨H.length, 0, none⟩) 2 2, H.new ⟨[cv a, cv b], 3, 1, false⟩) := by kernel_rfl
theorem bJ3 (a b c : Int) (H : Heap) : abuildSlice Try.prog 22 3 [(0, cv a), (1, cv b), (2, cv c)] H = some (.slice (some ⟨H.length, 0, none⟩) 3 3, H.new ⟨[cv a, cv b, cv c], 3, 1, false⟩) := by kernel_rfl
theorem bS3 (b1 b2 b3 : Option Addr) (n1 n2 n3 c1 c2 c3 : Nat) (H : Heap) : abuildSlice Try.prog 97 3 [(0, .slice b1 n1 c1), (1, .slice b2 n2 c2), (2, .slice b3 n3 c3)] H =
    some (.slice (some ⟨H.length, 0, none⟩) 3 3, H.new ⟨[.slice b1 n1 c1, .slice b2 n2 c2, .slice b3 n3 c3], 28, 1, false⟩) := by kernel_rfl
/-- What a record's words come to: a new slice. -/
def Told (G : Oracle) (n f : Nat) (args : List Value) (H : Heap) (o : Own) (r : Int) (l : List Int) : Prop :=
  ∃ s H' o', run G n f args H = some (s, H') ∧ Sli H' o' r s l ∧ Fr H o H' o' []
section
variable {G : Oracle} {H : Heap} {o : Own}
theorem Leaf_runs (r : Int) (k v : Int) (n : Nat) : Told G (n + 1) 38 [cv k, cv v] H o r [k, v] :=
  ⟨_, _, _, by rw [F38_eq]; simp -implicitDefEqProofs [F38, bI2], Sli.new H o r 2 [k, v], (Fr.refl _ _ _).new _ _⟩
theorem Empty_runs (r : Int) (n : Nat) : Told G (n + 1) 40 [] H o r [0] :=
  ⟨_, _, _, by rw [F40_eq]; simp -implicitDefEqProofs [F40, bI1], Sli.new H o r 2 [0], (Fr.refl _ _ _).new _ _⟩
theorem Rebuild_runs (r : Int) (a b c : Int) (n : Nat) : Told G (n + 1) 43 [cv a, cv b, cv c] H o r [a, b, c, 0, 0] :=
  ⟨_, _, _, by rw [F43_eq]; simp -implicitDefEqProofs [F43, bI5], Sli.new H o r 2 [a, b, c, 0, 0], (Fr.refl _ _ _).new _ _⟩
theorem Dcss_runs (r : Int) (a b c d : Int) (n : Nat) : Told G (n + 1) 45 [cv a, cv b, cv c, cv d] H o r [a, b, c, d, 0] :=
  ⟨_, _, _, by rw [F45_eq]; simp -implicitDefEqProofs [F45, bI5], Sli.new H o r 2 [a, b, c, d, 0], (Fr.refl _ _ _).new _ _⟩
theorem cap_nil (H : Heap) : abuiltin Try.prog .cap #[28] [.slice none 0 0] H = some (cv 0, H) := by kernel_rfl
theorem zeros_cv (k : Nat) : zeros [cv 0] k = (List.replicate k (0 : Int)).map cv := by
  unfold zeros
  induction k with
  | zero => rfl
  | succ k ih => simp only [List.replicate_succ, List.flatten_cons, ih, List.map_cons, List.singleton_append]
theorem app_zeros (k : Nat) (h : 0 < k ∧ k ≤ 4294967296) (H : Heap) : abuiltin Try.prog .append #[28, 3] [.slice none 0 0, cv k] H = some (.slice (some ⟨H.length, 0, none⟩) k k, H.new ⟨(List.replicate k (0 : Int)).map cv, 2, 1, false⟩) := by
  have h1 : Try.prog.underlying 3 = some (.int .i64) := by kernel_rfl
  have h2 : szOf Try.prog 2 = some 1 := by kernel_rfl
  have h3 : bytesOfT Try.prog 2 = some 8 := by kernel_rfl
  have h4 : zeroOf Try.prog 2 = some (cv 0) := by kernel_rfl
  have h5 : ((cv 0).cells.toList) = [cv 0] := rfl
  have g1 : (0 : Int) ≤ k ∧ (k : Int) ≤ 4294967296 ∧ 8 ≤ 4096 := by omega
  have g2 : ¬ (k = 0) := by omega
  simp only [abuiltin, aappend, List.getElem?_toArray, agot]
  simp [-List.map_replicate, slI, h1, h2, h3, h4, h5, zeros_cv, g1, g2]
  omega
theorem Grow_runs (k : Nat) (h : 0 < k ∧ k ≤ 4294967296) (n : Nat) : run G (n + 1) 82 [.slice none 0 0, cv k] H = some (.slice (some ⟨H.length, 0, none⟩) 0 k, H.new ⟨(List.replicate k (0 : Int)).map cv, 2, 1, false⟩) := by
  rw [F82_eq]
  have g1 : ¬ ((k : Int) < 0) := by omega
  have g2 : (k : Int) > 0 := by omega
  have hw : IntKind.i64.wrap (k : Int) = k := w64 (by omega)
  have hw0 : IntKind.i64.wrap 0 = 0 := by decide
  have hs0 : ∀ H, scut 1 H (.slice none 0 0) none (some (cv 0)) = some (.slice none 0 0) := fun H => by simp [scut, boundOf, intOfV]
  have hs1 : scut 1 (H.new ⟨(List.replicate k (0 : Int)).map cv, 2, 1, false⟩) (.slice (some ⟨H.length, 0, none⟩) k k) none (some (cv 0)) = some (.slice (some ⟨H.length, 0, none⟩) 0 k) := by
    simp [-List.map_replicate, scut, boundOf, intOfV, get_new]
  simp -implicitDefEqProofs [-gt_iff_lt, -Int.natCast_pos, -List.map_replicate, F82, F82_j1_v, F82_j1v, F82_j0_v, F82_j0v, lss_int, g1, g2, cap_nil, slen_s, sub_int, hw, hw0, gtr_int, hs0, app_zeros k h, hs1]
/-- slices.Concat of three. -/
theorem Concat_runs {q1 q2 q3 : Int} {s1 s2 s3 : Value} {l1 l2 l3 : List Int} (h1 : IntsR H o q1 s1 l1) (h2 : IntsR H o q2 s2 l2) (h3 : IntsR H o q3 s3 l3) (r : Int) (hr : q1 ≠ r ∧ q2 ≠ r ∧ q3 ≠ r) {B : Nat} {t : TypeId} (hB : H.get B = some ⟨[s1, s2, s3], t, 1, false⟩) (hoB : o B ≠ r)
    (hk : 0 < l1.length + l2.length + l3.length) (hb1 : l1.length ≤ 65536) (hb2 : l2.length ≤ 65536) (hb3 : l3.length ≤ 65536) (n : Nat) :
    Told G (n + 10) 74 [.slice (some ⟨B, 0, none⟩) 3 3] H o r (l1 ++ l2 ++ l3) := by
  have f1 : Fr H o (H.new ⟨(List.replicate (l1.length + l2.length + l3.length) (0 : Int)).map cv, 2, 1, false⟩) (o.up H.length r) [] := (Fr.refl _ _ _).new _ _
  have eg := Grow_runs (G := G) (H := H) (l1.length + l2.length + l3.length) (by omega) (n + 8)
  have s0 : Sli (H.new ⟨(List.replicate (l1.length + l2.length + l3.length) (0 : Int)).map cv, 2, 1, false⟩) (o.up H.length r) r (.slice (some ⟨H.length, 0, none⟩) 0 (l1.length + l2.length + l3.length)) [] :=
    .inr ⟨H.length, _, (List.replicate (l1.length + l2.length + l3.length) (0 : Int)).map cv, 2, rfl, by simpa using get_new, by simp, up_self⟩
  generalize H.new ⟨(List.replicate (l1.length + l2.length + l3.length) (0 : Int)).map cv, 2, 1, false⟩ = H1 at f1 eg s0
  generalize o.up H.length r = o1 at f1 s0
  obtain ⟨t1, H2, o2, e2, c2, f2, u2⟩ := app_spec 2 s0 (h1.fr f1 (by simp)).1 (by simp; omega)
  rw [List.nil_append] at c2
  obtain ⟨t2, H3, o3, e3, c3, f3, u3⟩ := app_spec 2 c2 ((h2.fr f1 (by simp)).fr f2 (by simpa using hr.2.1)).1 (by omega)
  obtain ⟨t3, H4, o4, e4, c4, f4, u4⟩ := app_spec 2 c3 (((h3.fr f1 (by simp)).fr f2 (by simpa using hr.2.2)).fr f3 (by simpa using hr.2.2)).1 (by simp; omega)
  have hBl := get_lt hB
  have hB1 : H1.get B = some ⟨[s1, s2, s3], t, 1, false⟩ := by rw [f1.same B hBl (by simp)]; exact hB
  have ho1 : o1 B ≠ r := by rw [f1.own B hBl]; exact hoB
  have hB2 : H2.get B = some ⟨[s1, s2, s3], t, 1, false⟩ := by rw [f2.same B (get_lt hB1) (by simpa using ho1)]; exact hB1
  have ho2 : o2 B ≠ r := by rw [f2.own B (get_lt hB1)]; exact ho1
  have hB3 : H3.get B = some ⟨[s1, s2, s3], t, 1, false⟩ := by rw [f3.same B (get_lt hB2) (by simpa using ho2)]; exact hB2
  have hl1 := h1.1.len
  have hl2 := h2.1.len
  have hl3 := h3.1.len
  have i0 : ∀ H, iadS 1 (.slice (some ⟨B, 0, none⟩) 3 3) (cv 0) H = some (.pointer (some ⟨B, 0, none⟩), H) := fun H => by simp [iadS]
  have i1 : ∀ H, iadS 1 (.slice (some ⟨B, 0, none⟩) 3 3) (cv 1) H = some (.pointer (some ⟨B, 1, none⟩), H) := fun H => by simp [iadS]
  have i2 : ∀ H, iadS 1 (.slice (some ⟨B, 0, none⟩) 3 3) (cv 2) H = some (.pointer (some ⟨B, 2, none⟩), H) := fun H => by simp [iadS]
  have w1 : IntKind.i64.wrap (0 + (l1.length : Int)) = l1.length := by rw [w64 (by omega)]; omega
  have w1' : IntKind.i64.wrap (l1.length : Int) = l1.length := w64 (by omega)
  have w2 : IntKind.i64.wrap ((l1.length : Int) + l2.length) = (l1.length : Int) + l2.length := w64 (by omega)
  have w3 : IntKind.i64.wrap ((l1.length : Int) + l2.length + l3.length) = ((l1.length + l2.length + l3.length : Nat) : Int) := by rw [w64 (by omega)]; omega
  have k1 : IntKind.i64.wrap (0 + 1) = 1 := by decide
  have k1' : IntKind.i64.wrap 1 = 1 := by decide
  have k2 : IntKind.i64.wrap (1 + 1) = 2 := by decide
  have k2' : IntKind.i64.wrap 2 = 2 := by decide
  have k3 : IntKind.i64.wrap (2 + 1) = 3 := by decide
  have k3' : IntKind.i64.wrap 3 = 3 := by decide
  have g1 : ¬ ((l1.length : Int) < 0) := by omega
  have g2 : ¬ ((l1.length : Int) + l2.length < 0) := by omega
  have g3 : ¬ (((l1.length + l2.length + l3.length : Nat) : Int) < 0) := by omega
  have hz1 := f1.size
  have hz2 := f2.size
  have hz3 := f3.size
  have hz4 := f4.size
  have hlt : ∀ i, i < H.length → H4.get i = H.get i ∧ o4 i = o i := by
    intro i hi
    obtain ⟨a1, a2, a3⟩ := u2 i (fun n k e => by cases e; omega) (by omega)
    obtain ⟨b1, b2, b3⟩ := u3 i a3 (by omega)
    obtain ⟨d1, d2, _⟩ := u4 i b3 (by omega)
    exact ⟨by rw [d1, b1, a1, f1.same i hi (by simp)], by rw [d2, b2, a2, f1.own i hi]⟩
  refine ⟨t3, H4, o4, ?_, c4, ⟨fun i hi _ => (hlt i hi).1, fun i hi => (hlt i hi).2, by omega⟩⟩
  · rw [F74_eq]
    simp -implicitDefEqProofs [-Int.natCast_add, F74, F74_j1_v, F74_j1v, F74_j4_v, F74_j4v, F74_j2_v, F74_j2v, F74_b0_v, F74_b0v, F74_b3_v, F74_b3v, iter, slen_s, lss_int, i0, i1, i2, ld1_pv _ _ _ hB, ld1_pv _ _ _ hB1, ld1_pv _ _ _ hB2, ld1_pv _ _ _ hB3, hl1, hl2, hl3, add_int, w1, w1', w2, w3, k1, k1', k2, k2', k3, k3', g1, g2, g3, fin, eg, e2, e3, e4]
/-- An Inner's cells. -/
def innerW (size : Int) (q c : List Int) : List Int := if c.length = q.length + 1 then [(c.length : Int), size, 0, 0, 0] ++ q ++ c else []
theorem Inner_runs {q1 q2 : Int} {xq xc : Value} {q c : List Int} (size : Int) (hq : IntsR H o q1 xq q) (hc : IntsR H o q2 xc c) (r : Int) (h1 : q1 ≠ r) (h2 : q2 ≠ r) (hb1 : q.length ≤ 65536) (hb2 : c.length ≤ 65536) (n : Nat) :
    Told G (n + 12) 37 [cv size, xq, xc] H o r (innerW size q c) := by
  have hql := hq.1.len
  have hcl := hc.1.len
  have w1 : IntKind.i64.wrap ((q.length : Int) + 1) = (q.length : Int) + 1 := w64 (by omega)
  have w2 : IntKind.i64.wrap (c.length : Int) = c.length := w64 (by omega)
  by_cases he : c.length = q.length + 1
  · have he' : (c.length : Int) = (q.length : Int) + 1 := by omega
    have f1 : Fr H o (H.new ⟨[cv c.length, cv size, cv 0, cv 0, cv 0], 2, 1, false⟩) (o.up H.length (r - 1)) [] := (Fr.refl _ _ _).new _ _
    have s1 : IntsR (H.new ⟨[cv c.length, cv size, cv 0, cv 0, cv 0], 2, 1, false⟩) (o.up H.length (r - 1)) (r - 1) (.slice (some ⟨H.length, 0, none⟩) 5 5) [(c.length : Int), size, 0, 0, 0] := (Sli.new H o (r - 1) 2 [(c.length : Int), size, 0, 0, 0]).ints
    have hb := bI5 (c.length : Int) size 0 0 0 H
    generalize H.new ⟨[cv c.length, cv size, cv 0, cv 0, cv 0], 2, 1, false⟩ = H1 at f1 s1 hb
    generalize o.up H.length (r - 1) = o1 at f1 s1
    obtain ⟨bq, cq, rfl⟩ := hq.1.isSlice
    obtain ⟨bc, cc, rfl⟩ := hc.1.isSlice
    have hb3 := bS3 (some ⟨H.length, 0, none⟩) bq bc 5 q.length c.length 5 cq cc H1
    have f2 : Fr H1 o1 (H1.new ⟨[.slice (some ⟨H.length, 0, none⟩) 5 5, .slice bq q.length cq, .slice bc c.length cc], 28, 1, false⟩) (o1.up H1.length (r - 1)) [] := (Fr.refl _ _ _).new _ _
    have g2 : (H1.new ⟨[.slice (some ⟨H.length, 0, none⟩) 5 5, .slice bq q.length cq, .slice bc c.length cc], 28, 1, false⟩).get H1.length = some ⟨[.slice (some ⟨H.length, 0, none⟩) 5 5, .slice bq q.length cq, .slice bc c.length cc], 28, 1, false⟩ := get_new
    generalize H1.new ⟨[.slice (some ⟨H.length, 0, none⟩) 5 5, .slice bq q.length cq, .slice bc c.length cc], 28, 1, false⟩ = H2 at f2 g2 hb3
    obtain ⟨s, H3, o3, e3, c3, f3⟩ := Concat_runs (G := G) (s1.fr f2 (by simp)) ((hq.fr f1 (by simp)).fr f2 (by simp)) ((hc.fr f1 (by simp)).fr f2 (by simp)) r (by omega) g2 (by rw [up_self]; omega) (by simp; omega) (by simp) hb1 hb2 (n + 1)
    refine ⟨s, H3, o3, ?_, ?_, (f1.tr f2).tr f3⟩
    · rw [F37_eq]
      simp -implicitDefEqProofs [F37, slen_s, add_int, w1, neq_int, eq_true he', w2, hb, hb3, e3]
    · unfold innerW; rw [if_pos he]; exact c3
  · have he' : ¬ (c.length : Int) = (q.length : Int) + 1 := by omega
    refine ⟨.slice none 0 0, H, o, ?_, ?_, .refl _ _ _⟩
    · rw [F37_eq]
      simp -implicitDefEqProofs [F37, hql, hcl, add_int, w1, neq_int, he']
    · unfold innerW; rw [if_neg he]; exact .inl ⟨rfl, rfl⟩
/-- May an address be reckoned of it? -/
def nearI (x : Int) : Bool := decide (0 ≤ x ∧ x ≤ 1099511627776)
theorem near1_runs (x : Int) (n : Nat) (H : Heap) : run G (n + 1) 84 [cv x] H = some (.bool (!nearI x), H) := by
  rw [F84_eq]
  by_cases h1 : x < 0
  · have : nearI x = false := by unfold nearI; simp; omega
    simp -implicitDefEqProofs [F84, lss_int, h1, pick_bool, this]
  · by_cases h2 : x > 1099511627776
    · have : nearI x = false := by unfold nearI; simp; omega
      simp -implicitDefEqProofs [-gt_iff_lt, F84, lss_int, gtr_int, h1, h2, pick_bool, this]
    · have : nearI x = true := by unfold nearI; simp; omega
      simp -implicitDefEqProofs [-gt_iff_lt, F84, lss_int, gtr_int, h1, h2, pick_bool, this]
theorem index_runs {X : Value} {l : List Int} (hX : Ints H X l) (hl : l.length ≤ 20) (n : Nat) :
    ∃ r : Int, run G (n + 30) 85 [X, .func (.func 84) #[] #[]] H = some (cv r, H) ∧ (0 ≤ r ↔ l.all nearI = false) := by
  have hXl := hX.len
  obtain ⟨r, hit, hne, hH, hr⟩ := iter_go (step := F85_b0 (run G (n + 29)) (n + 29))
    (Q := fun k vs H' => H' = H ∧ ∃ (j : Nat) (d9 d5 d16 : Value), j + k = l.length ∧ (l.take j).all nearI = true ∧ vs = [X, .func (.func 84) #[] #[], cv 0, cv j, cv l.length, d9, d5, d16])
    (R := fun r => r.2.2 = H ∧ ((l.all nearI = true ∧ r.1 = .exit 0) ∨ (l.all nearI = false ∧ r.1 = .ret ∧ ∃ (j : Nat) (d8 d9 d5 d16 : Value), r.2.1 = [X, .func (.func 84) #[] #[], cv j, d8, cv l.length, d9, d5, d16])))
    (by
      rintro k vs H' ⟨rfl, j, d9, d5, d16, hj, ht, rfl⟩
      cases k with
      | zero =>
        have h1 : ¬ ((j : Int) < l.length) := by omega
        refine .inr ⟨(.exit 0, [X, .func (.func 84) #[] #[], cv 0, cv j, cv l.length, .bool false, d5, d16], H'), ?_, by simp, rfl, .inl ⟨?_, rfl⟩⟩
        · simp -implicitDefEqProofs [F85_b0_v, F85_b0v, lss_int, h1, fin]
        · rw [List.take_of_length_le (by omega)] at ht; exact ht
      | succ k =>
        have h1 : ((j : Int) < l.length) := by omega
        obtain ⟨i, off, b, hix, hb, hc⟩ := hX.idx (j := j) (by omega)
        have hn := near1_runs (G := G) (l.getD j 0) (n + 28) H'
        have hw : IntKind.i64.wrap ((j : Int) + 1) = ((j + 1 : Nat) : Int) := by rw [w64 (by omega)]; omega
        have hjl : j < l.length := by omega
        have hget : l.getD j 0 = l[j] := by rw [List.getD_eq_getElem?_getD, List.getElem?_eq_getElem hjl]; rfl
        cases hv : nearI (l.getD j 0) with
        | true =>
          refine .inl ⟨[X, .func (.func 84) #[] #[], cv 0, cv ((j + 1 : Nat) : Int), cv l.length, .bool true, cv j, .bool false], H', k, Nat.lt_succ_self k, ?_, rfl, j + 1, _, _, _, by omega, ?_, rfl⟩
          · rw [hv] at hn
            simp -implicitDefEqProofs [-List.getD_eq_getElem?_getD, -Int.natCast_add, F85_b0_v, F85_b0v, lss_int, h1, hix, ld1_pv _ _ _ hb, hc, dynC, hn, add_int, hw, fin]
          · rw [List.take_add_one, List.all_append, ht, List.getElem?_eq_getElem hjl]
            rw [hget] at hv
            simp [hv]
        | false =>
          refine .inr ⟨(.ret, [X, .func (.func 84) #[] #[], cv j, cv j, cv l.length, .bool true, cv j, .bool true], H'), ?_, by simp, rfl, .inr ⟨?_, rfl, j, _, _, _, _, rfl⟩⟩
          · rw [hv] at hn
            simp -implicitDefEqProofs [-List.getD_eq_getElem?_getD, -Int.natCast_add, F85_b0_v, F85_b0v, lss_int, h1, hix, ld1_pv _ _ _ hb, hc, dynC, hn, add_int, hw, fin]
          · rw [List.all_eq_false]; exact ⟨l[j], List.getElem_mem hjl, by rw [← hget, hv]; simp⟩)
    l.length [X, .func (.func 84) #[] #[], cv 0, cv (0 : Nat), cv l.length, undef, undef, undef] H ⟨rfl, 0, _, _, _, by omega, rfl, rfl⟩ (n + 29) (by omega)
  obtain ⟨e, vs, H2⟩ := r
  simp only at hH hr; subst hH
  have hit' : iter (n + 29) (F85_b0 (run G (n + 29)) (n + 29)) [X, .func (.func 84) #[] #[], cv 0, cv 0, cv l.length, undef, undef, undef] H2 = some (e, vs, H2) := hit
  rcases hr with ⟨ha, rfl⟩ | ⟨ha, rfl, j, d8, d9, d5, d16, rfl⟩
  · refine ⟨-1, ?_, by rw [ha]; simp⟩
    rw [F85_eq]
    simp -implicitDefEqProofs [F85, hXl, hit', F85_j1]
  · refine ⟨j, ?_, by rw [ha]; simp⟩
    rw [F85_eq]
    simp -implicitDefEqProofs [F85, hXl, hit', resK, Env.get]
theorem near_runs {X : Value} {l : List Int} (hX : Ints H X l) (hl : l.length ≤ 20) (n : Nat) : run G (n + 32) 75 [X] H = some (.bool (l.all nearI), H) := by
  obtain ⟨r, e, hr⟩ := index_runs (G := G) hX hl n
  have e2 : run G (n + 31) 83 [X, .func (.func 84) #[] #[]] H = some (.bool (decide (r ≥ 0)), H) := by
    rw [F83_eq]
    simp -implicitDefEqProofs [-ge_iff_le, F83, e, geq_int]
  rw [F75_eq]
  have : (!decide (r ≥ 0)) = l.all nearI := by
    cases ha : l.all nearI with
    | true => simp; have := mt hr.1 (by simp [ha]); omega
    | false => simp; exact hr.2 ha
  simp -implicitDefEqProofs [-ge_iff_le, F75, e2, not_bool, this]
def keyAtI (a i : Int) : Int := if nearI a && nearI i then a + 4 + i else 0
def childAtI (a d i : Int) : Int := if nearI a && nearI d && nearI i then a + 4 + d + i else 0
theorem nearI_iff (x : Int) : nearI x = true ↔ (0 ≤ x ∧ x ≤ 1099511627776) := by simp [nearI]
theorem KeyAt_runs (a i : Int) (n : Nat) : ∃ H' o', run G (n + 33) 47 [cv a, cv i] H = some (cv (keyAtI a i), H') ∧ Fr H o H' o' [] := by
  have f1 : Fr H o (H.new ⟨[cv a, cv i], 3, 1, false⟩) (o.up H.length (-9)) [] := (Fr.refl _ _ _).new _ _
  have s1 : IntsR (H.new ⟨[cv a, cv i], 3, 1, false⟩) (o.up H.length (-9)) (-9) (.slice (some ⟨H.length, 0, none⟩) 2 2) [a, i] := (Sli.new H o (-9) 3 [a, i]).ints
  have e := near_runs (G := G) s1.1 (by simp) n
  refine ⟨_, _, ?_, f1⟩
  rw [F47_eq]
  have ea : [a, i].all nearI = (nearI a && nearI i) := by simp
  rw [ea] at e
  cases hb : nearI a && nearI i with
  | true =>
    have := hb
    simp only [Bool.and_eq_true, nearI_iff] at this
    have w1 : IntKind.i64.wrap (a + 4) = a + 4 := w64 (by omega)
    have w2 : IntKind.i64.wrap (a + 4 + i) = a + 4 + i := w64 (by omega)
    rw [hb] at e
    simp -implicitDefEqProofs [F47, bJ2, e, not_bool, add_int, w1, w2, keyAtI, hb]
  | false =>
    rw [hb] at e
    simp -implicitDefEqProofs [F47, bJ2, e, not_bool, keyAtI, hb]
theorem ChildAt_runs (a d i : Int) (n : Nat) : ∃ H' o', run G (n + 33) 49 [cv a, cv d, cv i] H = some (cv (childAtI a d i), H') ∧ Fr H o H' o' [] := by
  have f1 : Fr H o (H.new ⟨[cv a, cv d, cv i], 3, 1, false⟩) (o.up H.length (-9)) [] := (Fr.refl _ _ _).new _ _
  have s1 : IntsR (H.new ⟨[cv a, cv d, cv i], 3, 1, false⟩) (o.up H.length (-9)) (-9) (.slice (some ⟨H.length, 0, none⟩) 3 3) [a, d, i] := (Sli.new H o (-9) 3 [a, d, i]).ints
  have e := near_runs (G := G) s1.1 (by simp) n
  refine ⟨_, _, ?_, f1⟩
  rw [F49_eq]
  have ea : [a, d, i].all nearI = (nearI a && nearI d && nearI i) := by simp [Bool.and_assoc]
  rw [ea] at e
  cases hb : nearI a && nearI d && nearI i with
  | true =>
    have := hb
    simp only [Bool.and_eq_true, nearI_iff] at this
    have w1 : IntKind.i64.wrap (a + 4) = a + 4 := w64 (by omega)
    have w2 : IntKind.i64.wrap (a + 4 + d) = a + 4 + d := w64 (by omega)
    have w3 : IntKind.i64.wrap (a + 4 + d + i) = a + 4 + d + i := w64 (by omega)
    rw [hb] at e
    simp -implicitDefEqProofs [F49, bJ3, e, not_bool, add_int, w1, w2, w3, childAtI, hb]
  | false =>
    rw [hb] at e
    simp -implicitDefEqProofs [F49, bJ3, e, not_bool, childAtI, hb]
/-- A memory that is begun. -/
def MV.begun (M : MV) : MV := { M with cs := [1, 0, 0, 0, 0, 57, 0], cnt := IntKind.i64.wrap (IntKind.i64.wrap (M.cnt + 1) + 1) }
theorem Begin_runs {p : Nat} {M : MV} (h : MemR H o p M) (hcs : M.cs = []) (hm : 7 ≤ M.max ∧ M.max ≤ 65536) (n : Nat) :
    ∃ H' o', run G (n + 13) 51 [pv p] H = some (.bool true, H') ∧ MemR H' o' p M.begun ∧ Fr H o H' o' [p] := by
  have e0 := Used_runs (G := G) h (n + 11)
  rw [hcs] at e0
  have e1 := Size_runs (G := G) h (n + 11)
  have e2 := Of_runs (G := G) (n + 10) 1 7 H
  have hof : ofI 1 7 = 57 := by decide
  rw [hof] at e2
  have f1 : Fr H o (H.new ⟨[cv 57], 2, 1, false⟩) (o.up H.length (-11)) [] := (Fr.refl _ _ _).new _ _
  have s1 : IntsR (H.new ⟨[cv 57], 2, 1, false⟩) (o.up H.length (-11)) (-11) (.slice (some ⟨H.length, 0, none⟩) 1 1) [57] := (Sli.new H o (-11) 2 [57]).ints
  have hb := bI1 57 H
  generalize H.new ⟨[cv 57], 2, 1, false⟩ = H1 at f1 s1 hb
  generalize o.up H.length (-11) = o1 at f1 s1
  obtain ⟨s, H2, o2, e3, c3, f3⟩ := Inner_runs (G := G) (H := H1) (o := o1) (q1 := -5) 0 IntsR.nil s1 (-10) (by omega) (by omega) (by simp) (by simp) n
  have hin : innerW 0 [] [57] = [1, 0, 0, 0, 0, 57] := by decide
  rw [hin] at c3
  have m2 := (h.fr f1 (by simp)).fr f3 (by simp)
  obtain ⟨H3, o3, e4, m3, f4⟩ := Make_runs (G := G) m2 c3.ints (by omega) (by omega) (by rw [hcs]; simp; omega) (by simp) (n + 11)
  have r1 : M.room ([1, 0, 0, 0, 0, 57] : List Int).length = true := by simp [MV.room, hcs]; omega
  have hm1 : M.made [1, 0, 0, 0, 0, 57] = { M with cnt := IntKind.i64.wrap (M.cnt + 1), cs := [1, 0, 0, 0, 0, 57] } := by unfold MV.made; rw [r1, hcs]; rfl
  rw [hm1] at m3
  obtain ⟨t, H4, o4, e5, c5, f5⟩ := Empty_runs (G := G) (H := H3) (o := o3) (-12) (n + 11)
  have m4 := m3.fr f5 (by simp)
  obtain ⟨H5, o5, e6, m5, f6⟩ := Make_runs (G := G) m4 c5.ints (by omega) (by show 0 ≤ M.max ∧ M.max ≤ 65536; omega) (by show ((6 : Nat) : Int) ≤ M.max; omega) (by simp) (n + 11)
  have r2 : MV.room { M with cnt := IntKind.i64.wrap (M.cnt + 1), cs := [1, 0, 0, 0, 0, 57] } ([0] : List Int).length = true := by simp [MV.room]; omega
  have hm2 : MV.made { M with cnt := IntKind.i64.wrap (M.cnt + 1), cs := [1, 0, 0, 0, 0, 57] } [0] = M.begun := by unfold MV.made; rw [r2]; rfl
  rw [hm2] at m5
  have g1 : ¬ (M.max < 7) := by omega
  refine ⟨H5, o5, ?_, m5, ((((f1.wk (by simp)).tr (f3.wk (by simp))).tr f4).tr (f5.wk (by simp))).tr f6⟩
  rw [F51_eq]
  simp -implicitDefEqProofs [F51, e0, e1, neq_int, lss_int, g1, pick_bool, e2, hb, e3, e4, e5, e6]
theorem Begin_bad {p : Nat} {M : MV} (h : MemR H o p M) (hb : ¬ (M.cs = [] ∧ 7 ≤ M.max)) (n : Nat) :
    run G (n + 13) 51 [pv p] H = some (.bool false, H) := by
  have e0 := Used_runs (G := G) h (n + 11)
  have e1 := Size_runs (G := G) h (n + 11)
  rw [F51_eq]
  by_cases hc : (M.cs.length : Int) = 0
  · have hcs : M.cs = [] := List.length_eq_zero_iff.1 (by omega)
    have g1 : M.max < 7 := by
      have h7 : ¬ (7 ≤ M.max) := fun h => hb ⟨hcs, h⟩
      omega
    simp -implicitDefEqProofs [-Int.natCast_eq_zero, F51, e0, e1, neq_int, hc, lss_int, g1, pick_bool]
  · simp -implicitDefEqProofs [-Int.natCast_eq_zero, -List.length_eq_zero_iff, F51, e0, e1, neq_int, hc, pick_bool]
end
end Go.Proofs.Ytpenlcigickkbaa.Fun
