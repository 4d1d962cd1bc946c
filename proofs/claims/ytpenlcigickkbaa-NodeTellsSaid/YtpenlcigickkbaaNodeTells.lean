/- NodeTells over the abstract machine. -/
import Derived.Test.YtpenlcigickkbaaFun4
import Derived.Test.YtpenlcigickkbaaFunNodeTells
import Derived.Test.YtpenlcigickkbaaNode7
import Derived.Test.YtpenlcigickkbaaKnown
import Derived.Test.YtpenlcigickkbaaFunNodeTells
namespace Go.Proofs.Ytpenlcigickkbaa.Fun
open Go.RowKit Go.Proofs.YtpenlcigickkbaaA.Am
set_option linter.unusedVariables false
set_option linter.unusedSimpArgs false
/-- The first ones of a slice. -/
theorem scut_take {H : Heap} {o : Own} {r : Int} {s : Value} {l : List Int} (h : Sli H o r s l) (k : Nat) (hk : k ≤ l.length) :
    ∃ s', (∀ H', (∀ i n c, s = .slice (some ⟨i, 0, none⟩) n c → H'.get i = H.get i) → scut 1 H' s none (some (cv k)) = some s') ∧ IntsR H o r s' (l.take k) := by
  rcases h with ⟨rfl, rfl⟩ | ⟨q, cap, rest, ty, rfl, hb, hc, ho⟩
  · simp at hk; subst hk
    exact ⟨.slice none 0 0, fun H' _ => by simp [scut, boundOf, intOfV], by simpa using IntsR.nil⟩
  · refine ⟨.slice (some ⟨q, 0, none⟩) k cap, fun H' hg => ?_, .inr ⟨q, 0, cap, by simp [hk], fun _ => ⟨_, hb, rfl, ?_, ?_⟩⟩, fun b n c e hne => ?_⟩
    · have := hg q _ _ rfl
      simp only [scut, boundOf, intOfV, this, hb]
      rw [if_pos (by omega)]; simp
    · simp; omega
    · simp only [List.drop_zero, List.length_take]
      rw [Nat.min_eq_left hk, List.take_append_of_le_length (by simpa using hk), List.map_take]
    · cases e; exact ⟨get_lt hb, ho⟩
theorem tells_pad {C : Oracle} {o : Own} {H : Heap} {v1 v2 v v4 v5 v6 v7 v16 v28 v18 v20 v57 v19 x : Value} {q l : List Int} {k : Int} {K : Nat} {oq : Int} (hv : IntsR H o oq v q) (hoq : oq ≠ -2) (hx : Sli H o (-2) x l) (v38 : Value) (hK : q.length + 1 < K) (h65 : q.length ≤ 300) (hl : l.length ≤ 300) :
    ∃ H' o' x' d38 l', iter K (F8_b0 C K) [cv k, v1, v2, v, v4, v5, v6, v7, v16, v28, x, v38, v18, v20, v57, v19] H =
      some (.exit 0, [cv k, v1, v2, v, v4, v5, v6, v7, v16, v28, x', d38, v18, v20, v57, v19], H') ∧ Sli H' o' (-2) x' l' ∧ q.length + 1 ≤ l'.length ∧ l'.length ≤ 601 ∧ Fr H o H' o' [-2] := by
  obtain ⟨r, hit, hne, h1, o', x', d38, l', h2, h3⟩ := iter_go (step := F8_b0 C K)
    (Q := fun m vs H' => ∃ (o' : Own) (x' d38 : Value) (l' : List Int), m = q.length + 1 - l'.length ∧ l'.length ≤ 601 ∧ vs = [cv k, v1, v2, v, v4, v5, v6, v7, v16, v28, x', d38, v18, v20, v57, v19] ∧ Sli H' o' (-2) x' l' ∧ Fr H o H' o' [-2])
    (R := fun r => r.1 = .exit 0 ∧ ∃ (o' : Own) (x' d38 : Value) (l' : List Int), r.2.1 = [cv k, v1, v2, v, v4, v5, v6, v7, v16, v28, x', d38, v18, v20, v57, v19] ∧ Sli r.2.2 o' (-2) x' l' ∧ q.length + 1 ≤ l'.length ∧ l'.length ≤ 601 ∧ Fr H o r.2.2 o' [-2])
    (by
      rintro m vs H' ⟨o', x', d38, l', hm, hl6, rfl, hs', hf⟩
      have hv' := hv.fr hf (by simpa using hoq)
      have hvl := hv'.1.len
      have hsl := hs'.ints.1.len
      have w1 : IntKind.i64.wrap ((q.length : Int) + 1) = (q.length : Int) + 1 := w64 (by omega)
      by_cases h1 : (l'.length : Int) < (q.length : Int) + 1
      · have f1 : Fr H' o' (H'.new ⟨[cv k], 2, 1, false⟩) (o'.up H'.length (-3)) [] := (Fr.refl _ _ _).new _ _
        have s1 : IntsR (H'.new ⟨[cv k], 2, 1, false⟩) (o'.up H'.length (-3)) (-3) (.slice (some ⟨H'.length, 0, none⟩) 1 1) [k] := (Sli.new H' o' (-3) 2 [k]).ints
        have hb1 := bI1 k H'
        generalize H'.new ⟨[cv k], 2, 1, false⟩ = H1 at f1 s1 hb1
        generalize o'.up H'.length (-3) = o1 at f1 s1
        obtain ⟨x2, H2, o2, e2, c2, f2, _⟩ := app_spec 2 (hs'.fr f1 (by simp)) s1.1 (by simp; omega)
        refine .inl ⟨[cv k, v1, v2, v, v4, v5, v6, v7, v16, v28, x2, .bool true, v18, v20, v57, v19], H2, m - 1, by omega, ?_, o2, _, _, l' ++ [k], by simp; omega, by simp; omega, rfl, c2, (hf.tr (f1.wk (by simp))).tr f2⟩
        simp -implicitDefEqProofs [F8_b0_v, F8_b0v, hvl, hsl, add_int, w1, lss_int, h1, hb1, e2, fin]
      · refine .inr ⟨(.exit 0, [cv k, v1, v2, v, v4, v5, v6, v7, v16, v28, x', .bool false, v18, v20, v57, v19], H'), ?_, by simp, rfl, o', _, _, l', rfl, hs', by omega, hl6, hf⟩
        simp -implicitDefEqProofs [F8_b0_v, F8_b0v, hvl, hsl, add_int, w1, lss_int, h1, fin])
    (q.length + 1 - l.length) [cv k, v1, v2, v, v4, v5, v6, v7, v16, v28, x, v38, v18, v20, v57, v19] H ⟨o, _, _, l, rfl, by omega, rfl, hx, .refl _ _ _⟩ K (by omega)
  obtain ⟨e, vs, H'⟩ := r
  simp only at h1 h2 h3
  subst h1 h2
  exact ⟨H', o', x', d38, l', hit, h3⟩
theorem tells_turn {C : Oracle} {o : Own} {s : Value} {v0 v1 v2 v3 v4 v5 v6 v7 v16 v28 v17 v38 v19 : Value} {r : Int} {K : Nat} : ∀ (len : Nat) (H : Heap) (l : List Int) (v57 : Value), Sli H o r s l → l.length = len → len < K → len ≤ 65536 →
    ∃ H' d20 d57, iter K (F8_b2 C K) [v0, v1, v2, v3, v4, v5, v6, v7, v16, v28, v17, v38, s, cv 0, v57, v19] H =
      some (.exit 2, [v0, v1, v2, v3, v4, v5, v6, v7, v16, v28, v17, v38, s, d20, d57, v19], H') ∧ Fr H o H' o [r] := by
  intro len H l v57 hs hl hK h65
  obtain ⟨x, hit, hne, h1, d20, d57, h2, h3⟩ := iter_go (step := F8_b2 C K)
    (Q := fun k vs H' => ∃ (i : Nat) (d57 : Value) (l' : List Int), i + k = len ∧ vs = [v0, v1, v2, v3, v4, v5, v6, v7, v16, v28, v17, v38, s, cv i, d57, v19] ∧ Sli H' o r s l' ∧ l'.length = len ∧ Fr H o H' o [r])
    (R := fun x => x.1 = .exit 2 ∧ ∃ d20 d57, x.2.1 = [v0, v1, v2, v3, v4, v5, v6, v7, v16, v28, v17, v38, s, d20, d57, v19] ∧ Fr H o x.2.2 o [r])
    (by
      rintro k vs H' ⟨i, d57, l', hi, rfl, hs', hl', hf⟩
      have hsl := hs'.ints.1.len
      cases k with
      | zero =>
        have h1 : ¬ ((i : Int) < l'.length) := by omega
        refine .inr ⟨(.exit 2, [v0, v1, v2, v3, v4, v5, v6, v7, v16, v28, v17, v38, s, cv i, .bool false, v19], H'), ?_, by simp, rfl, _, _, rfl, hf⟩
        simp -implicitDefEqProofs [F8_b2_v, F8_b2v, hsl, lss_int, h1, fin]
      | succ k =>
        have h1 : ((i : Int) < l'.length) := by omega
        obtain ⟨q, b, c', hix, hb, hro, hoq, hcell, ⟨n1, k1, hsq⟩, hst, hs2⟩ := hs'.set (j := i) (by omega) (IntKind.i64.wrap (l'.getD i 0 + 1))
        have hw : IntKind.i64.wrap ((i : Int) + 1) = ((i + 1 : Nat) : Int) := by rw [w64 (by omega)]; omega
        refine .inl ⟨[v0, v1, v2, v3, v4, v5, v6, v7, v16, v28, v17, v38, s, cv ((i + 1 : Nat) : Int), .bool true, v19], H'.put q c', k, Nat.lt_succ_self k, ?_, i + 1, .bool true, _, by omega, rfl, hs2, by simpa using hl', hf.put (fun hq => by rw [← hoq]; simp [hf.own q hq])⟩
        simp -implicitDefEqProofs [-List.getD_eq_getElem?_getD, -Int.natCast_add, F8_b2_v, F8_b2v, hsl, lss_int, h1, hix, ld1_pv _ _ _ hb, hcell, hst, add_int, hw, fin])
    len [v0, v1, v2, v3, v4, v5, v6, v7, v16, v28, v17, v38, s, cv (0 : Nat), v57, v19] H ⟨0, _, l, by omega, rfl, hs, hl, .refl _ _ _⟩ K hK
  obtain ⟨e, vs, H'⟩ := x
  simp only at h1 h2 h3
  subst h1 h2
  exact ⟨H', d20, d57, hit, h3⟩
/-- Two tell the same words. -/
theorem both_told {G : Oracle} {f g : Nat} {args brgs : List Value} {l : List Int} {H : Heap} {o : Own} (hl : l.length ≤ 65536) (h1 : Told G 100000 f args H o (-20) l) (h2 : ∀ H' o', Fr H o H' o' [] → Told G 100000 g brgs H' o' (-21) l) :
    ∃ s1 H1 s2 H2 o2, run G 100000 f args H = some (s1, H1) ∧ run G 100000 g brgs H1 = some (s2, H2) ∧ run G 100000 27 [s1, s2] H2 = some (.bool true, H2) ∧ Fr H o H2 o2 [] := by
  obtain ⟨s1, H1, o1, e1, c1, f1⟩ := h1
  obtain ⟨s2, H2, o2, e2, c2, f2⟩ := h2 H1 o1 f1
  have e3 := Words_runs (G := G) (c1.fr f2 (by simp)).ints.1 c2.ints.1 hl 34462
  exact ⟨s1, H1, s2, H2, o2, e1, e2, by simpa using e3, f1.tr f2⟩
theorem innerW_len (size : Int) (q c : List Int) (h1 : q.length ≤ 1000) (h2 : c.length ≤ 1000) : (innerW size q c).length ≤ 65536 := by
  unfold innerW; split
  · simp; omega
  · simp
theorem NodeTells_run {H : Heap} {vq vc : Value} {q c : List Int} (hq : IntsR H o0 (-1) vq q) (hc : IntsR H o0 (-1) vc c) (k v size n d i : Int) : ∃ m H', run (knownG ks) m 8 [cv k, cv v, cv size, vq, vc, cv n, cv d, cv i] H = some (.bool true, H') := by
  refine ⟨100001, ?_⟩
  rw [F8_eq]
  have hk := fun H => known_runs 36 (by decide) 99999 H
  have hql := hq.1.len
  have hcl := hc.1.len
  by_cases hl : (q.length : Int) > 300
  · exact ⟨H, by simp -implicitDefEqProofs [-gt_iff_lt, F8, hql, gtr_int, hl, pick_bool, hk]⟩
  by_cases hl2 : (c.length : Int) > 300
  · exact ⟨H, by simp -implicitDefEqProofs [-gt_iff_lt, F8, hql, hcl, gtr_int, hl, hl2, pick_bool, hk]⟩
  have hb0 := build0 H
  have f1 : Fr H o0 (H.new ⟨[], 2, 1, false⟩) (o0.up H.length (-2)) [] := (Fr.refl _ _ _).new _ _
  have s1 : Sli (H.new ⟨[], 2, 1, false⟩) (o0.up H.length (-2)) (-2) (.slice (some ⟨H.length, 0, none⟩) 0 0) [] := .inr ⟨H.length, 0, [], 2, rfl, by simpa using get_new, rfl, up_self⟩
  generalize H.new ⟨[], 2, 1, false⟩ = H1 at hb0 f1 s1
  generalize o0.up H.length (-2) = o1 at f1 s1
  obtain ⟨x2, H2, o2, e2, c2, f2, _⟩ := app_spec 2 s1 (hc.fr f1 (by simp)).1 (by simp; omega)
  rw [List.nil_append] at c2
  have q2 := (hq.fr f1 (by simp)).fr f2 (by simp)
  obtain ⟨H3, o3, x3, d38, l3, e3, c3, hl3, hl3', f3⟩ := tells_pad (C := run (knownG ks) 100000) (k := k) (v1 := cv v) (v2 := cv size) (v4 := vc) (v5 := cv n) (v6 := cv d) (v7 := cv i) (v16 := .bool false) (v28 := .bool false) (v18 := undef) (v20 := undef) (v57 := undef) (v19 := undef) (K := 100000) q2 (by omega) c2 undef (by omega) (by omega) (by omega)
  have q3 := q2.fr f3 (by simp)
  have hc3 := ((hc.fr f1 (by simp)).fr f2 (by simp)).fr f3 (by simp)
  have hb4 := build0 H3
  have f4 : Fr H3 o3 (H3.new ⟨[], 2, 1, false⟩) (o3.up H3.length (-5)) [] := (Fr.refl _ _ _).new _ _
  have s4 : Sli (H3.new ⟨[], 2, 1, false⟩) (o3.up H3.length (-5)) (-5) (.slice (some ⟨H3.length, 0, none⟩) 0 0) [] := .inr ⟨H3.length, 0, [], 2, rfl, by simpa using get_new, rfl, up_self⟩
  generalize H3.new ⟨[], 2, 1, false⟩ = H4 at hb4 f4 s4
  generalize o3.up H3.length (-5) = o4 at f4 s4
  obtain ⟨x5, H5, o5, e5, c5, f5, _⟩ := app_spec 2 s4 (q3.fr f4 (by simp)).1 (by simp; omega)
  rw [List.nil_append] at c5
  have w5 := (c3.fr f4 (by simp)).fr f5 (by simp)
  have q5 := (q3.fr f4 (by simp)).fr f5 (by simp)
  have hc5 := (hc3.fr f4 (by simp)).fr f5 (by simp)
  have hql5 := q5.1.len
  have wq : IntKind.i64.wrap ((q.length : Int) + 1) = ((q.length + 1 : Nat) : Int) := by rw [w64 (by omega)]; omega
  obtain ⟨y5, hy5, i5⟩ := scut_take w5 (q.length + 1) hl3
  have hcut5 := hy5 H5 (fun _ _ _ _ => rfl)
  obtain ⟨x6, H6, o6, e6, c6, f6⟩ := Inner_runs (G := knownG ks) size c5.ints i5 (-6) (by omega) (by omega) (by omega) (by rw [List.length_take]; omega) 99988
  have a6 := c5.fr f6 (by simp)
  obtain ⟨H7, d20, d57, e7, f7⟩ := tells_turn (C := run (knownG ks) 100000) (v0 := cv k) (v1 := cv v) (v2 := cv size) (v3 := vq) (v4 := vc) (v5 := cv n) (v6 := cv d) (v7 := cv i) (v16 := .bool false) (v28 := .bool false) (v17 := x3) (v38 := d38) (v19 := x6) (K := 100000) q.length H6 _ undef a6 rfl (by omega) (by omega)
  have q7 := (q5.fr f6 (by simp)).fr f7 (by simp)
  have hc7 := (hc5.fr f6 (by simp)).fr f7 (by simp)
  have w7 := (w5.fr f6 (by simp)).fr f7 (by simp)
  have x7 := c6.fr f7 (by simp)
  -- the words
  obtain ⟨sa, Ha, sb, Hb, ob, ea, eb, eab, fb⟩ := both_told (G := knownG ks) (H := H7) (o := o6) (l := [k, v]) (by simp) (Leaf_runs (-20) k v 99999) (fun H o _ => RLeaf_runs (H := H) (o := o) (-21) k v 99999)
  obtain ⟨sc, Hc, sd, Hd, od, ec, ed, ecd, fd⟩ := both_told (G := knownG ks) (H := Hb) (o := ob) (l := [0]) (by simp) (Empty_runs (-20) 99999) (fun H o _ => REmpty_runs (H := H) (o := o) (-21) 99999)
  have qd := (q7.fr fb (by simp)).fr fd (by simp)
  have cd := (hc7.fr fb (by simp)).fr fd (by simp)
  have wd := (w7.fr fb (by simp)).fr fd (by simp)
  have xd := (x7.fr fb (by simp)).fr fd (by simp)
  obtain ⟨yd, hyd, id⟩ := scut_take wd (q.length + 1) hl3
  have hcutd := hyd Hd (fun _ _ _ _ => rfl)
  have hqld := qd.1.len
  obtain ⟨se, He, oe, ee, ce, fe⟩ := RInner_runs (G := knownG ks) size qd id (-22) (by omega) (by omega) (by omega) (by rw [List.length_take]; omega) 99999
  have exe := Words_runs (G := knownG ks) (xd.fr fe (by simp)).ints.1 ce.ints.1 (innerW_len _ _ _ (by omega) (by rw [List.length_take]; omega)) 34462
  have qe := qd.fr fe (by simp)
  have che := cd.fr fe (by simp)
  obtain ⟨sf, Hf, sg, Hg, og, ef, eg, efg, fg⟩ := both_told (G := knownG ks) (H := He) (o := oe) (innerW_len size q c (by omega) (by omega)) (Inner_runs (G := knownG ks) size qe che (-20) (by omega) (by omega) (by omega) (by omega) 99988)
    (fun H o f => RInner_runs (G := knownG ks) size (qe.fr f (by simp)) (che.fr f (by simp)) (-21) (by omega) (by omega) (by omega) (by omega) 99999)
  obtain ⟨sh, Hh, si, Hi, oi, eh, ei, ehi, fi⟩ := both_told (G := knownG ks) (H := Hg) (o := og) (l := [k, n, d, 0, 0]) (by simp) (Rebuild_runs (-20) k n d 99999) (fun H o _ => RRebuild_runs (H := H) (o := o) (-21) k n d 99999)
  obtain ⟨sj, Hj, sk, Hk, ok, ej, ek, ejk, fk⟩ := both_told (G := knownG ks) (H := Hi) (o := oi) (l := [n, d, k, v, 0]) (by simp) (Dcss_runs (-20) n d k v 99999) (fun H o _ => RDcss_runs (H := H) (o := o) (-21) n d k v 99999)
  obtain ⟨Hl, ol, el, fl⟩ := KeyAt_runs (G := knownG ks) (H := Hk) (o := ok) n i 99967
  have em := RKeyAt_runs (G := knownG ks) n i 99998 Hl
  obtain ⟨Hn, on, en, fn⟩ := ChildAt_runs (G := knownG ks) (H := Hl) (o := ol) n d i 99967
  have eo := RChildAt_runs (G := knownG ks) n d i 99998 Hn
  refine ⟨Hn, ?_⟩
  simp -implicitDefEqProofs [-gt_iff_lt, -Int.natCast_add, F8, hql, hcl, gtr_int, hl, hl2, pick_bool, hb0, e2, e3, F8_j1_v, F8_j1v, hb4, e5, hql5, add_int, wq, hcut5, e6, e7, F8_j3_v, F8_j3v, hk, ea, eb, eab, ec, ed, ecd, hqld, hcutd, ee, exe, ef, eg, efg, eh, ei, ehi, ej, ek, ejk, el, em, en, eo, eql_int]
end Go.Proofs.Ytpenlcigickkbaa.Fun
namespace Go.Proofs.Ytpenlcigickkbaa.Pure
open Go.RowKit Go.Proofs.YtpenlcigickkbaaA.Am Fun
theorem NodeTells_law : Law Try.prog 8 [2, 2, 3, 28, 28, 3, 3, 3] := law_of fun H args hr hi => by
  obtain ⟨v0, _, rfl, h0, v1, _, rfl, h1, v2, _, rfl, h2, v3, _, rfl, h3, v4, _, rfl, h4, v5, _, rfl, h5, v6, _, rfl, h6, v7, _, rfl, h7, rfl⟩ := hi
  obtain ⟨k, rfl, _⟩ := h0.int (show Try.prog.underlying 2 = _ from by kernel_rfl)
  obtain ⟨v, rfl, _⟩ := h1.int (show Try.prog.underlying 2 = _ from by kernel_rfl)
  obtain ⟨size, rfl, _⟩ := h2.int (show Try.prog.underlying 3 = _ from by kernel_rfl)
  obtain ⟨q, hq, _, _⟩ := h3.ints slI (show Try.prog.underlying 2 = _ from by kernel_rfl) (by kernel_rfl)
  obtain ⟨c, hc, _, _⟩ := h4.ints slI (show Try.prog.underlying 2 = _ from by kernel_rfl) (by kernel_rfl)
  obtain ⟨n, rfl, _⟩ := h5.int (show Try.prog.underlying 3 = _ from by kernel_rfl)
  obtain ⟨d, rfl, _⟩ := h6.int (show Try.prog.underlying 3 = _ from by kernel_rfl)
  obtain ⟨i, rfl, _⟩ := h7.int (show Try.prog.underlying 3 = _ from by kernel_rfl)
  exact NodeTells_run hq hc k v size n d i
end Go.Proofs.Ytpenlcigickkbaa.Pure
