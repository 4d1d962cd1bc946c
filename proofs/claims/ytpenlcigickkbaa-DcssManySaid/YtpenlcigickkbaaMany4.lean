/- DcssMany: the rounds. -/
import Derived.Test.YtpenlcigickkbaaMany3
import Derived.Test.YtpenlcigickkbaaFunDcssMany
namespace Go.Proofs.Ytpenlcigickkbaa.Fun
open Go.RowKit Go.Proofs.YtpenlcigickkbaaA.Am
set_option linter.unusedVariables false
set_option linter.unusedSimpArgs false
/-- How many own steps a change had before the i-th round, were there no others. -/
def ownN (j i : Nat) : Nat := 2 * (i / 15) + (if i % 15 > 5 + j then 1 else 0) + (if i % 15 > 10 + j then 1 else 0)
theorem own_not {j i : Nat} (hj : j < 5) (h : i % 5 ≠ j ∨ (i / 5) % 3 = 0) : ownN j (i + 1) = ownN j i := by
  unfold ownN
  repeat' split
  all_goals omega
theorem own_yes {j i : Nat} (hj : j < 5) : ownN j (i + 1) ≤ ownN j i + 1 := by
  unfold ownN
  repeat' split
  all_goals omega
theorem own_tail (j n : Nat) : ownN j n + 10 ≤ ownN j (n + 100) := by
  unfold ownN
  repeat' split
  all_goals omega
section
variable {H H' : Heap} {o o' : Own} {p aO aN aF aH : Nat} {fs : Nat → Nat} {hs : Nat → Option Nat} {D : Nat → DV} {h : Nat → Option HV} {G : Oracle} {M : MV} {K : Nat → Nat} {out : Nat → Int} {w : Int}
theorem DI.guard (k : DI M D h K out w) (x : Int) : DI (M.wrote 3 x) D h K out w := by
  have hlen := k.len
  have hw : M.wrote 3 x = M.acc.set 3 x := by unfold MV.wrote; rw [if_pos (by omega)]
  have hat : ∀ b, (M.acc.set 3 x).at b = if b = 3 then x else M.at b := fun b => at_set _ _ _ _ (by show (1 : Int) ≤ 3 ∧ (3 : Int) ≤ ((M.cs.length : Nat) : Int); omega)
  rw [hw]
  refine ⟨by rw [set_len]; exact k.len, k.mx, k.odd, by rw [hat, if_neg (by omega)]; exact k.at6, fun i hi => ?_, k.inj, k.wv, k.hel⟩
  have oi := k.one i hi
  refine ⟨oi.fr, oi.n0, fun e => ?_, oi.o3, oi.np, oi.pl, oi.n3, oi.n4, oi.n5, oi.n6⟩
  have ri := oi.rec_ e
  rw [hat, hat, hat, hat, hat, if_neg (by omega), if_neg (by omega), if_neg (by omega), if_neg (by omega), if_neg (by omega)]
  exact ri
/-- What holds ahead of the i-th round. -/
structure Rd (H : Heap) (o : Own) (p aO aN aF aH : Nat) (fs : Nat → Nat) (hs : Nat → Option Nat) (D : Nat → DV) (h : Nat → Option HV) (M : MV) (K : Nat → Nat) (out : Nat → Int) (w : Int) (vS : Value) (l : List Int) (L t : Int) (i : Nat) : Prop where
  all : MAll H o p aO aN aF aH fs hs D h
  mem : MemR H o p M
  di : DI M D h K out w
  sch : IntsR H o (-1) vS l
  st : standsFor D K out w L
  cnt : t = (cntM out : Int)
  go : ∀ j, j < 5 → l.length ≤ i → (D j).next = 6 ∨ (ownN j i : Int) ≤ ownN j l.length + (D j).next
theorem cnt_le (out : Nat → Int) : cntM out ≤ 5 := by
  show (if out 0 = 1 then 1 else 0) + (if out 1 = 1 then 1 else 0) + (if out 2 = 1 then 1 else 0) + (if out 3 = 1 then 1 else 0) + (if out 4 = 1 then 1 else 0) ≤ 5
  have : ∀ i, (if out i = 1 then 1 else 0) ≤ 1 := fun i => by split <;> omega
  have h0 := this 0; have h1 := this 1; have h2 := this 2; have h3 := this 3; have h4 := this 4
  omega
theorem many_round {l : List Int} {vS : Value} {L t : Int} {i : Nat} (r : Rd H o p aO aN aF aH fs hs D h M K out w vS l L t i) (hw64 : ∀ z ∈ l, W64 z) (h300 : l.length ≤ 300) (hi : i < l.length + 100) {when : Int} (hwhen : W64 when)
    (v4 v6 v36 v10 v40 v60 v67 v75 v15 v16 v112 v116 v17 v138 v19 v140 v18 v166 v21 v171 v178 v183 v20 : Value) :
    ∃ H' o' hs' D' h' M' K' out' w' L' t' e60 e67 e75 e15 e16 e112 e116 e17 e138 e19 e140 e18 e166,
      F14_b5 (run G 100000) 100000 [vS, cv when, v4, pv p, v6, v36, v10, v40, pv aO, pv aN, pv aF, cv i, v60, v67, v75, v15, v16, pv aH, v112, v116, v17, cv L, v138, v19, v140, v18, v166, cv t, v21, v171, v178, v183, v20] H =
        some (.normal, [vS, cv when, v4, pv p, v6, v36, v10, v40, pv aO, pv aN, pv aF, cv ((i + 1 : Nat) : Int), e60, e67, e75, e15, e16, pv aH, e112, e116, e17, cv L', e138, e19, e140, e18, e166, cv t', v21, v171, v178, v183, v20], H') ∧
      Rd H' o' p aO aN aF aH fs hs' D' h' M' K' out' w' vS l L' t' (i + 1) := by
  have hvl := r.sch.1.len
  have g1 : IntKind.i64.wrap ((l.length : Int) + 100) = (l.length : Int) + 100 := w64 (by omega)
  have g2 : (i : Int) < (l.length : Int) + 100 := by omega
  -- from j7 on
  have J7 : ∀ (s : Int) (v60 v67 v75 : Value), W64 s → (l.length ≤ i → s = i) → ∃ H' o' hs' D' h' M' K' out' w' L' t' e75 e16 e112 e116 e17 e138 e19 e140 e18 e166,
      F14_j7 (run G 100000) 100000 [vS, cv when, v4, pv p, v6, v36, v10, v40, pv aO, pv aN, pv aF, cv i, v60, v67, v75, cv s, v16, pv aH, v112, v116, v17, cv L, v138, v19, v140, v18, v166, cv t, v21, v171, v178, v183, v20] H =
        some (.normal, [vS, cv when, v4, pv p, v6, v36, v10, v40, pv aO, pv aN, pv aF, cv ((i + 1 : Nat) : Int), v60, v67, e75, cv s, e16, pv aH, e112, e116, e17, cv L', e138, e19, e140, e18, e166, cv t', v21, v171, v178, v183, v20], H') ∧
      Rd H' o' p aO aN aF aH fs hs' D' h' M' K' out' w' vS l L' t' (i + 1) := by
    intro s v60 v67 v75 hs64 hsi
    have hb1 := Int.emod_nonneg s (show (5 : Int) ≠ 0 by omega)
    have hb2 := Int.emod_lt_of_pos s (show (0 : Int) < 5 by omega)
    obtain ⟨j, hj⟩ : ∃ j : Nat, s % 5 = j := ⟨(s % 5).toNat, by omega⟩
    have hj5 : j < 5 := by omega
    -- from j8 on
    have J8 : ∀ {H : Heap} {o : Own} {M : MV} (v75 : Value), Rd H o p aO aN aF aH fs hs D h M K out w vS l L t i → ∃ H' o' hs' D' h' M' K' out' w' L' t' e16 e112 e116 e17 e138 e19 e140 e18 e166,
        F14_j8 (run G 100000) 100000 [vS, cv when, v4, pv p, v6, v36, v10, v40, pv aO, pv aN, pv aF, cv i, v60, v67, v75, cv s, v16, pv aH, v112, v116, v17, cv L, v138, v19, v140, v18, v166, cv t, v21, v171, v178, v183, v20] H =
          some (.normal, [vS, cv when, v4, pv p, v6, v36, v10, v40, pv aO, pv aN, pv aF, cv ((i + 1 : Nat) : Int), v60, v67, v75, cv s, e16, pv aH, e112, e116, e17, cv L', e138, e19, e140, e18, e166, cv t', v21, v171, v178, v183, v20], H') ∧
        Rd H' o' p aO aN aF aH fs hs' D' h' M' K' out' w' vS l L' t' (i + 1) := by
      intro H o M v75 r
      obtain ⟨H', o', M', D', h', hs', K', out', w', e16, e112, e116, y, all', mem', di', tu, sch', oth, mono, own⟩ := many_j8 (G := G) r.all r.mem r.di r.sch s hs64 hj (cv when) v4 v6 v36 v10 v40 (cv i) v60 v67 v75 v16 v112 v116 v17 (cv L) v138 v19 v140 v18 v166 (cv t) v21 v171 v178 v183 v20
      have st' := di'.stands
      have hc := cnt_le out
      have hct := r.cnt
      have key : (logicI M' 6 = L ∨ (hitM D' L (logicI M' 6) j = true ∧ logicI M' 6 ≠ L)) ∧ (if logicI M' 6 = L then t else t + 1) = (cntM out' : Int) := by
        rcases tu with ⟨L0, s1, s2, s3⟩ | ⟨s1, s2, s3, s4⟩
        · have q1 := r.di.unique r.st s1
          have q2 := di'.unique st' s2
          have q3 : logicI M' 6 = L := by rw [q2, q1]
          exact ⟨.inl q3, by rw [if_pos q3, s3]; exact hct⟩
        · have q1 := r.di.unique r.st s1
          have q2 := di'.unique st' s2
          have q3 : logicI M' 6 ≠ L := by rw [q2, q1]; exact fun e => old_ne_new hj5 e.symm
          have rj := ((di'.one j hj5).rec_ s4).1
          refine ⟨.inr ⟨?_, q3⟩, by rw [if_neg q3, s3]; omega⟩
          unfold hitM
          rw [q1, q2]; simp; omega
      obtain ⟨e17, e138, e19, e140, e18, e166, z⟩ := many_j9 (G := G) all' mem' (by rw [di'.at6]; exact di'.word_le) L t i (by omega) (by omega) hj5 key.1 vS (cv when) v4 v6 v36 v10 v40 v60 v67 v75 (cv s) e16 e112 e116 v17 v138 v19 v140 v18 v166 v21 v171 v178 v183 v20
      refine ⟨H', o', hs', D', h', M', K', out', w', _, _, e16, e112, e116, e17, e138, e19, e140, e18, e166, y.trans z, all', mem', di', sch', st', key.2, fun k hk hle => ?_⟩
      by_cases hki : l.length ≤ i
      · have hsi := hsi hki
        have hjm : i % 5 = j := by rw [hsi] at hj; omega
        have htd : IntKind.i64.wrap (s.tdiv 5) = ((i / 5 : Nat) : Int) := by
          rw [hsi, Int.tdiv_eq_ediv_of_nonneg (by omega), w64 (by omega)]; omega
        rw [htd] at own
        have gk := r.go k hk hki
        by_cases hkj : k = j
        · subst hkj
          by_cases h3 : (i / 5) % 3 = 0
          · rw [own_not hk (.inr h3)]
            have n5 := (di'.one k hk).fr
            omega
          · have oy := own_yes (i := i) hk
            have := own (by omega)
            have n5 := (di'.one k hk).fr
            omega
        · rw [own_not hk (.inl (by omega)), oth k hkj]; exact gk
      · have : i + 1 = l.length := by omega
        have n5 := (di'.one k hk).fr
        rw [this]; right; omega
    have c1 := Cut_runs (G := G) 99999 when 90 hwhen (by omega) H
    by_cases he : (i : Int) = when % 90
    · obtain ⟨H1, y1, m1, f1⟩ := Write_runs (G := G) r.mem 3 1 99998
      have r1 : Rd H1 o p aO aN aF aH fs hs D h (M.wrote 3 1) K out w vS l L t i := ⟨r.all.fr f1, m1, r.di.guard 1, r.sch.fr f1 (by simp), r.st, r.cnt, r.go⟩
      obtain ⟨H', o', hs', D', h', M', K', out', w', L', t', e16, e112, e116, e17, e138, e19, e140, e18, e166, z, r'⟩ := J8 (.bool true) r1
      refine ⟨H', o', hs', D', h', M', K', out', w', L', t', .bool true, e16, e112, e116, e17, e138, e19, e140, e18, e166, ?_, r'⟩
      rw [← z]
      simp -implicitDefEqProofs [F14_j7_v, F14_j7v, c1, eql_int, eq_true he, y1]
    · obtain ⟨H', o', hs', D', h', M', K', out', w', L', t', e16, e112, e116, e17, e138, e19, e140, e18, e166, z, r'⟩ := J8 (.bool false) r
      refine ⟨H', o', hs', D', h', M', K', out', w', L', t', .bool false, e16, e112, e116, e17, e138, e19, e140, e18, e166, ?_, r'⟩
      rw [← z]
      simp -implicitDefEqProofs [F14_j7_v, F14_j7v, c1, eql_int, eq_false he]
  by_cases hil : i < l.length
  · have g3 : (i : Int) < l.length := by omega
    obtain ⟨q, off, b, hix, hb, hc⟩ := r.sch.1.idx hil
    have hz : W64 (l.getD i 0) := by rw [List.getD_eq_getElem?_getD, List.getElem?_eq_getElem hil]; exact hw64 _ (List.getElem_mem hil)
    obtain ⟨H', o', hs', D', h', M', K', out', w', L', t', e75, e16, e112, e116, e17, e138, e19, e140, e18, e166, z, r'⟩ := J7 (l.getD i 0) (.bool true) (.bool true) v75 hz (by omega)
    refine ⟨H', o', hs', D', h', M', K', out', w', L', t', .bool true, .bool true, e75, cv (l.getD i 0), e16, e112, e116, e17, e138, e19, e140, e18, e166, ?_, r'⟩
    rw [← z]
    simp -implicitDefEqProofs [-List.getD_eq_getElem?_getD, F14_b5_v, F14_b5v, hvl, add_int, g1, lss_int, g2, g3, hix, ld1_pv _ _ _ hb, hc]
  · have g3 : ¬ (i : Int) < l.length := by omega
    obtain ⟨H', o', hs', D', h', M', K', out', w', L', t', e75, e16, e112, e116, e17, e138, e19, e140, e18, e166, z, r'⟩ := J7 i (.bool true) (.bool false) v75 (by constructor <;> omega) (fun _ => rfl)
    refine ⟨H', o', hs', D', h', M', K', out', w', L', t', .bool true, .bool false, e75, cv i, e16, e112, e116, e17, e138, e19, e140, e18, e166, ?_, r'⟩
    rw [← z]
    simp -implicitDefEqProofs [F14_b5_v, F14_b5v, hvl, add_int, g1, lss_int, g2, g3]
end
end Go.Proofs.Ytpenlcigickkbaa.Fun
