
/- What lies from one key to another, over the abstract machine: the loop over omap's Range; boxes. -/
import Derived.Test.YtgakioiplkehgaaFun1
import Derived.Test.YtgakioiplkehgaaLRef2
namespace Go.Proofs.Ytgakioiplkehgaa.Fun
open Go Go.RowKit Go.Proofs.YtgakioiplkehgaaA.Am
set_option linter.unusedVariables false
set_option linter.unusedSimpArgs false
set_option linter.unnecessarySimpa false
/-! what the loop meets, and what the document's list holds -/
theorem filter_le {hi : Int} : ∀ {l : PL}, Asc (keysOf l) → l.filter (fun z => decide (z.1 ≤ hi)) = l.takeWhile fun z => decide (z.1 ≤ hi)
  | [], _ => rfl
  | x :: l, h => by
    have h' := List.pairwise_cons.1 h
    by_cases hx : x.1 ≤ hi
    · simp only [List.filter_cons, List.takeWhile_cons, hx, decide_true, if_true]
      rw [filter_le h'.2]
    · have hn : l.filter (fun z => decide (z.1 ≤ hi)) = [] := by
        rw [List.filter_eq_nil_iff]
        intro z hz
        have : x.1 < z.1 := h'.1 z.1 (List.mem_map_of_mem (f := Prod.fst) hz)
        simp; omega
      simp [List.filter_cons, List.takeWhile_cons, hx, hn]
theorem rng_is {lo hi : Int} : ∀ {l : PL}, Asc (keysOf l) → rng lo hi l = (l.drop (mplc l lo)).takeWhile fun z => decide (z.1 ≤ hi)
  | [], _ => rfl
  | x :: l, h => by
    have h' := List.pairwise_cons.1 h
    by_cases hx : x.1 < lo
    · have e : mplc (x :: l) lo = mplc l lo + 1 := by simp [mplc, plc, List.takeWhile_cons, hx]
      have hn : ¬ lo ≤ x.1 := by omega
      rw [e, List.drop_succ_cons, ← rng_is h'.2]
      simp [rng, List.filter_cons, hn]
    · have e : mplc (x :: l) lo = 0 := by simp [mplc, plc, List.takeWhile_cons, hx]
      rw [e, List.drop_zero, ← filter_le h]
      unfold rng
      refine List.filter_congr fun z hz => ?_
      have : lo ≤ z.1 := by
        rcases List.mem_cons.1 hz with rfl | hz
        · omega
        · have : x.1 < z.1 := h'.1 z.1 (List.mem_map_of_mem (f := Prod.fst) hz)
          omega
      simp [this]
theorem tw_len {l : PL} {hi : Int} {j : Nat} (h1 : j ≤ l.length) (h2 : ∀ t (h : t < l.length), t < j → l[t].1 ≤ hi) (h3 : ∀ h : j < l.length, ¬ l[j].1 ≤ hi) : (l.takeWhile fun z => decide (z.1 ≤ hi)).length = j :=
  plc_is (fun (z k : Int × Int) => decide (z.1 ≤ k.1)) (k := (hi, 0)) h1 (fun t h ht => by simpa using h2 t h ht) (fun h => by simpa using h3 h)
theorem tw_get {hi : Int} : ∀ {l : PL} {j : Nat} (hj : j < l.length), (∀ t (h : t < l.length), t ≤ j → l[t].1 ≤ hi) → (l.takeWhile fun z => decide (z.1 ≤ hi))[j]? = some l[j]
  | [], j, hj, _ => by simp at hj
  | x :: l, j, hj, h => by
    have h0 := h 0 (by simp) (by omega)
    simp only [List.getElem_cons_zero] at h0
    simp only [List.takeWhile_cons, h0, decide_true, if_true]
    cases j with
    | zero => rfl
    | succ j =>
      simp only [List.getElem?_cons_succ, List.getElem_cons_succ]
      exact tw_get (by simpa using hj) fun t ht htj => h (t + 1) (by simpa using ht) (by omega)
theorem getD_of {l : PL} {i : Nat} (h : i < l.length) : l.getD i (0, 0) = l[i] := by rw [List.getD_eq_getElem?_getD, List.getElem?_eq_getElem h]; rfl
/-- In the loop: what is told at its i-th place. -/
theorem want_at {l : PL} (ha : Asc (keysOf l)) {lo hi : Int} {i : Nat} (hi1 : mplc l lo ≤ i) (hi2 : i < l.length) (h : ∀ t, mplc l lo ≤ t → t ≤ i → (l.getD t (0, 0)).1 ≤ hi) :
    i - mplc l lo < (rng lo hi l).length ∧ (rng lo hi l).getD (i - mplc l lo) (0, 0) = l.getD i (0, 0) := by
  rw [rng_is ha]
  have hlt : i - mplc l lo < (l.drop (mplc l lo)).length := by simp; omega
  have hg := tw_get (hi := hi) hlt fun t ht hti => by
    rw [List.getElem_drop]
    have := h (mplc l lo + t) (by omega) (by omega)
    rw [getD_of (by simp at ht; omega)] at this
    exact this
  refine ⟨(List.getElem?_eq_some_iff.1 hg).1, ?_⟩
  rw [List.getD_eq_getElem?_getD, hg, getD_of hi2, Option.getD_some, List.getElem_drop]
  congr 1; omega
theorem want_end {l : PL} (ha : Asc (keysOf l)) {lo hi : Int} {j : Nat} (hj1 : mplc l lo ≤ j) (hj2 : j ≤ l.length) (h : ∀ t, mplc l lo ≤ t → t < j → (l.getD t (0, 0)).1 ≤ hi) (he : j < l.length → ¬ (l.getD j (0, 0)).1 ≤ hi) :
    (rng lo hi l).length = j - mplc l lo := by
  rw [rng_is ha]
  refine tw_len (by simp; omega) (fun t ht htj => ?_) (fun ht => ?_)
  · rw [List.getElem_drop]
    have := h (mplc l lo + t) (by omega) (by omega)
    rw [getD_of (by simp at ht; omega)] at this
    exact this
  · rw [List.getElem_drop]
    simp only [List.length_drop] at ht
    have e : mplc l lo + (j - mplc l lo) = j := by omega
    have := he (by omega)
    rw [getD_of (by omega)] at this
    simpa [e] using this
section
variable {G : Oracle} {H : Heap} {o : Owner} {p : Nat} {l : PL} {n : Nat}
noncomputable abbrev rngH (H : Heap) (p : Nat) (l : PL) (lo hi : Int) : Heap := fromH (hiH H hi) p (mplc l lo) (fnv 60 #[pv H.length])
noncomputable abbrev rngO (H : Heap) (o : Owner) (hi : Int) : Owner := fromO (hiH H hi) (o.up H.length (-3)) (-3)
theorem rngH_fr (o : Owner) (lo hi : Int) : Fr H o (rngH H p l lo hi) (rngO H o hi) [] :=
  ((Fr.refl H o []).new ⟨[cv hi], 2, 1, false⟩ (-3)).tr (fromH_fr (hiH H hi) (o.up H.length (-3)) p (mplc l lo) (fnv 60 #[pv H.length]) (-3))
theorem rngH_len (lo hi : Int) : (rngH H p l lo hi).length = H.length + 4 := by rw [fromH_len]; simp [hiH, new_len]
/-- The loop over what lies from lo to hi. -/
theorem range_rng {L : ALoop} {lo hi : Int} {ps : List Int} {J R : Nat → Heap → Prop} (h : MapR H o p l) (hp : (p : Int) ∉ ps) (h3 : (-3 : Int) ∉ ps) (hn : 4194304 < n)
    (hJ : ∀ i H', J i H' → (∃ o', Fr (rngH H p l lo hi) (rngO H o hi) H' o' ps) ∧ H'.oth (rngH H p l lo hi).length = some (.loop L .ready)) (hR : ∀ i H', R i H' → ∃ L' s, H'.oth (rngH H p l lo hi).length = some (.loop L' s))
    (j0 : J (mplc l lo) ((rngH H p l lo hi).newO (.loop L .ready)))
    (round : ∀ i H', i < l.length → mplc l lo ≤ i → (l.getD i (0, 0)).1 ≤ hi → J i H' →
      (∃ H'', run G (n + 1) (Try.prog.funcs.size + (rngH H p l lo hi).length) [cv (l.getD i (0, 0)).1, cv (l.getD i (0, 0)).2] H' = some (.bool true, H'') ∧ J (i + 1) H'') ∨
      (∃ H'', run G (n + 1) (Try.prog.funcs.size + (rngH H p l lo hi).length) [cv (l.getD i (0, 0)).1, cv (l.getD i (0, 0)).2] H' = some (.bool false, H'') ∧ R i H'')) :
    ∃ s H', rngC Try.prog.funcs.size (run G (n + 2)) (fromG (hiH H hi)) L (rngH H p l lo hi) = some (s, H'.kill (rngH H p l lo hi).length) ∧
      ((s = .ready ∧ ∃ j, mplc l lo ≤ j ∧ j ≤ l.length ∧ J j H' ∧ (j < l.length → ¬ (l.getD j (0, 0)).1 ≤ hi)) ∨ ∃ j, mplc l lo ≤ j ∧ j < l.length ∧ R j H' ∧ ∃ L', H'.oth (rngH H p l lo hi).length = some (.loop L' s)) := by
  have f := rngH_fr (H := H) (p := p) (l := l) o lo hi
  have cm := fromH_m (hiH H hi) p (mplc l lo) (fnv 60 #[pv H.length])
  have ca := fromH_a (hiH H hi) p (mplc l lo) (fnv 60 #[pv H.length])
  have cf := fromH_f (hiH H hi) p (mplc l lo) (fnv 60 #[pv H.length])
  have lC := fromH_len (hiH H hi) p (mplc l lo) (fnv 60 #[pv H.length])
  have l1 : (hiH H hi).length = H.length + 1 := new_len _ _
  have f2 := fromH_fr (hiH H hi) (o.up H.length (-3)) p (mplc l lo) (fnv 60 #[pv H.length]) (-3)
  have gh : (rngH H p l lo hi).get H.length = some ⟨[cv hi], 2, 1, false⟩ := by
    rw [f2.same H.length (by omega) (by simp)]; exact get_new
  have oh : rngO H o hi H.length = -3 := by unfold rngO; rw [f2.own H.length (by omega), up_self]
  have mC := h.fr f (by simp)
  have hml := h.fits
  obtain ⟨s, H', hrng, hend⟩ := from_rng (G := G) (n := n + 1) (L := L) (J := J) (R := R) (mb := fun v => match v with | .int _ z => decide (z ≤ hi) | _ => false) (ps := ps) (i0 := mplc l lo)
    mC.v (by simp) (by simpa using hml) (by omega) hp cm cf ca (by unfold rngO; rw [show fromO (hiH H hi) (o.up H.length (-3)) (-3) (hiH H hi).length = -3 by simp [Owner.up]]; exact h3) (by unfold rngO; rw [show fromO (hiH H hi) (o.up H.length (-3)) (-3) ((hiH H hi).length + 2) = -3 by simp [Owner.up]]; exact h3)
    (fun H' o' f' x hx => by
      obtain ⟨z, _, rfl⟩ := List.mem_map.1 hx
      exact range_may (by rw [f'.same H.length (get_lt gh) (by rw [oh]; exact h3)]; exact gh) z)
    hJ hR j0 (by simpa using mplc_le l lo)
    (by
      rintro i H' kx vx hk hv' hi1 hmb hj
      obtain ⟨hi2, rfl⟩ := kl_at hk
      obtain rfl := vl_at hv'
      exact round i H' hi2 hi1 (by simpa using hmb) hj)
  refine ⟨s, H', hrng, hend.imp (fun ⟨h1, j, h2, h3, h4, h5⟩ => ⟨h1, j, h2, by simpa using h3, h4, fun hj => ?_⟩) (fun ⟨j, h2, h3, h4⟩ => ⟨j, h2, by simpa using h3, h4⟩)⟩
  have := h5 _ (keys_get hj)
  simpa using this
/-- A box: its number, whose it is, what is in it. -/
def Bx (H : Heap) (o : Owner) (b : Nat) (q : Int) (t : TypeId) (x : Value) : Prop := H.get b = some ⟨[x], t, 1, false⟩ ∧ o b = q
theorem Bx.fr {H H' : Heap} {o o' : Owner} {b : Nat} {q : Int} {t : TypeId} {x : Value} {ps : List Int} (h : Bx H o b q t x) (f : Fr H o H' o' ps) (hq : q ∉ ps) : Bx H' o' b q t x :=
  ⟨by rw [f.same b (get_lt h.1) (by rw [h.2]; exact hq)]; exact h.1, by rw [f.own b (get_lt h.1)]; exact h.2⟩
theorem Bx.ld {H : Heap} {o : Owner} {b : Nat} {q : Int} {t : TypeId} {x : Value} (h : Bx H o b q t x) : ld1 (pv b) H = some x := ld1_pv _ _ _ h.1
theorem Bx.lt {H : Heap} {o : Owner} {b : Nat} {q : Int} {t : TypeId} {x : Value} (h : Bx H o b q t x) : b < H.length := get_lt h.1
theorem Bx.made (H : Heap) (o : Owner) (q : Int) (t : TypeId) (x : Value) : Bx (H.new ⟨[x], t, 1, false⟩) (o.up H.length q) H.length q t x := ⟨get_new, up_self⟩
theorem Bx.st {H : Heap} {o : Owner} {b : Nat} {q : Int} {t : TypeId} {x y : Value} (h : Bx H o b q t x) (hx : y.cells = #[y] ∧ known y = true ∧ oneCell y = true) :
    ∃ A, stS 1 (pv b) y H = some (undef, A) ∧ Bx A o b q t y ∧ Fr H o A o [q] := by
  have st := st_1 b 0 y H h.1 rfl (by simp) hx.1 hx.2.1 hx.2.2
  simp only [List.set_cons_zero] at st
  exact ⟨_, st, ⟨get_put h.1, h.2⟩, (Fr.refl _ _ _).put (fun _ => by simp [h.2])⟩
theorem one_box (H : Heap) (o : Owner) (q : Int) (t : TypeId) (x y : Value) (hx : y.cells = #[y] ∧ known y = true ∧ oneCell y = true) :
    ∃ A, stS 1 (pv H.length) y (H.new ⟨[x], t, 1, false⟩) = some (undef, A) ∧ Bx A (o.up H.length q) H.length q t y ∧ Fr H o A (o.up H.length q) [] := by
  obtain ⟨A, h1, h2, h3⟩ := (Bx.made H o q t x).st hx
  refine ⟨A, h1, h2, ⟨fun i hi hn => ?_, fun i hi => up_ne (by omega), ?_⟩⟩
  · have := st_1 H.length 0 y _ (Bx.made H o q t x).1 rfl (by simp) hx.1 hx.2.1 hx.2.2
    rw [h1] at this
    cases this
    rw [slot_put (by omega), slot_new hi]
  · have := h3.size; rw [new_len] at this; omega
theorem mapr_fr0 {H H' : Heap} {o o' : Owner} {p : Nat} {l : PL} (h : MapR H o p l) (f : Fr H o H' o' []) : MapR H' o' p l := h.fr f (by simp)
theorem rngO_old {i : Nat} (hi' : i < H.length) (hi : Int) : rngO H o hi i = o i := by
  unfold rngO fromO
  have l1 : (hiH H hi).length = H.length + 1 := new_len _ _
  simp only [l1]
  rw [up_ne (by omega), up_ne (by omega), up_ne (by omega), up_ne (by omega)]
end
end Go.Proofs.Ytgakioiplkehgaa.Fun
