/- MapRange over the abstract machine (under way). -/
import Derived.Test.YtdgolnenpnkjbaaFun3
import Derived.Test.YtdgolnenpnkjbaaFunMapRange
import Derived.Test.YtdgolnenpnkjbaaMapRef2
import Derived.Test.YtdgolnenpnkjbaaFunMapRange
namespace Go.Proofs.Ytdgolnenpnkjbaa.Fun
open Go Go.RowKit Go.Proofs.YtdgolnenpnkjbaaA.Am
set_option linter.unusedVariables false
set_option linter.unusedSimpArgs false
set_option linter.unnecessarySimpa false
/-! what the loop meets, and what the document's list holds -/
theorem filter_le {hi : Int} : ∀ {l : PL}, Asc (keysOf l) → l.filter (fun z => decide (z.1 ≤ hi)) = l.takeWhile fun z => decide (z.1 ≤ hi)
  | [], _ => rfl
  | x :: l, h => by
    have h' := List.pairwise_cons.1 h
    by_cases hx : x.1 ≤ hi
    · simp only [List.filter_cons, List.takeWhile_cons, hx, decide_true, if_true]
      rw [filter_le h'.2]
    · have hn : l.filter (fun z => decide (z.1 ≤ hi)) = [] := by
        rw [List.filter_eq_nil_iff]
        intro z hz
        have : x.1 < z.1 := h'.1 z.1 (List.mem_map_of_mem (f := Prod.fst) hz)
        simp; omega
      simp [List.filter_cons, List.takeWhile_cons, hx, hn]
theorem rng_is {lo hi : Int} : ∀ {l : PL}, Asc (keysOf l) → rng lo hi l = (l.drop (mplc l lo)).takeWhile fun z => decide (z.1 ≤ hi)
  | [], _ => rfl
  | x :: l, h => by
    have h' := List.pairwise_cons.1 h
    by_cases hx : x.1 < lo
    · have e : mplc (x :: l) lo = mplc l lo + 1 := by simp [mplc, plc, List.takeWhile_cons, hx]
      have hn : ¬ lo ≤ x.1 := by omega
      rw [e, List.drop_succ_cons, ← rng_is h'.2]
      simp [rng, List.filter_cons, hn]
    · have e : mplc (x :: l) lo = 0 := by simp [mplc, plc, List.takeWhile_cons, hx]
      rw [e, List.drop_zero, ← filter_le h]
      unfold rng
      refine List.filter_congr fun z hz => ?_
      have : lo ≤ z.1 := by
        rcases List.mem_cons.1 hz with rfl | hz
        · omega
        · have : x.1 < z.1 := h'.1 z.1 (List.mem_map_of_mem (f := Prod.fst) hz)
          omega
      simp [this]
theorem tw_len {l : PL} {hi : Int} {j : Nat} (h1 : j ≤ l.length) (h2 : ∀ t (h : t < l.length), t < j → l[t].1 ≤ hi) (h3 : ∀ h : j < l.length, ¬ l[j].1 ≤ hi) : (l.takeWhile fun z => decide (z.1 ≤ hi)).length = j :=
  plc_is (fun (z k : Int × Int) => decide (z.1 ≤ k.1)) (k := (hi, 0)) h1 (fun t h ht => by simpa using h2 t h ht) (fun h => by simpa using h3 h)
theorem tw_get {hi : Int} : ∀ {l : PL} {j : Nat} (hj : j < l.length), (∀ t (h : t < l.length), t ≤ j → l[t].1 ≤ hi) → (l.takeWhile fun z => decide (z.1 ≤ hi))[j]? = some l[j]
  | [], j, hj, _ => by simp at hj
  | x :: l, j, hj, h => by
    have h0 := h 0 (by simp) (by omega)
    simp only [List.getElem_cons_zero] at h0
    simp only [List.takeWhile_cons, h0, decide_true, if_true]
    cases j with
    | zero => rfl
    | succ j =>
      simp only [List.getElem?_cons_succ, List.getElem_cons_succ]
      exact tw_get (by simpa using hj) fun t ht htj => h (t + 1) (by simpa using ht) (by omega)
theorem getD_of {l : PL} {i : Nat} (h : i < l.length) : l.getD i (0, 0) = l[i] := by rw [List.getD_eq_getElem?_getD, List.getElem?_eq_getElem h]; rfl
/-- In the loop: what is told at its i-th place. -/
theorem want_at {l : PL} (ha : Asc (keysOf l)) {lo hi : Int} {i : Nat} (hi1 : mplc l lo ≤ i) (hi2 : i < l.length) (h : ∀ t, mplc l lo ≤ t → t ≤ i → (l.getD t (0, 0)).1 ≤ hi) :
    i - mplc l lo < (rng lo hi l).length ∧ (rng lo hi l).getD (i - mplc l lo) (0, 0) = l.getD i (0, 0) := by
  rw [rng_is ha]
  have hlt : i - mplc l lo < (l.drop (mplc l lo)).length := by simp; omega
  have hg := tw_get (hi := hi) hlt fun t ht hti => by
    rw [List.getElem_drop]
    have := h (mplc l lo + t) (by omega) (by omega)
    rw [getD_of (by simp at ht; omega)] at this
    exact this
  refine ⟨(List.getElem?_eq_some_iff.1 hg).1, ?_⟩
  rw [List.getD_eq_getElem?_getD, hg, getD_of hi2, Option.getD_some, List.getElem_drop]
  congr 1; omega
theorem want_end {l : PL} (ha : Asc (keysOf l)) {lo hi : Int} {j : Nat} (hj1 : mplc l lo ≤ j) (hj2 : j ≤ l.length) (h : ∀ t, mplc l lo ≤ t → t < j → (l.getD t (0, 0)).1 ≤ hi) (he : j < l.length → ¬ (l.getD j (0, 0)).1 ≤ hi) :
    (rng lo hi l).length = j - mplc l lo := by
  rw [rng_is ha]
  refine tw_len (by simp; omega) (fun t ht htj => ?_) (fun ht => ?_)
  · rw [List.getElem_drop]
    have := h (mplc l lo + t) (by omega) (by omega)
    rw [getD_of (by simp at ht; omega)] at this
    exact this
  · rw [List.getElem_drop]
    simp only [List.length_drop] at ht
    have e : mplc l lo + (j - mplc l lo) = j := by omega
    have := he (by omega)
    rw [getD_of (by omega)] at this
    simpa [e] using this
section
variable {G : Oracle} {H : Heap} {o : Owner} {p : Nat} {l : PL} {n : Nat}
noncomputable abbrev rngH (H : Heap) (p : Nat) (l : PL) (lo hi : Int) : Heap := fromH (hiH H hi) p (mplc l lo) (fnv 46 #[pv H.length])
noncomputable abbrev rngO (H : Heap) (o : Owner) (hi : Int) : Owner := fromO (hiH H hi) (o.up H.length (-3)) (-3)
theorem rngH_fr (o : Owner) (lo hi : Int) : Fr H o (rngH H p l lo hi) (rngO H o hi) [] :=
  ((Fr.refl H o []).new ⟨[cv hi], 2, 1, false⟩ (-3)).tr (fromH_fr (hiH H hi) (o.up H.length (-3)) p (mplc l lo) (fnv 46 #[pv H.length]) (-3))
theorem rngH_len (lo hi : Int) : (rngH H p l lo hi).length = H.length + 4 := by rw [fromH_len]; simp [hiH, new_len]
/-- The loop over what lies from lo to hi. -/
theorem range_rng {L : ALoop} {lo hi : Int} {ps : List Int} {J R : Nat → Heap → Prop} (h : MapR H o p l) (hp : (p : Int) ∉ ps) (h3 : (-3 : Int) ∉ ps) (hn : 65536 < n)
    (hJ : ∀ i H', J i H' → (∃ o', Fr (rngH H p l lo hi) (rngO H o hi) H' o' ps) ∧ H'.oth (rngH H p l lo hi).length = some (.loop L .ready)) (hR : ∀ i H', R i H' → ∃ L' s, H'.oth (rngH H p l lo hi).length = some (.loop L' s))
    (j0 : J (mplc l lo) ((rngH H p l lo hi).newO (.loop L .ready)))
    (round : ∀ i H', i < l.length → mplc l lo ≤ i → (l.getD i (0, 0)).1 ≤ hi → J i H' →
      (∃ H'', run G (n + 1) (Try.prog.funcs.size + (rngH H p l lo hi).length) [cv (l.getD i (0, 0)).1, cv (l.getD i (0, 0)).2] H' = some (.bool true, H'') ∧ J (i + 1) H'') ∨
      (∃ H'', run G (n + 1) (Try.prog.funcs.size + (rngH H p l lo hi).length) [cv (l.getD i (0, 0)).1, cv (l.getD i (0, 0)).2] H' = some (.bool false, H'') ∧ R i H'')) :
    ∃ s H', rngC Try.prog.funcs.size (run G (n + 2)) (fromG (hiH H hi)) L (rngH H p l lo hi) = some (s, H'.kill (rngH H p l lo hi).length) ∧
      ((s = .ready ∧ ∃ j, mplc l lo ≤ j ∧ j ≤ l.length ∧ J j H' ∧ (j < l.length → ¬ (l.getD j (0, 0)).1 ≤ hi)) ∨ ∃ j, mplc l lo ≤ j ∧ j < l.length ∧ R j H' ∧ ∃ L', H'.oth (rngH H p l lo hi).length = some (.loop L' s)) := by
  have f := rngH_fr (H := H) (p := p) (l := l) o lo hi
  have cm := fromH_m (hiH H hi) p (mplc l lo) (fnv 46 #[pv H.length])
  have ca := fromH_a (hiH H hi) p (mplc l lo) (fnv 46 #[pv H.length])
  have cf := fromH_f (hiH H hi) p (mplc l lo) (fnv 46 #[pv H.length])
  have lC := fromH_len (hiH H hi) p (mplc l lo) (fnv 46 #[pv H.length])
  have l1 : (hiH H hi).length = H.length + 1 := new_len _ _
  have f2 := fromH_fr (hiH H hi) (o.up H.length (-3)) p (mplc l lo) (fnv 46 #[pv H.length]) (-3)
  have gh : (rngH H p l lo hi).get H.length = some ⟨[cv hi], 2, 1, false⟩ := by
    rw [f2.same H.length (by omega) (by simp)]; exact get_new
  have oh : rngO H o hi H.length = -3 := by unfold rngO; rw [f2.own H.length (by omega), up_self]
  have mC := h.fr f (by simp)
  have hml := h.fits
  obtain ⟨s, H', hrng, hend⟩ := from_rng (G := G) (n := n + 1) (L := L) (J := J) (R := R) (mb := fun v => match v with | .int _ z => decide (z ≤ hi) | _ => false) (ps := ps) (i0 := mplc l lo)
    mC.v (by simp) (by simpa using hml) (by omega) hp cm cf ca (by unfold rngO; rw [show fromO (hiH H hi) (o.up H.length (-3)) (-3) (hiH H hi).length = -3 by simp [Owner.up]]; exact h3) (by unfold rngO; rw [show fromO (hiH H hi) (o.up H.length (-3)) (-3) ((hiH H hi).length + 2) = -3 by simp [Owner.up]]; exact h3)
    (fun H' o' f' x hx => by
      obtain ⟨z, _, rfl⟩ := List.mem_map.1 hx
      exact range_may (by rw [f'.same H.length (get_lt gh) (by rw [oh]; exact h3)]; exact gh) z)
    hJ hR j0 (by simpa using mplc_le l lo)
    (by
      rintro i H' kx vx hk hv' hi1 hmb hj
      obtain ⟨hi2, rfl⟩ := kl_at hk
      obtain rfl := vl_at hv'
      exact round i H' hi2 hi1 (by simpa using hmb) hj)
  refine ⟨s, H', hrng, hend.imp (fun ⟨h1, j, h2, h3, h4, h5⟩ => ⟨h1, j, h2, by simpa using h3, h4, fun hj => ?_⟩) (fun ⟨j, h2, h3, h4⟩ => ⟨j, h2, by simpa using h3, h4⟩)⟩
  have := h5 _ (keys_get hj)
  simpa using this
/-- A box: its number, whose it is, what is in it. -/
def Bx (H : Heap) (o : Owner) (b : Nat) (q : Int) (t : TypeId) (x : Value) : Prop := H.get b = some ⟨[x], t, 1, false⟩ ∧ o b = q
theorem Bx.fr {H H' : Heap} {o o' : Owner} {b : Nat} {q : Int} {t : TypeId} {x : Value} {ps : List Int} (h : Bx H o b q t x) (f : Fr H o H' o' ps) (hq : q ∉ ps) : Bx H' o' b q t x :=
  ⟨by rw [f.same b (get_lt h.1) (by rw [h.2]; exact hq)]; exact h.1, by rw [f.own b (get_lt h.1)]; exact h.2⟩
theorem Bx.ld {H : Heap} {o : Owner} {b : Nat} {q : Int} {t : TypeId} {x : Value} (h : Bx H o b q t x) : ld1 (pv b) H = some x := ld1_pv _ _ _ h.1
theorem Bx.lt {H : Heap} {o : Owner} {b : Nat} {q : Int} {t : TypeId} {x : Value} (h : Bx H o b q t x) : b < H.length := get_lt h.1
theorem Bx.made (H : Heap) (o : Owner) (q : Int) (t : TypeId) (x : Value) : Bx (H.new ⟨[x], t, 1, false⟩) (o.up H.length q) H.length q t x := ⟨get_new, up_self⟩
theorem Bx.st {H : Heap} {o : Owner} {b : Nat} {q : Int} {t : TypeId} {x y : Value} (h : Bx H o b q t x) (hx : y.cells = #[y] ∧ known y = true ∧ oneCell y = true) :
    ∃ A, stS 1 (pv b) y H = some (undef, A) ∧ Bx A o b q t y ∧ Fr H o A o [q] := by
  have st := st_1 b 0 y H h.1 rfl (by simp) hx.1 hx.2.1 hx.2.2
  simp only [List.set_cons_zero] at st
  exact ⟨_, st, ⟨get_put h.1, h.2⟩, (Fr.refl _ _ _).put (fun _ => by simp [h.2])⟩
theorem one_box (H : Heap) (o : Owner) (q : Int) (t : TypeId) (x y : Value) (hx : y.cells = #[y] ∧ known y = true ∧ oneCell y = true) :
    ∃ A, stS 1 (pv H.length) y (H.new ⟨[x], t, 1, false⟩) = some (undef, A) ∧ Bx A (o.up H.length q) H.length q t y ∧ Fr H o A (o.up H.length q) [] := by
  obtain ⟨A, h1, h2, h3⟩ := (Bx.made H o q t x).st hx
  refine ⟨A, h1, h2, ⟨fun i hi hn => ?_, fun i hi => up_ne (by omega), ?_⟩⟩
  · have := st_1 H.length 0 y _ (Bx.made H o q t x).1 rfl (by simp) hx.1 hx.2.1 hx.2.2
    rw [h1] at this
    cases this
    rw [slot_put (by omega), slot_new hi]
  · have := h3.size; rw [new_len] at this; omega
theorem mapr_fr0 {H H' : Heap} {o o' : Owner} {p : Nat} {l : PL} (h : MapR H o p l) (f : Fr H o H' o' []) : MapR H' o' p l := h.fr f (by simp)
/-- A round that compares. -/
noncomputable def cmpB (y : Nat) (v8 v13 v14 a0 a1 : Value) (H : Heap) : Option (Value × Heap) :=
  bnd (some (a0, H)) fun x56 H =>
  bnd (some (a1, H)) fun x57 H =>
  begR y H fun H =>
  bnd (pS (ld1 v14 H) H) fun x58 H =>
  bnd (pS (ld1 v13 H) H) fun x59 H =>
  bnd (pS (slen x59) H) fun x60 H =>
  bnd (pS (abin Try.prog .geq 3 x58 x60) H) fun x61 H =>
  bnd (some (x61, H)) fun x62 H =>
  bnd (gd (wantV x62 false) (pS (ld1 v13 H) H) H) fun x63 H =>
  bnd (gd (wantV x62 false) (pS (ld1 v14 H) H) H) fun x64 H =>
  bnd (gd (wantV x62 false) (iadS 2 x63 x64 H) H) fun x65 H =>
  bnd (gd (wantV x62 false) (fadS 0 x65 H) H) fun x66 H =>
  bnd (gd (wantV x62 false) (pS (ld1 x66 H) H) H) fun x67 H =>
  bnd (gd (wantV x62 false) (some (x56, H)) H) fun x68 H =>
  bnd (gd (wantV x62 false) (pS (abin Try.prog .neq 2 x67 x68) H) H) fun x69 H =>
  bnd (pickS x62 (Value.bool true) x69 H) fun x70 H =>
  bnd (some (x70, H)) fun x71 H =>
  bnd (gd (wantV x71 false) (pS (ld1 v13 H) H) H) fun x72 H =>
  bnd (gd (wantV x71 false) (pS (ld1 v14 H) H) H) fun x73 H =>
  bnd (gd (wantV x71 false) (iadS 2 x72 x73 H) H) fun x74 H =>
  bnd (gd (wantV x71 false) (fadS 1 x74 H) H) fun x75 H =>
  bnd (gd (wantV x71 false) (pS (ld1 x75 H) H) H) fun x76 H =>
  bnd (gd (wantV x71 false) (some (x57, H)) H) fun x77 H =>
  bnd (gd (wantV x71 false) (pS (abin Try.prog .neq 2 x76 x77) H) H) fun x78 H =>
  bnd (pickS x71 (Value.bool true) x78 H) fun x79 H =>
  brB x79 (bnd (stS 1 v8 (Value.bool false) H) fun x80 H =>
  endR y .ret H) (
  bnd (pS (ld1 v14 H) H) fun x81 H =>
  bnd (pS (abin Try.prog .add 3 x81 (Value.int .i64 (1))) H) fun x82 H =>
  bnd (stS 1 v14 x82 H) fun x83 H =>
  endR y .normal H)
/-- A round that counts, to a number. -/
noncomputable def cntB (y : Nat) (v7 v17 a0 a1 : Value) (H : Heap) : Option (Value × Heap) :=
  begR y H fun H =>
  bnd (pS (ld1 v17 H) H) fun x46 H =>
  bnd (pS (ld1 v7 H) H) fun x47 H =>
  bnd (pS (abin Try.prog .eql 3 x46 x47) H) fun x48 H =>
  brB x48 (endR y (.exit 4) H) (
  bnd (pS (ld1 v17 H) H) fun x49 H =>
  bnd (pS (abin Try.prog .add 3 x49 (Value.int .i64 (1))) H) fun x50 H =>
  bnd (stS 1 v17 x50 H) fun x51 H =>
  endR y .normal H)
theorem rngO_old {i : Nat} (hi' : i < H.length) (hi : Int) : rngO H o hi i = o i := by
  unfold rngO fromO
  have l1 : (hiH H hi).length = H.length + 1 := new_len _ _
  simp only [l1]
  rw [up_ne (by omega), up_ne (by omega), up_ne (by omega), up_ne (by omega)]
theorem cmp_loop {L : ALoop} {lo hi : Int} {bw bi : Nat} {v8 x : Value} {tw ti : TypeId}
    (hR : ∀ m y k w H, H.oth y = some (.loop L .ready) → run G (m + 1) (Try.prog.funcs.size + y) [k, w] H = cmpB y v8 (pv bw) (pv bi) k w H) (h : MapR H o p l) (hl : l.length ≤ 60000)
    (hw : H.get bw = some ⟨[x], tw, 1, false⟩) (ow : o bw = -11) (hx : SlP H o (-10) x (rng lo hi l)) (hb : H.get bi = some ⟨[cv 0], ti, 1, false⟩) (ob : o bi = -12) (hn : 65536 < n) :
    ∃ H' o', rngC Try.prog.funcs.size (run G (n + 2)) (fromG (hiH H hi)) L (rngH H p l lo hi) = some (.ready, H') ∧ Fr H o H' o' [-12] ∧ H'.get bi = some ⟨[cv (rng lo hi l).length], ti, 1, false⟩ := by
  have f := rngH_fr (H := H) (p := p) (l := l) o lo hi
  have lC := rngH_len (H := H) (p := p) (l := l) lo hi
  have asc := h.asc
  have hbl := get_lt hb
  have hwl := get_lt hw
  have obC : rngO H o hi bi = -12 := by rw [rngO_old hbl]; exact ob
  have owC : rngO H o hi bw = -11 := by rw [rngO_old hwl]; exact ow
  have xC := hx.fr f (by simp)
  have wC : (rngH H p l lo hi).get bw = some ⟨[x], tw, 1, false⟩ := by rw [f.same bw hwl (by simp)]; exact hw
  have bC : (rngH H p l lo hi).get bi = some ⟨[cv 0], ti, 1, false⟩ := by rw [f.same bi hbl (by simp)]; exact hb
  have rl := rng_len lo hi l
  obtain ⟨s, H', hrng, hend⟩ := range_rng (G := G) (n := n) (L := L) (lo := lo) (hi := hi) (ps := [-12])
    (J := fun i H' => ∃ o', Fr (rngH H p l lo hi) (rngO H o hi) H' o' [-12] ∧ H'.oth (rngH H p l lo hi).length = some (.loop L .ready) ∧ H'.get bi = some ⟨[cv ((i - mplc l lo : Nat) : Int)], ti, 1, false⟩ ∧ ∀ t, mplc l lo ≤ t → t < i → (l.getD t (0, 0)).1 ≤ hi) (R := fun _ _ => False)
    h (by simp) (by simp) hn (fun i H' ⟨o', e1, e2, _⟩ => ⟨⟨o', e1⟩, e2⟩) (fun _ _ h => h.elim)
    ⟨_, (Fr.refl _ _ _).newO _ 0, oth_newO, by rw [get_slot (slot_newO (get_lt bC)), Nat.sub_self]; exact bC, fun t h1 h2 => by omega⟩
    (by
      rintro i H' hi1 hi2 hle ⟨o', fr, ot, gb, hpre⟩
      obtain ⟨A, eA⟩ : ∃ A, A = H'.putO (rngH H p l lo hi).length (.loop L .busy) := ⟨_, rfl⟩
      have otA : A.oth (rngH H p l lo hi).length = some (.loop L .busy) := by rw [eA]; exact oth_putO ot
      have gA : A.get bi = some ⟨[cv ((i - mplc l lo : Nat) : Int)], ti, 1, false⟩ := by rw [eA]; exact get_putO ot gb
      have wA : A.get bw = some ⟨[x], tw, 1, false⟩ := by rw [eA]; refine get_putO ot ?_; rw [fr.same bw (get_lt wC) (by rw [owC]; simp)]; exact wC
      have xA : SlP A o' (-10) x (rng lo hi l) := by rw [eA]; exact (xC.fr fr (by simp)).putO ot
      obtain ⟨w1, w2⟩ := want_at asc hi2 hi1 fun t h1 h2 => by
        rcases Nat.lt_or_eq_of_le h2 with g | g
        · exact hpre t h1 g
        · subst g; exact hle
      obtain ⟨bx, y0, hix, hy0, hbo, hbd⟩ := xA.idx w1
      obtain ⟨d1, d2, d3⟩ := hbd _ hy0
      rw [w2] at d1 d2
      have hxl := xA.len
      have hlt : ¬ ((i - mplc l lo : Nat) : Int) ≥ (rng lo hi l).length := by omega
      have hwr : IntKind.i64.wrap (((i - mplc l lo : Nat) : Int) + 1) = ((i + 1 - mplc l lo : Nat) : Int) := by rw [w64 (by omega)]; omega
      have st := st_1 bi 0 (cv ((i + 1 - mplc l lo : Nat) : Int)) A gA rfl (by simp) rfl rfl rfl
      simp only [List.set_cons_zero] at st
      have hne := oth_ne otA gA
      have otE := oth_put' (x := ⟨[cv ((i + 1 - mplc l lo : Nat) : Int)], ti, 1, false⟩) otA hne
      have en := endR_eq (e := .normal) otE
      simp only [LState.of] at en
      refine .inl ⟨(A.put bi ⟨[cv ((i + 1 - mplc l lo : Nat) : Int)], ti, 1, false⟩).putO (rngH H p l lo hi).length (.loop L .ready), ?_, o', ?_, oth_putO otE, get_putO otE (get_put gA), fun t h1 h2 => ?_⟩
      · rw [hR _ _ _ _ _ ot]
        unfold cmpB
        simp -implicitDefEqProofs [-List.getD_eq_getElem?_getD, -Int.natCast_add, -ge_iff_le, begR_eq ot, ← eA, ld1_pv _ _ _ gA, ld1_pv _ _ _ wA, hxl, geq_int, hlt, hix, fad_pv, d1, d2, neq_int, pick_bool, add_int, hwr, st, en, AExit.on]
      · rw [eA]
        exact ((fr.putO (fun h => by omega)).put (fun _ => by simp [fr.own bi (get_lt bC), obC])).putO (fun h => by omega)
      · rcases Nat.lt_or_ge t i with g | g
        · exact hpre t h1 g
        · have : t = i := by omega
          subst this; exact hle)
  rcases hend with ⟨rfl, j, hj1, hj2, ⟨o', fr, ot, gb, hpre⟩, hstop⟩ | ⟨_, _, _, h, _⟩
  case inr => exact h.elim
  have e := want_end asc hj1 hj2 hpre hstop
  refine ⟨H'.kill (rngH H p l lo hi).length, o', hrng, ?_, ?_⟩
  · exact ((f.wk (by simp)).tr fr).kill (fun h => by omega)
  · rw [get_kill_ne (by omega), e]; exact gb
theorem cnt_loop {L : ALoop} {lo hi : Int} {bn bm : Nat} {c : Nat} {tn ti : TypeId}
    (hR : ∀ m y k w H, H.oth y = some (.loop L .ready) → run G (m + 1) (Try.prog.funcs.size + y) [k, w] H = cntB y (pv bn) (pv bm) k w H) (h : MapR H o p l) (hl : l.length ≤ 60000)
    (hw : H.get bn = some ⟨[cv c], tn, 1, false⟩) (ow : o bn = -5) (hb : H.get bm = some ⟨[cv 0], ti, 1, false⟩) (ob : o bm = -13) (hn : 65536 < n) :
    ∃ s H' o', rngC Try.prog.funcs.size (run G (n + 2)) (fromG (hiH H hi)) L (rngH H p l lo hi) = some (s, H') ∧ (s = .ready ∨ s = .exit 4) ∧ Fr H o H' o' [-13] ∧ H'.get bm = some ⟨[cv (min c (rng lo hi l).length : Nat)], ti, 1, false⟩ := by
  have f := rngH_fr (H := H) (p := p) (l := l) o lo hi
  have lC := rngH_len (H := H) (p := p) (l := l) lo hi
  have asc := h.asc
  have hbl := get_lt hb
  have hwl := get_lt hw
  have obC : rngO H o hi bm = -13 := by rw [rngO_old hbl]; exact ob
  have owC : rngO H o hi bn = -5 := by rw [rngO_old hwl]; exact ow
  have wC : (rngH H p l lo hi).get bn = some ⟨[cv c], tn, 1, false⟩ := by rw [f.same bn hwl (by simp)]; exact hw
  have bC : (rngH H p l lo hi).get bm = some ⟨[cv 0], ti, 1, false⟩ := by rw [f.same bm hbl (by simp)]; exact hb
  have rl := rng_len lo hi l
  obtain ⟨s, H', hrng, hend⟩ := range_rng (G := G) (n := n) (L := L) (lo := lo) (hi := hi) (ps := [-13])
    (J := fun i H' => ∃ o', Fr (rngH H p l lo hi) (rngO H o hi) H' o' [-13] ∧ H'.oth (rngH H p l lo hi).length = some (.loop L .ready) ∧ H'.get bm = some ⟨[cv ((i - mplc l lo : Nat) : Int)], ti, 1, false⟩ ∧ i - mplc l lo ≤ c ∧ ∀ t, mplc l lo ≤ t → t < i → (l.getD t (0, 0)).1 ≤ hi)
    (R := fun i H' => (∃ o', Fr (rngH H p l lo hi) (rngO H o hi) H' o' [-13]) ∧ H'.oth (rngH H p l lo hi).length = some (.loop L (.exit 4)) ∧ H'.get bm = some ⟨[cv ((i - mplc l lo : Nat) : Int)], ti, 1, false⟩ ∧ i - mplc l lo = c ∧ i - mplc l lo < (rng lo hi l).length)
    h (by simp) (by simp) hn (fun i H' ⟨o', e1, e2, _⟩ => ⟨⟨o', e1⟩, e2⟩) (fun i H' h => ⟨_, _, h.2.1⟩)
    ⟨_, (Fr.refl _ _ _).newO _ 0, oth_newO, by rw [get_slot (slot_newO (get_lt bC)), Nat.sub_self]; exact bC, by omega, fun t h1 h2 => by omega⟩
    (by
      rintro i H' hi1 hi2 hle ⟨o', fr, ot, gb, hc, hpre⟩
      obtain ⟨A, eA⟩ : ∃ A, A = H'.putO (rngH H p l lo hi).length (.loop L .busy) := ⟨_, rfl⟩
      have otA : A.oth (rngH H p l lo hi).length = some (.loop L .busy) := by rw [eA]; exact oth_putO ot
      have gA : A.get bm = some ⟨[cv ((i - mplc l lo : Nat) : Int)], ti, 1, false⟩ := by rw [eA]; exact get_putO ot gb
      have wA : A.get bn = some ⟨[cv c], tn, 1, false⟩ := by rw [eA]; refine get_putO ot ?_; rw [fr.same bn (get_lt wC) (by rw [owC]; simp)]; exact wC
      obtain ⟨w1, w2⟩ := want_at asc hi2 hi1 fun t h1 h2 => by
        rcases Nat.lt_or_eq_of_le h2 with g | g
        · exact hpre t h1 g
        · subst g; exact hle
      have fA : Fr (rngH H p l lo hi) (rngO H o hi) A o' [-13] := by rw [eA]; exact fr.putO (fun h => by omega)
      by_cases hcc : i - mplc l lo = c
      · have en := endR_eq (e := .exit 4) otA
        simp only [LState.of] at en
        refine .inr ⟨A.putO (rngH H p l lo hi).length (.loop L (.exit 4)), ?_, ⟨o', fA.putO (fun h => by omega)⟩, oth_putO otA, get_putO otA gA, hcc, w1⟩
        rw [hR _ _ _ _ _ ot]
        unfold cntB
        have hcc' : ((i - mplc l lo : Nat) : Int) = c := by omega
        simp -implicitDefEqProofs [begR_eq ot, ← eA, ld1_pv _ _ _ gA, ld1_pv _ _ _ wA, eql_int, hcc', en, AExit.on]
      · have hcc' : ¬ ((i - mplc l lo : Nat) : Int) = c := by omega
        have hwr : IntKind.i64.wrap (((i - mplc l lo : Nat) : Int) + 1) = ((i + 1 - mplc l lo : Nat) : Int) := by rw [w64 (by omega)]; omega
        have st := st_1 bm 0 (cv ((i + 1 - mplc l lo : Nat) : Int)) A gA rfl (by simp) rfl rfl rfl
        simp only [List.set_cons_zero] at st
        have hne := oth_ne otA gA
        have otE := oth_put' (x := ⟨[cv ((i + 1 - mplc l lo : Nat) : Int)], ti, 1, false⟩) otA hne
        have en := endR_eq (e := .normal) otE
        simp only [LState.of] at en
        refine .inl ⟨(A.put bm ⟨[cv ((i + 1 - mplc l lo : Nat) : Int)], ti, 1, false⟩).putO (rngH H p l lo hi).length (.loop L .ready), ?_, o', ?_, oth_putO otE, get_putO otE (get_put gA), by omega, fun t h1 h2 => ?_⟩
        · rw [hR _ _ _ _ _ ot]
          unfold cntB
          simp -implicitDefEqProofs [begR_eq ot, ← eA, ld1_pv _ _ _ gA, ld1_pv _ _ _ wA, eql_int, hcc', add_int, hwr, st, en, AExit.on]
        · exact (fA.put (fun _ => by simp [fr.own bm (get_lt bC), obC])).putO (fun h => by omega)
        · rcases Nat.lt_or_ge t i with g | g
          · exact hpre t h1 g
          · have : t = i := by omega
            subst this; exact hle)
  rcases hend with ⟨rfl, j, hj1, hj2, ⟨o', fr, ot, gb, hc, hpre⟩, hstop⟩ | ⟨j, hj1, hj2, ⟨⟨o', fr⟩, ot, gb, hc, hlt⟩, L', hs⟩
  · have e := want_end asc hj1 hj2 hpre hstop
    refine ⟨.ready, H'.kill (rngH H p l lo hi).length, o', hrng, .inl rfl, ((f.wk (by simp)).tr fr).kill (fun h => by omega), ?_⟩
    rw [get_kill_ne (by omega), e, Nat.min_eq_right hc]; exact gb
  · rw [ot] at hs
    cases hs
    refine ⟨.exit 4, H'.kill (rngH H p l lo hi).length, o', hrng, .inr rfl, ((f.wk (by simp)).tr fr).kill (fun h => by omega), ?_⟩
    rw [get_kill_ne (by omega), Nat.min_eq_left (by omega), ← hc]; exact gb
/-- The places: n's box, the answer's, the map, the list's box, whose numbers are nb, rb, mp, xb; behind the second loop's laying wb, ib; behind the third one's tb. -/
theorem mr_end {o : Owner} {v g x w y1 y2 : Value} {lo hi nn : Int} {l : PL} {c nb rb mp xb wb ib tb : Nat} {H : Heap} (hl : l.length ≤ 200) (asc : Asc (keysOf l))
    (b12 : Bx H o nb (-5) 3 (cv c)) (r12 : Bx H o rb (-7) 4 (.bool false)) (x12 : Bx H o xb (-6) 51 x) (sx12 : SlP H o (-6) x l) (sw12 : SlP H o (-10) w (rng lo hi l)) (w12 : Bx H o wb (-11) 51 w) (i12 : Bx H o ib (-12) 3 (cv (rng lo hi l).length))
    (t12 : Bx H o tb (-13) 3 (cv (min c (rng lo hi l).length : Nat))) :
    ∃ H', ∀ e, (e = AExit.normal ∨ e = AExit.exit 4) → (kBlk 4 (kSeq (F6_j2 (run KG 100000) 100000) (kRet Try.prog [.cell 8 4] [0, 1, 2, 3, 8, 19, 9, 23, 24, 25, 10, 11, 12, 39, 40, 41, 14, 13, 15, 16, 63, 7, 71, 17, 76]))) e [v, cv lo, cv hi, cv nn, pv rb, .bool false, pv mp, g, undef, undef, pv xb, undef, undef, y1, undef, undef, pv ib, pv wb, undef, undef, undef, pv nb, y2, pv tb, undef] H = some (.bool true, H') := by
  have kn : ∀ H, run KG 100000 10 [] H = some (.bool true, H) := fun H => known_run 99999 H
  obtain ⟨mm, emm⟩ : ∃ mm, mm = min c (rng lo hi l).length := ⟨_, rfl⟩
  rw [← emm] at t12
  have rm := RMap_runs (G := KG) (n := 99999) sx12 (by omega) asc (by omega)
  obtain ⟨H13, st13, r13, f13⟩ := r12.st (y := .bool true) ⟨rfl, rfl, rfl⟩
  have hmin : minS (cv c) (cv (rng lo hi l).length) H = some (cv mm, H) := by
    have : (if ((rng lo hi l).length : Int) < (c : Int) then ((rng lo hi l).length : Int) else (c : Int)) = (mm : Int) := by split <;> omega
    simp only [minS, if_true, this]
  refine ⟨H13, ?_⟩
  have hw12 := sw12.len
  rintro e (rfl | rfl) <;>
  simp -implicitDefEqProofs [kBlk, kSeq, up, F6_j2_v, F6_j2v, kn, i12.ld, w12.ld, t12.ld, b12.ld, x12.ld, r13.ld, hw12, eql_int, hmin, pick_bool, rm, st13]
theorem mr_j1 {o9 : Owner} {v g x w y1 : Value} {lo hi nn : Int} {l : PL} {nb rb mp xb wb ib : Nat} {H9 : Heap} (hl : l.length ≤ 200) (hnn : -9223372036854775808 ≤ nn ∧ nn ≤ 9223372036854775807) (m9 : MapR H9 o9 mp l)
    (b9 : Bx H9 o9 nb (-5) 3 (cv nn)) (r9 : Bx H9 o9 rb (-7) 4 (.bool false)) (x9 : Bx H9 o9 xb (-6) 51 x) (sx9 : SlP H9 o9 (-6) x l) (sw9 : SlP H9 o9 (-10) w (rng lo hi l)) (w9 : Bx H9 o9 wb (-11) 51 w) (i9 : Bx H9 o9 ib (-12) 3 (cv (rng lo hi l).length)) :
    ∃ H', F6_j1 (run KG 100000) 100000 [v, cv lo, cv hi, cv nn, pv rb, .bool false, pv mp, g, undef, undef, pv xb, undef, undef, y1, undef, undef, pv ib, pv wb, undef, undef, undef, pv nb, undef, undef, undef] H9 = some (.bool true, H') := by
  have asc := m9.asc
  have cut := Cut_runs (G := KG) 99999 nn 200 hnn (by omega) H9
  have c0 := Int.emod_nonneg nn (show (200 : Int) ≠ 0 by omega)
  have c1 := Int.emod_lt_of_pos nn (show (0 : Int) < 200 by omega)
  obtain ⟨c, hc⟩ : ∃ c : Nat, nn % 200 = c := ⟨(nn % 200).toNat, by omega⟩
  rw [hc] at cut
  obtain ⟨H10, st10, b10, f10⟩ := b9.st (y := cv c) ⟨rfl, rfl, rfl⟩
  have m10 := m9.fr f10 (by simp <;> omega)
  have r10 := r9.fr f10 (by simp)
  have x10 := x9.fr f10 (by simp)
  have sx10 := sx9.fr f10 (by simp)
  have sw10 := sw9.fr f10 (by simp)
  have w10 := w9.fr f10 (by simp)
  have i10 := i9.fr f10 (by simp)
  obtain ⟨H11, st11, t11, f11⟩ := one_box H10 o9 (-13) 3 (cv 0) (cv 0) ⟨rfl, rfl, rfl⟩
  obtain ⟨o11, eo11⟩ : ∃ z, z = o9.up H10.length (-13) := ⟨_, rfl⟩
  rw [← eo11] at t11 f11
  have m11 := mapr_fr0 m10 f11
  have b11 := b10.fr f11 (by simp)
  have r11 := r10.fr f11 (by simp)
  have x11 := x10.fr f11 (by simp)
  have sx11 := sx10.fr f11 (by simp)
  have sw11 := sw10.fr f11 (by simp)
  have w11 := w10.fr f11 (by simp)
  have i11 := i10.fr f11 (by simp)
  have g11 := Range_runs (G := KG) (n := 99995) m11 lo hi (by omega)
  obtain ⟨s, H12, o12, rg12, hs, f12, gt12⟩ := cnt_loop (G := KG) (n := 99998) (c := c) (L := F6_L2 [v, cv lo, cv hi, cv nn, pv rb, .bool false, pv mp, g, undef, undef, pv xb, undef, undef, y1, undef, undef, pv ib, pv wb, undef, undef, undef, pv nb, fromG (hiH H11 hi), pv H10.length, undef]) (fun m y k w H h => by rw [F6_R2_eq (h := h)]; kernel_rfl) m11 (by omega) b11.1 b11.2 t11.1 t11.2 (by omega)
  have t12 : Bx H12 o12 H10.length (-13) 3 (cv (min c (rng lo hi l).length : Nat)) := ⟨gt12, by rw [f12.own _ t11.lt]; exact t11.2⟩
  obtain ⟨H13, hfin⟩ := mr_end (v := v) (g := g) (y1 := y1) (y2 := fromG (hiH H11 hi)) (nn := nn) (mp := mp) hl asc (b11.fr f12 (by simp)) (r11.fr f12 (by simp)) (x11.fr f12 (by simp)) (sx11.fr f12 (by simp)) (sw11.fr f12 (by simp)) (w11.fr f12 (by simp)) (i11.fr f12 (by simp)) t12
  refine ⟨H13, ?_⟩
  rw [F6_j1_v]
  unfold F6_j1v
  rcases hs with rfl | rfl
  · have := hfin .normal (.inl rfl)
    simp -implicitDefEqProofs [b9.ld, cut, st10, newBlk, st11, g11, rg12, this]
  · have := hfin (.exit 4) (.inr rfl)
    simp -implicitDefEqProofs [b9.ld, cut, st10, newBlk, st11, g11, rg12, this]
theorem mr_j0 {o5 : Owner} {v g x : Value} {lo hi nn : Int} {l : PL} {nb rb mp xb : Nat} {H5 : Heap} (hl : l.length ≤ 200) (hnn : -9223372036854775808 ≤ nn ∧ nn ≤ 9223372036854775807) (m5 : MapR H5 o5 mp l)
    (b5 : Bx H5 o5 nb (-5) 3 (cv nn)) (r5 : Bx H5 o5 rb (-7) 4 (.bool false)) (x5 : Bx H5 o5 xb (-6) 51 x) (s5 : SlP H5 o5 (-6) x l) :
    ∃ H', F6_j0 (run KG 100000) 100000 [v, cv lo, cv hi, cv nn, pv rb, .bool false, pv mp, g, undef, undef, pv xb, undef, undef, undef, undef, undef, undef, undef, undef, undef, undef, pv nb, undef, undef, undef] H5 = some (.bool true, H') := by
  obtain ⟨w, H6, rr, s6, sl6, z6⟩ := RRange_runs (G := KG) (n := 99999) s5 (by omega) lo hi (by omega)
  have f6 : Fr H5 o5 H6 (o5.from H5.length (-10)) [] := ⟨fun j hj _ => sl6 j hj, fun j hj => from_lt hj, z6⟩
  have w6 := s6 (-10)
  obtain ⟨o6, eo6⟩ : ∃ z, z = o5.from H5.length (-10) := ⟨_, rfl⟩
  rw [← eo6] at f6 w6
  obtain ⟨wa, wc, ew⟩ := w6.isSlice
  obtain ⟨H7, st7, w7, f7⟩ := one_box H6 o6 (-11) 51 (.slice none 0 0) w (by subst ew; exact ⟨rfl, rfl, rfl⟩)
  obtain ⟨o7, eo7⟩ : ∃ z, z = o6.up H6.length (-11) := ⟨_, rfl⟩
  rw [← eo7] at w7 f7
  obtain ⟨H8, st8, i8, f8⟩ := one_box H7 o7 (-12) 3 (cv 0) (cv 0) ⟨rfl, rfl, rfl⟩
  obtain ⟨o8, eo8⟩ : ∃ z, z = o7.up H7.length (-12) := ⟨_, rfl⟩
  rw [← eo8] at i8 f8
  have f58 := (f6.tr f7).tr f8
  have m8 := mapr_fr0 m5 f58
  have b8 := b5.fr f58 (by simp)
  have r8 := r5.fr f58 (by simp)
  have x8 := x5.fr f58 (by simp)
  have sx8 := s5.fr f58 (by simp)
  have sw8 := w6.fr (f7.tr f8) (by simp)
  have w8 := w7.fr f8 (by simp)
  have g8 := Range_runs (G := KG) (n := 99995) m8 lo hi (by omega)
  obtain ⟨H9, o9, rg9, f9, gi9⟩ := cmp_loop (G := KG) (n := 99998) (v8 := pv rb) (L := F6_L1 [v, cv lo, cv hi, cv nn, pv rb, .bool false, pv mp, g, undef, undef, pv xb, undef, undef, fromG (hiH H8 hi), undef, undef, pv H7.length, pv H6.length, undef, undef, undef, pv nb, undef, undef, undef]) (fun m y k w H h => by rw [F6_R1_eq (h := h)]; kernel_rfl) m8 (by omega) w8.1 w8.2 sw8 i8.1 i8.2 (by omega)
  have i9 : Bx H9 o9 H7.length (-12) 3 (cv (rng lo hi l).length) := ⟨gi9, by rw [f9.own _ i8.lt]; exact i8.2⟩
  obtain ⟨H', hj1⟩ := mr_j1 (v := v) (g := g) (y1 := fromG (hiH H8 hi)) hl hnn (m8.fr f9 (by simp <;> omega)) (b8.fr f9 (by simp)) (r8.fr f9 (by simp)) (x8.fr f9 (by simp)) (sx8.fr f9 (by simp)) (sw8.fr f9 (by simp)) (w8.fr f9 (by simp)) i9
  refine ⟨H', ?_⟩
  rw [F6_j0_v]
  unfold F6_j0v
  simp -implicitDefEqProofs [x5.ld, rr, newBlk, st7, st8, g8, rg9, kBlk, kSeq, up, hj1]
theorem MapRange_run {v : Value} {keys : List Int} (hv : IntsR H o0 (-1) v keys) (lo hi nn : Int) (hnn : -9223372036854775808 ≤ nn ∧ nn ≤ 9223372036854775807) : ∃ n H', run KG n 6 [v, cv lo, cv hi, cv nn] H = some (.bool true, H') := by
  refine ⟨100001, ?_⟩
  rw [F6_eq]
  have kn : ∀ H, run KG 100000 10 [] H = some (.bool true, H) := fun H => known_run 99999 H
  have hb0 := box1 3 (cv nn) H rfl rfl
  obtain ⟨H1, e1⟩ : ∃ x, x = H.new ⟨[cv nn], 3, 1, false⟩ := ⟨_, rfl⟩
  have l1 : H1.length = H.length + 1 := by rw [e1, new_len]
  have b1 : Bx H1 (Owner.up o0 H.length (-5)) H.length (-5) 3 (cv nn) := by rw [e1]; exact Bx.made _ _ _ _ _
  have f1 : Fr H o0 H1 (Owner.up o0 H.length (-5)) [] := by rw [e1]; exact (Fr.refl _ _ _).new _ _
  obtain ⟨o1, eo1⟩ : ∃ x, x = Owner.up o0 H.length (-5) := ⟨_, rfl⟩
  rw [← eo1] at b1 f1
  rw [← e1] at hb0
  obtain ⟨H2, e2⟩ : ∃ x, x = H1.new ⟨[.bool false], 4, 1, false⟩ := ⟨_, rfl⟩
  have l2 : H2.length = H.length + 2 := by rw [e2, new_len, l1]
  have r2 : Bx H2 (o1.up H1.length (-7)) (H.length + 1) (-7) 4 (.bool false) := by rw [e2, ← l1]; exact Bx.made _ _ _ _ _
  have f2 : Fr H1 o1 H2 (o1.up H1.length (-7)) [] := by rw [e2]; exact (Fr.refl _ _ _).new _ _
  obtain ⟨o2, eo2⟩ : ∃ x, x = o1.up H1.length (-7) := ⟨_, rfl⟩
  rw [← eo2] at r2 f2
  have b2 := b1.fr f2 (by simp)
  obtain ⟨H3, o3, rf, m3, f3⟩ := fill_runs (n := 99995) (hv.fr (f1.tr f2) (by simp)) (by omega)
  have ll := fillTo_len keys (min keys.length 200)
  have hl200 : (fillTo keys (min keys.length 200)).length ≤ 200 := by omega
  clear ll
  generalize fillTo keys (min keys.length 200) = l at *
  have hp2 : ∀ q : Int, q < 0 → q ∉ [(H2.length : Int)] := fun q hq h => by simp at h; omega
  have b3 := b2.fr f3 (hp2 _ (by omega))
  have r3 := r2.fr f3 (hp2 _ (by omega))
  obtain ⟨H4, e4⟩ : ∃ x, x = H3.new ⟨[.slice none 0 0], 51, 1, false⟩ := ⟨_, rfl⟩
  have x4 : Bx H4 (o3.up H3.length (-6)) H3.length (-6) 51 (.slice none 0 0) := by rw [e4]; exact Bx.made _ _ _ _ _
  have f4 : Fr H3 o3 H4 (o3.up H3.length (-6)) [] := by rw [e4]; exact (Fr.refl _ _ _).new _ _
  obtain ⟨o4, eo4⟩ : ∃ x, x = o3.up H3.length (-6) := ⟨_, rfl⟩
  rw [← eo4] at x4 f4
  have m4 := mapr_fr0 m3 f4
  have b4 := b3.fr f4 (by simp)
  have r4 := r3.fr f4 (by simp)
  have ra := All_runs (G := KG) (n := 99998) H2.length H4
  obtain ⟨H5, o5, x, rc, f5, x5, s5⟩ := collect (G := KG) (n := 99998) (L := F6_L0 [v, cv lo, cv hi, cv nn, pv (H.length + 1), .bool false, pv H2.length, fromG H4, undef, undef, pv H3.length, undef, undef, undef, undef, undef, undef, undef, undef, undef, undef, pv H.length, undef, undef, undef]) (q := -6) (fun m y k w H h => by rw [F6_R0_eq (h := h)]; kernel_rfl) m4 x4.1 x4.2 (by omega) (by omega)
  have x5' : Bx H5 o5 H3.length (-6) 51 x := ⟨x5, by rw [f5.own _ x4.lt]; exact x4.2⟩
  obtain ⟨H', hj0⟩ := mr_j0 (v := v) (g := fromG H4) hl200 hnn (m4.fr f5 (by simp <;> omega)) (b4.fr f5 (by simp)) (r4.fr f5 (by simp)) x5' s5 (lo := lo) (hi := hi)
  refine ⟨H', ?_⟩
  unfold F6
  simp -implicitDefEqProofs [hb0, newBlk, new_len, l1, ← e2, kn, not_bool, rf, ← e4, ra, rc, kBlk, kSeq, up, hj0]
end
end Go.Proofs.Ytdgolnenpnkjbaa.Fun
namespace Go.Proofs.Ytdgolnenpnkjbaa.Pure
open Go.RowKit Go.Proofs.YtdgolnenpnkjbaaA.Am Fun
theorem MapRange_law : Law Try.prog 6 [22, 2, 2, 3] := law_of fun H args hr hi => by
  obtain ⟨v0, _, rfl, h0, v1, _, rfl, h1, v2, _, rfl, h2, v3, _, rfl, h3, rfl⟩ := hi
  obtain ⟨w, hv, _, _⟩ := h0.ints slT (show Try.prog.underlying 2 = _ from by kernel_rfl) (by kernel_rfl)
  obtain ⟨a, rfl, ha⟩ := h1.int (show Try.prog.underlying 2 = _ from by kernel_rfl)
  obtain ⟨b, rfl, hb⟩ := h2.int (show Try.prog.underlying 2 = _ from by kernel_rfl)
  obtain ⟨c, rfl, hc⟩ := h3.int (show Try.prog.underlying 3 = _ from by kernel_rfl)
  exact MapRange_run hv a b c hc
end Go.Proofs.Ytdgolnenpnkjbaa.Pure
