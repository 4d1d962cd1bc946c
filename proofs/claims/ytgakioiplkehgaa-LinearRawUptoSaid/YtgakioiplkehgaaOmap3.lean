
/- omap's loops over functions: All, Range, Backward; Clone. -/
import Derived.Test.YtgakioiplkehgaaFun0
import Derived.Test.YtgakioiplkehgaaFun1
import Derived.Test.YtgakioiplkehgaaFun2
import Derived.Test.YtgakioiplkehgaaOmap2
namespace Go.Proofs.Ytgakioiplkehgaa.Fun
open Go Go.RowKit Go.Proofs.YtgakioiplkehgaaA.Am
set_option linter.unusedVariables false
set_option linter.unusedSimpArgs false
set_option linter.unnecessarySimpa false
/-- A map's block and what it leads to. -/
def MapV (H : Heap) (o : Owner) (p : Nat) (kl vl : List Value) : Prop :=
  ∃ sk sv bk bv ty, H.get p = some ⟨[sk, sv], ty, 1, false⟩ ∧ Sl H o p sk kl bk ∧ Sl H o p sv vl bv ∧ o p = (p : Int)
theorem MapV.fr {H H' : Heap} {o o' : Owner} {p : Nat} {kl vl : List Value} {ps : List Int} (h : MapV H o p kl vl) (f : Fr H o H' o' ps) (hp : (p : Int) ∉ ps) : MapV H' o' p kl vl := by
  obtain ⟨sk, sv, bk, bv, ty, h1, h2, h3, h4⟩ := h
  have hl := get_lt h1
  exact ⟨sk, sv, bk, bv, ty, by rw [f.same p hl (by rw [h4]; exact hp)]; exact h1, h2.fr f hp, h3.fr f hp, by rw [f.own p hl]; exact h4⟩
theorem MapR.v {H : Heap} {o : Owner} {p : Nat} {l : PL} (h : MapR H o p l) : MapV H o p (cvs (keysOf l)) (cvs (valsOf l)) := by
  obtain ⟨⟨sk, sv, bk, bv, ty, h1, h2, h3, _⟩, h4, _⟩ := h
  exact ⟨sk, sv, bk, bv, ty, h1, h2, h3, h4⟩
theorem dyn_y (G : Oracle) (n y : Nat) (args : List Value) (H : Heap) : dynC Try.prog.funcs.size (run G n) (.func (.yield y) #[] #[]) args H = run G n (Try.prog.funcs.size + y) args H := rfl
section
variable {G : Oracle} {n : Nat}
theorem from_run {H1 H0 : Heap} {o1 : Owner} {p y i0 ba bm bf : Nat} {fv : Value} {kl vl : List Value} {mb : Value → Bool} {ps : List Int} {tm tf : TypeId} {J R : Nat → Heap → Prop}
    (hm : MapV H1 o1 p kl vl) (hvl : vl.length = kl.length) (hl : kl.length ≤ 4194304) (hn : 4194304 < n) (hp : (p : Int) ∉ ps)
    (gm : H1.get bm = some ⟨[pv p], tm, 1, false⟩) (gf : H1.get bf = some ⟨[fv], tf, 1, false⟩) (om : o1 bm ∉ ps) (of : o1 bf ∉ ps) (ga : ld1 (pv ba) H0 = some (cv i0))
    (hmay : ∀ H' o', Fr H1 o1 H' o' ps → ∀ x ∈ kl, dynC Try.prog.funcs.size (run G n) fv [x] H' = some (.bool (mb x), H'))
    (hJ : ∀ i H', J i H' → ∃ o', Fr H1 o1 H' o' ps) (j0 : J i0 H0) (hi0 : i0 ≤ kl.length)
    (round : ∀ i H' k v, kl[i]? = some k → vl[i]? = some v → i0 ≤ i → mb k = true → J i H' →
      (∃ H'', run G n (Try.prog.funcs.size + y) [k, v] H' = some (.bool true, H'') ∧ J (i + 1) H'') ∨ (∃ H'', run G n (Try.prog.funcs.size + y) [k, v] H' = some (.bool false, H'') ∧ R i H'')) :
    ∃ w H', run G (n + 1) 70 [.func (.yield y) #[] #[], pv ba, pv bm, pv bf] H0 = some (w, H') ∧
      ((∃ j, i0 ≤ j ∧ j ≤ kl.length ∧ J j H' ∧ ∀ k, kl[j]? = some k → mb k = false) ∨ ∃ j, i0 ≤ j ∧ j < kl.length ∧ R j H') := by
  rw [F70_eq]
  obtain ⟨r, hit, hne, hr⟩ := iter_go (step := F70_b0 (run G n) n)
    (Q := fun m vs H' => ∃ (i : Nat) (d1 d2 : Value), i0 ≤ i ∧ i ≤ kl.length ∧ m = kl.length - i ∧ vs = [.func (.yield y) #[] #[], pv ba, cv i, pv bm, pv bf, d1, d2] ∧ J i H')
    (R := fun r => (r.1 = .exit 0 ∧ ∃ j, i0 ≤ j ∧ j ≤ kl.length ∧ J j r.2.2 ∧ ∀ k, kl[j]? = some k → mb k = false) ∨ (r.1 = .ret ∧ ∃ j, i0 ≤ j ∧ j < kl.length ∧ R j r.2.2))
    (by
      rintro m vs H' ⟨i, d1, d2, hi, hil, rfl, rfl, hj⟩
      obtain ⟨o', f⟩ := hJ i H' hj
      have gm' : H'.get bm = some ⟨[pv p], tm, 1, false⟩ := by rw [f.same bm (get_lt gm) om]; exact gm
      have gf' : H'.get bf = some ⟨[fv], tf, 1, false⟩ := by rw [f.same bf (get_lt gf) of]; exact gf
      obtain ⟨sk, sv, bk, bv, ty, h1, h2, h3, h4⟩ := hm.fr f hp
      have hsl := h2.len
      by_cases hlt : i < kl.length
      · have hlt' : (i : Int) < kl.length := by omega
        obtain ⟨k, hk⟩ : ∃ k, kl[i]? = some k := ⟨_, List.getElem?_eq_getElem hlt⟩
        obtain ⟨v, hv⟩ : ∃ v, vl[i]? = some v := ⟨_, List.getElem?_eq_getElem (by omega)⟩
        obtain ⟨q, _, hix, hld⟩ := h2.idx hk
        obtain ⟨q', _, hix', hld'⟩ := h3.idx hv
        have hmy := hmay H' o' f k (List.mem_of_getElem? hk)
        cases hmb : mb k with
        | false =>
          rw [hmb] at hmy
          refine .inr ⟨(.exit 0, [.func (.yield y) #[] #[], pv ba, cv i, pv bm, pv bf, .bool false, d2], H'), ?_, by simp, .inl ⟨rfl, i, hi, hil, hj, fun k' e => by rw [hk] at e; cases e; exact hmb⟩⟩
          simp -implicitDefEqProofs [F70_b0_v, F70_b0v, ld1_pv _ _ _ gm', ld1_pv _ _ _ gf', ld1_pv _ _ _ h1, nck_pv, fad_pv, hsl, lss_int, hlt', hix, hld H' rfl, hmy, pick_bool, fin]
        | true =>
          rw [hmb] at hmy
          have hw : IntKind.i64.wrap ((i : Int) + 1) = ((i + 1 : Nat) : Int) := by rw [w64 (by omega)]; omega
          rcases round i H' k v hk hv hi hmb hj with ⟨H'', hr, hj'⟩ | ⟨H'', hr, hR⟩
          · refine .inl ⟨_, H'', kl.length - (i + 1), by omega, ?_, i + 1, .bool true, .bool false, by omega, by omega, rfl, rfl, hj'⟩
            simp -implicitDefEqProofs [-Int.natCast_add, F70_b0_v, F70_b0v, ld1_pv _ _ _ gm', ld1_pv _ _ _ gf', ld1_pv _ _ _ h1, nck_pv, fad_pv, hsl, lss_int, hlt', hix, hld H' rfl, hix', hld' H' rfl, hmy, pick_bool, dyn_y, hr, not_bool, add_int, hw, fin]
          · refine .inr ⟨(.ret, [.func (.yield y) #[] #[], pv ba, cv i, pv bm, pv bf, .bool true, .bool true], H''), ?_, by simp, .inr ⟨rfl, i, hi, hlt, hR⟩⟩
            simp -implicitDefEqProofs [F70_b0_v, F70_b0v, ld1_pv _ _ _ gm', ld1_pv _ _ _ gf', ld1_pv _ _ _ h1, nck_pv, fad_pv, hsl, lss_int, hlt', hix, hld H' rfl, hix', hld' H' rfl, hmy, pick_bool, dyn_y, hr, not_bool, fin]
      · have hlt' : ¬ (i : Int) < kl.length := by omega
        refine .inr ⟨(.exit 0, [.func (.yield y) #[] #[], pv ba, cv i, pv bm, pv bf, .bool false, d2], H'), ?_, by simp, .inl ⟨rfl, i, hi, hil, hj, fun k' e => by rw [List.getElem?_eq_none (by omega)] at e; cases e⟩⟩
        simp -implicitDefEqProofs [F70_b0_v, F70_b0v, ld1_pv _ _ _ gm', ld1_pv _ _ _ h1, nck_pv, fad_pv, hsl, lss_int, hlt', pick_bool, fin])
    (kl.length - i0) [.func (.yield y) #[] #[], pv ba, cv i0, pv bm, pv bf, undef, undef] H0 ⟨i0, _, _, Nat.le_refl _, hi0, rfl, rfl, j0⟩ n (by omega)
  obtain ⟨e, vs, H'⟩ := r
  simp only at hr
  rcases hr with ⟨rfl, h⟩ | ⟨rfl, h⟩
  · refine ⟨.tuple #[], H', ?_, .inl h⟩
    simp -implicitDefEqProofs [F70, ga, hit, resK, resL, tupK]
  · refine ⟨.tuple #[], H', ?_, .inr h⟩
    simp -implicitDefEqProofs [F70, ga, hit, resK, resL, tupK]
/-! the functions that are gone over -/
theorem box1 (t : TypeId) (x : Value) (H : Heap) (h : x.cells = #[x]) (h1 : oneCell x = true) : boxS t x H = some (pv H.length, H.new ⟨[x], t, 1, false⟩) := by
  unfold boxS
  rw [h]
  simp [h1, newBlk]
abbrev fnv (f : FuncId) (c : Array Value) : Value := .func (.func f) #[] c
/-- Behind 'from'. -/
noncomputable def fromH (H : Heap) (p : Nat) (a : Int) (f : Value) : Heap := ((H.new ⟨[pv p], 48, 1, false⟩).new ⟨[cv a], 3, 1, false⟩).new ⟨[f], 104, 1, false⟩
abbrev fromG (H : Heap) : Value := fnv 70 #[pv (H.length + 1), pv H.length, pv (H.length + 2)]
abbrev fromO (H : Heap) (o : Owner) (bo : Int) : Owner := ((o.up H.length bo).up (H.length + 1) bo).up (H.length + 2) bo
theorem fromH_fr (H : Heap) (o : Owner) (p : Nat) (a : Int) (f : Value) (bo : Int) : Fr H o (fromH H p a f) (fromO H o bo) [] := by
  have h1 := (Fr.refl H o []).new ⟨[pv p], 48, 1, false⟩ bo
  have h2 := h1.new ⟨[cv a], 3, 1, false⟩ bo
  have h3 := h2.new ⟨[f], 104, 1, false⟩ bo
  simp only [new_len] at h2 h3
  exact h3
theorem fromH_len (H : Heap) (p : Nat) (a : Int) (f : Value) : (fromH H p a f).length = H.length + 3 := by simp [fromH, new_len]
theorem fromH_m (H : Heap) (p : Nat) (a : Int) (f : Value) : (fromH H p a f).get H.length = some ⟨[pv p], 48, 1, false⟩ := by
  unfold fromH
  rw [get_new_lt (by simp only [new_len]; omega), get_new_lt (by simp only [new_len]; omega)]; exact get_new
theorem fromH_a (H : Heap) (p : Nat) (a : Int) (f : Value) : (fromH H p a f).get (H.length + 1) = some ⟨[cv a], 3, 1, false⟩ := by
  unfold fromH
  rw [get_new_lt (by simp only [new_len]; omega)]
  have := get_new (H := H.new ⟨[pv p], 48, 1, false⟩) (c := ⟨[cv a], 3, 1, false⟩)
  rw [new_len] at this; exact this
theorem fromH_f (H : Heap) (p : Nat) (a : Int) (f : Value) : (fromH H p a f).get (H.length + 2) = some ⟨[f], 104, 1, false⟩ := by
  unfold fromH
  have := get_new (H := (H.new ⟨[pv p], 48, 1, false⟩).new ⟨[cv a], 3, 1, false⟩) (c := ⟨[f], 104, 1, false⟩)
  simp only [new_len] at this; exact this
theorem from_runs (p : Nat) (a : Int) (f : FuncId) (c : Array Value) (H : Heap) : run G (n + 1) 59 [pv p, cv a, fnv f c] H = some (fromG H, fromH H p a (fnv f c)) := by
  rw [F59_eq]
  have b1 := box1 48 (pv p) H rfl rfl
  have b2 := box1 3 (cv a) (H.new ⟨[pv p], 48, 1, false⟩) rfl rfl
  have b3 := box1 104 (fnv f c) ((H.new ⟨[pv p], 48, 1, false⟩).new ⟨[cv a], 3, 1, false⟩) rfl rfl
  simp only [new_len] at b2 b3
  simp -implicitDefEqProofs [F59, b1, b2, b3, fromH]
/-- The loop over it. -/
theorem from_rng {L : ALoop} {H1 : Heap} {o1 : Owner} {p i0 ba bm bf : Nat} {fv : Value} {kl vl : List Value} {mb : Value → Bool} {ps : List Int} {ta tm tf : TypeId} {J R : Nat → Heap → Prop}
    (hm : MapV H1 o1 p kl vl) (hvl : vl.length = kl.length) (hl : kl.length ≤ 4194304) (hn : 4194304 < n) (hp : (p : Int) ∉ ps)
    (gm : H1.get bm = some ⟨[pv p], tm, 1, false⟩) (gf : H1.get bf = some ⟨[fv], tf, 1, false⟩) (ga : H1.get ba = some ⟨[cv i0], ta, 1, false⟩) (om : o1 bm ∉ ps) (of : o1 bf ∉ ps)
    (hmay : ∀ H' o', Fr H1 o1 H' o' ps → ∀ x ∈ kl, dynC Try.prog.funcs.size (run G n) fv [x] H' = some (.bool (mb x), H'))
    (hJ : ∀ i H', J i H' → (∃ o', Fr H1 o1 H' o' ps) ∧ H'.oth H1.length = some (.loop L .ready)) (hR : ∀ i H', R i H' → ∃ L' s, H'.oth H1.length = some (.loop L' s)) (j0 : J i0 (H1.newO (.loop L .ready))) (hi0 : i0 ≤ kl.length)
    (round : ∀ i H' k v, kl[i]? = some k → vl[i]? = some v → i0 ≤ i → mb k = true → J i H' →
      (∃ H'', run G n (Try.prog.funcs.size + H1.length) [k, v] H' = some (.bool true, H'') ∧ J (i + 1) H'') ∨ (∃ H'', run G n (Try.prog.funcs.size + H1.length) [k, v] H' = some (.bool false, H'') ∧ R i H'')) :
    ∃ s H', rngC Try.prog.funcs.size (run G (n + 1)) (fnv 70 #[pv ba, pv bm, pv bf]) L H1 = some (s, H'.kill H1.length) ∧
      ((s = .ready ∧ ∃ j, i0 ≤ j ∧ j ≤ kl.length ∧ J j H' ∧ ∀ k, kl[j]? = some k → mb k = false) ∨ ∃ j, i0 ≤ j ∧ j < kl.length ∧ R j H' ∧ ∃ L', H'.oth H1.length = some (.loop L' s)) := by
  have ga0 : ld1 (pv ba) (H1.newO (.loop L .ready)) = some (cv i0) := ld1_pv ba 0 _ (by rw [get_slot (slot_newO (c := .loop L .ready) (get_lt ga))]; exact ga)
  obtain ⟨w, H', hr, h⟩ := from_run (y := H1.length) hm hvl hl hn hp gm gf om of ga0 hmay (fun i H' h => (hJ i H' h).1) j0 hi0 round
  have hlt : (70 : Nat) < Try.prog.funcs.size := by decide +kernel
  rcases h with ⟨j, h1, h2, h3, h4⟩ | ⟨j, h1, h2, h3⟩
  · exact ⟨.ready, H', rngC_eq hlt hr (hJ j H' h3).2, .inl ⟨rfl, j, h1, h2, h3, h4⟩⟩
  · obtain ⟨L', s, hs⟩ := hR j H' h3
    exact ⟨s, H', rngC_eq hlt hr hs, .inr ⟨j, h1, h2, h3, L', hs⟩⟩
noncomputable def backH (H : Heap) (p : Nat) : Heap := H.new ⟨[pv p], 48, 1, false⟩
theorem dyn_f {C : Oracle} {f : FuncId} {c : Array Value} {args : List Value} {H : Heap} (h : f < Try.prog.funcs.size) : dynC Try.prog.funcs.size C (fnv f c) args H = C f (args ++ c.toList) H := by
  simp [dynC, h]
/-- Range's condition. -/
theorem range_may {b : Nat} {t : TypeId} {hi : Int} {H : Heap} (h : H.get b = some ⟨[cv hi], t, 1, false⟩) (x : Int) : dynC Try.prog.funcs.size (run G (n + 1)) (fnv 60 #[pv b]) [cv x] H = some (.bool (decide (x ≤ hi)), H) := by
  have hlt : (60 : Nat) < Try.prog.funcs.size := by decide +kernel
  rw [dyn_f hlt]
  show run G (n + 1) _ [cv x, pv b] H = _
  rw [F60_eq]
  simp -implicitDefEqProofs [F60, ld1_pv _ _ _ h, leq_int]
noncomputable def hiH (H : Heap) (hi : Int) : Heap := H.new ⟨[cv hi], 2, 1, false⟩
theorem Range_runs {H : Heap} {o : Owner} {p : Nat} {l : PL} (h : MapR H o p l) (lo hi : Int) (hn : 4194304 < n) :
    run G (n + 5) 47 [pv p, cv lo, cv hi] H = some (fromG (hiH H hi), fromH (hiH H hi) p (mplc l lo) (fnv 60 #[pv H.length])) := by
  rw [F47_eq]
  have b1 := box1 2 (cv hi) H rfl rfl
  have h1 : MapR (hiH H hi) (o.up H.length (-1)) p l := h.fr ((Fr.refl H o []).new _ (-1)) (by simp)
  have ha := at_runs (G := G) h1 lo hn
  have hf := from_runs (G := G) (n := n + 3) p (mplc l lo) 60 #[pv H.length] (hiH H hi)
  have e : H.new ⟨[cv hi], 2, 1, false⟩ = hiH H hi := rfl
  rw [e] at b1
  simp -implicitDefEqProofs [F47, b1, ha, ext_i, hf]

/-! Clone -/
theorem bs0 (H : Heap) : abuildSlice Try.prog 49 0 [] H = some (.slice (some ⟨H.length, 0, none⟩) 0 0, H.new ⟨[], 2, 1, false⟩) := by kernel_rfl
theorem slT : Try.prog.underlying 49 = some (.slice 2) := by kernel_rfl
/-- What is new is this one's. -/
def _root_.Go.Proofs.YtgakioiplkehgaaA.Am.Owner.from (o : Owner) (n : Nat) (Q : Int) : Owner := fun i => if n ≤ i then Q else o i
theorem from_ge {o : Owner} {n i : Nat} {Q : Int} (h : n ≤ i) : o.from n Q i = Q := by simp [Owner.from, h]
theorem from_lt {o : Owner} {n i : Nat} {Q : Int} (h : i < n) : o.from n Q i = o i := by unfold Owner.from; rw [if_neg (by omega)]
theorem SClone_runs {H : Heap} {o : Owner} {P : Int} {s : Value} {cs : List Int} {b : Option Nat} (hs : Sl H o P s (cvs cs) b) (hl : cs.length ≤ 4194304) :
    ∃ s' H' b', run G (n + 1) 61 [s] H = some (s', H') ∧ (∀ Q, Sl H' (o.from H.length Q) Q s' (cvs cs) b') ∧ (∀ j, j < H.length → H'[j]? = H[j]?) ∧ H.length ≤ H'.length ∧ ∀ q, b' = some q → H.length ≤ q ∧ q < H'.length := by
  rw [F61_eq]
  cases b with
  | none =>
    obtain ⟨rfl, h0⟩ := hs
    refine ⟨.slice none 0 0, H, none, ?_, fun Q => ⟨rfl, h0⟩, fun _ _ => rfl, Nat.le_refl _, fun q e => by cases e⟩
    simp -implicitDefEqProofs [F61, slice_eql_nil none 0 0 slT]
  | some q =>
    obtain ⟨cap, rest, ty, rfl, hb, hc, hp, hq⟩ := hs
    simp only [List.length_map] at hc
    have hbl := get_lt hb
    have he := slice_eql_nil (P := Try.prog) (some ⟨q, 0, none⟩) cs.length cap slT
    have b0 := bs0 H
    obtain ⟨H1, e1⟩ : ∃ x, x = H.new ⟨[], 2, 1, false⟩ := ⟨_, rfl⟩
    rw [← e1] at b0
    have l1 : H1.length = H.length + 1 := by rw [e1, new_len]
    have g1 : H1.get H.length = some ⟨[], 2, 1, false⟩ := by rw [e1]; exact get_new
    by_cases hn : cs = []
    · subst hn
      simp only [List.length_nil] at he
      have ha : appS 2 1 8 (.slice (some ⟨H.length, 0, none⟩) 0 0) (.slice (some ⟨q, 0, none⟩) 0 cap) H1 = some (.slice (some ⟨H.length, 0, none⟩) 0 0, H1) := by
        simp [appS, srcCells]
      refine ⟨.slice (some ⟨H.length, 0, none⟩) 0 0, H1, some H.length, ?_, fun Q => ⟨0, [], 2, rfl, g1, rfl, rfl, from_ge (Nat.le_refl _)⟩, fun j hj => by rw [e1, slot_new hj], by omega, fun q e => by cases e; omega⟩
      simp -implicitDefEqProofs [F61, he, b0, ha]
    · have hlen : cs.length ≠ 0 := by simpa using hn
      have hbq : H1.get q = some ⟨cvs cs ++ rest, ty, 1, false⟩ := by rw [e1, get_new_lt hbl]; exact hb
      have hld : ldCells H1 q 0 (cs.length * 1) = some (cvs cs) := by
        simp only [ldCells, hbq, Nat.mul_one]
        rw [if_pos (by simp), List.drop_zero, List.take_left' (by simp)]
      have hld0 : ldCells H1 H.length 0 (0 * 1) = some [] := by simp [ldCells, g1]
      have ha : appS 2 1 8 (.slice (some ⟨H.length, 0, none⟩) 0 0) (.slice (some ⟨q, 0, none⟩) cs.length cap) H1 = some (.slice (some ⟨H.length + 1, 0, none⟩) cs.length cs.length, (H1.kill H.length).new ⟨cvs cs, 2, 1, false⟩) := by
        simp only [appS, srcCells, hlen, if_false, hld, Option.map_some, Nat.zero_add]
        rw [if_neg (by omega), if_pos (by simp; omega)]
        simp only [g1]
        rw [if_pos (by simp)]
        simp only [hld0, List.nil_append, l1]
      refine ⟨.slice (some ⟨H.length + 1, 0, none⟩) cs.length cs.length, (H1.kill H.length).new ⟨cvs cs, 2, 1, false⟩, some (H.length + 1), ?_, fun Q => ?_, fun j hj => ?_, by rw [new_len, kill_len]; omega, fun q e => by cases e; rw [new_len, kill_len, l1]; omega⟩
      · simp -implicitDefEqProofs [F61, he, b0, ha]
      · have := get_new (H := H1.kill H.length) (c := ⟨cvs cs, 2, 1, false⟩)
        rw [kill_len, l1] at this
        exact ⟨cs.length, [], 2, by simp, by simpa using this, by simp, rfl, from_ge (by omega)⟩
      · rw [slot_new (by rw [kill_len]; omega), slot_kill (by omega), e1, slot_new hj]
theorem abM (a b : Option Addr) (i j k m : Nat) : abuild Try.prog 51 [(0, .slice a i j), (1, .slice b k m)] = some (.agg #[.slice a i j, .slice b k m]) := by kernel_rfl
theorem Clone_runs {H : Heap} {o : Owner} {p : Nat} {l : PL} (h : MapR H o p l) :
    ∃ q H' o', run G (n + 2) 49 [pv p] H = some (pv q, H') ∧ MapR H' o' q l ∧ Fr H o H' o' [] ∧ H.length ≤ q := by
  obtain ⟨⟨sk, sv, bk, bv, ty, hp, hk, hv, hb1, hb2, hb3⟩, ho, ha, hf⟩ := h
  have hpl := get_lt hp
  rw [F49_eq]
  obtain ⟨sk', H1, bk', r1, k1, f1, m1, n1⟩ := SClone_runs (G := G) (n := n) hk (by simpa using hf)
  have hv1 : Sl H1 o p sv (cvs (valsOf l)) bv := hv.mv fun q e => ⟨f1 q (hv.lt' e).1, rfl⟩
  obtain ⟨sv', H2, bv', r2, k2, f2, m2, n2⟩ := SClone_runs (G := G) (n := n) hv1 (by simpa using hf)
  have P1 : ∀ o, ld1 (.pointer (some ⟨p, o, none⟩)) H1 = [sk, sv][o]? := fun o => ld1_pv p o H1 (by rw [get_slot (f1 p hpl)]; exact hp)
  obtain ⟨a1, c1, d1, es1⟩ := (k1 0).isSlice
  obtain ⟨a2, c2, d2, es2⟩ := (k2 0).isSlice
  have hbox : boxS 51 (.agg #[sk', sv']) H2 = some (pv H2.length, H2.new ⟨[sk', sv'], 51, 1, false⟩) := by
    subst es1 es2
    simp [boxS, Value.cells, oneCell, newBlk]
  have hab : abuild Try.prog 51 [(0, sk'), (1, sv')] = some (.agg #[sk', sv']) := by
    subst es1 es2; exact abM _ _ _ _ _ _
  refine ⟨H2.length, H2.new ⟨[sk', sv'], 51, 1, false⟩, o.from H.length H2.length, ?_, ⟨⟨sk', sv', bk', bv', _, get_new, ?_, ?_, ?_, ?_, ?_⟩, from_ge (by omega), ha, hf⟩, ⟨fun j hj _ => by rw [slot_new (by omega), f2 j (by omega), f1 j hj], fun j hj => from_lt hj, by rw [new_len]; omega⟩, by omega⟩
  · simp -implicitDefEqProofs [F49, nck_pv, fad_pv, ld1_pv _ _ _ hp, P1, r1, r2, hab, hbox, hv.eqV]
  · exact (k1 H2.length).mv fun q e => by
      have := n1 q e
      exact ⟨by rw [slot_new (by omega), f2 q this.2], rfl⟩
  · exact (k2 H2.length).mv fun q e => by
      have := n2 q e
      exact ⟨by rw [slot_new this.2], by rw [from_ge (by omega), from_ge (by omega)]⟩
  · intro e; have := n1 _ e; omega
  · intro e; have := n2 _ e; omega
  · intro q e e'; have := n1 q e; have := n2 q e'; omega
end
end Go.Proofs.Ytgakioiplkehgaa.Fun
