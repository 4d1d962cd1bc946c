/- HelpOnce: the plain law of helpers, then the run. -/
import Derived.Test.YtpenlcigickkbaaFrames
import Derived.Test.YtpenlcigickkbaaKnown
import Derived.Test.YtpenlcigickkbaaFunHelpOnce
namespace Go.Proofs.Ytpenlcigickkbaa.Fun
open Go.RowKit Go.Proofs.YtpenlcigickkbaaA.Am
set_option linter.unusedVariables false
set_option linter.unusedSimpArgs false
/-- What an outcome lets stand. -/
def valO (old x out : Int) : Int := if out = 1 then x else old
structure HI (flag : Bool) (old x : Int) (M : MV) (g w out : Int) : Prop where
  cs : M.cs = [1, 0, g, 0, 0, w, 0, 3, 6, old, x, out]
  odd : M.odd = 0
  max : M.max = 40
  out_is : out = 0 ∨ out = 1 ∨ out = 2
  fl : flag = true → out ≠ 1 ∧ g ≠ 0
  word : w = 69 ∨ (out ≠ 0 ∧ w = valO old x out)
structure HT (flag : Bool) (old x : Int) (w out : Int) (h : HV) : Prop where
  at_ : h.at_ = 8
  nx : 0 ≤ h.next ∧ h.next ≤ 7
  g : 1 ≤ h.next → h.guard = 3
  hope : h.next = 2 → (h.out = 1 ∨ h.out = 2) ∧ (flag = true → h.out = 2)
  settled : 3 ≤ h.next → out ≠ 0
  told : 4 ≤ h.next → h.out = out
  pl : 5 ≤ h.next → h.place = 6
  wd : 6 ≤ h.next → h.word = valO old x out
  gone : h.next = 7 → w ≠ 69
theorem HT.mono {flag : Bool} {old x w out w' out' : Int} {h : HV} (k : HT flag old x w out h) (ho : out ≠ 0 → out' = out) (hw : w ≠ 69 → w' = w) : HT flag old x w' out' h :=
  ⟨k.at_, k.nx, k.g, k.hope, fun h3 => by rw [ho (k.settled h3)]; exact k.settled h3, fun h4 => by rw [ho (k.settled (by omega))]; exact k.told h4, k.pl,
    fun h6 => by rw [ho (k.settled (by omega))]; exact k.wd h6, fun h7 => by rw [hw (k.gone h7)]; exact k.gone h7⟩
theorem seen_in {M : MV} {a : Int} (h : 1 ≤ a ∧ a ≤ M.cs.length) : M.seen a = M.acc := by simp only [MV.seen, h, and_self, if_true]
theorem hstep_inv {flag : Bool} {old x g w out : Int} {M : MV} {h : HV} (hi : HI flag old x M g w out) (ht : HT flag old x w out h) (h69 : old ≠ 69 ∧ x ≠ 69) :
    ∃ w' out', HI flag old x (hstep h M).2 g w' out' ∧ HT flag old x w' out' (hstep h M).1 ∧ (out ≠ 0 → out' = out) ∧ (w ≠ 69 → w' = w) := by
  obtain ⟨hcs, hod, hmx, hout, hfl, hwd⟩ := hi
  obtain ⟨nx, at_, guard, ho, place, word⟩ := h
  obtain ⟨t1, t2, t3, t4, t5, t6, t7, t8, t9⟩ := ht
  simp only at t1 t2 t3 t4 t5 t6 t7 t8 t9
  subst t1
  have hlen : (M.cs.length : Int) = 12 := by rw [hcs]; rfl
  have acc_ok : HI flag old x M.acc g w out := ⟨hcs, hod, hmx, hout, hfl, hwd⟩
  have a3 : M.at 3 = g := by simp [MV.at, hcs]
  have a12 : M.at 12 = out := by simp [MV.at, hcs]
  have a9 : M.at 9 = 6 := by simp [MV.at, hcs]
  have a8 : M.at 8 = 3 := by simp [MV.at, hcs]
  have a11 : M.at 11 = x := by simp [MV.at, hcs]
  have a10 : M.at 10 = old := by simp [MV.at, hcs]
  have w8 : wr 8 = 8 := by decide
  have w12 : wr 12 = 12 := by decide
  have w9 : wr 9 = 9 := by decide
  have w11 : wr 11 = 11 := by decide
  have w10 : wr 10 = 10 := by decide
  have o58 : ofI 5 8 = 69 := by decide
  rcases (show nx = 0 ∨ nx = 1 ∨ nx = 2 ∨ nx = 3 ∨ nx = 4 ∨ nx = 5 ∨ nx = 6 ∨ nx = 7 by omega) with rfl | rfl | rfl | rfl | rfl | rfl | rfl | rfl
  · refine ⟨w, out, ?_, ?_, fun _ => rfl, fun _ => rfl⟩
    · simp only [hstep]; simp only [if_true, w8]; rw [seen_in (by omega)]; exact acc_ok
    · simp only [hstep]; simp only [if_true, w8, a8]
      exact ⟨rfl, by simp, fun _ => rfl, by simp, by simp, by simp, by simp, by simp, by simp⟩
  · obtain rfl := t3 (by omega)
    refine ⟨w, out, ?_, ?_, fun _ => rfl, fun _ => rfl⟩
    · simp [hstep]; rw [seen_in (by omega)]; exact acc_ok
    · simp [hstep, a3]
      refine ⟨rfl, by simp, fun _ => rfl, fun _ => ⟨?_, fun hf => ?_⟩, by simp, by simp, by simp, by simp, by simp⟩
      · by_cases hg : g = 0 <;> simp [hg]
      · simp [(hfl hf).2]
  · obtain ⟨q1, q2⟩ := t4 rfl
    by_cases h0 : out = 0
    · have hfit : M.fit 12 0 = true := by simp [MV.fit, a12, h0, hcs]
      refine ⟨w, ho, ?_, ?_, fun h => absurd h0 h, fun _ => rfl⟩
      · simp [hstep, w12]
        unfold MV.cas; rw [hfit]
        refine ⟨by simp [MV.set, MV.acc, hcs], hod, hmx, by omega, fun hf => ⟨by rw [q2 hf]; decide, (hfl hf).2⟩, ?_⟩
        rcases hwd with h | ⟨h, _⟩
        · exact .inl h
        · exact absurd h0 h
      · simp [hstep]
        exact ⟨rfl, by simp, fun _ => t3 (by simp), by simp, fun _ => by omega, by simp, by simp, by simp, by simp⟩
    · have hfit : M.fit 12 0 = false := by simp [MV.fit, a12, h0]
      refine ⟨w, out, ?_, ?_, fun _ => rfl, fun _ => rfl⟩
      · simp [hstep, w12]
        unfold MV.cas; rw [hfit]; simp only [Bool.false_eq_true, if_false]; rw [seen_in (by omega)]; exact acc_ok
      · simp [hstep]
        exact ⟨rfl, by simp, fun _ => t3 (by simp), by simp, fun _ => h0, by simp, by simp, by simp, by simp⟩
  · have h0 := t5 (by omega)
    refine ⟨w, out, ?_, ?_, fun _ => rfl, fun _ => rfl⟩
    · simp [hstep, w12]; rw [seen_in (by omega)]; exact acc_ok
    · simp [hstep, w12, a12]
      exact ⟨rfl, by simp, fun _ => t3 (by simp), by simp, fun _ => h0, fun _ => rfl, by simp, by simp, by simp⟩
  · have h0 := t5 (by omega)
    have hto := t6 (by omega)
    refine ⟨w, out, ?_, ?_, fun _ => rfl, fun _ => rfl⟩
    · simp [hstep, w9]; rw [seen_in (by omega)]; exact acc_ok
    · simp [hstep, w9, a9]
      exact ⟨rfl, by simp, fun _ => t3 (by simp), by simp, fun _ => h0, fun _ => hto, fun _ => rfl, by simp, by simp⟩
  · have h0 := t5 (by omega)
    have hto := t6 (by omega)
    refine ⟨w, out, ?_, ?_, fun _ => rfl, fun _ => rfl⟩
    · by_cases h1 : ho = 1
      · simp [hstep, w11, h1]; rw [seen_in (by omega)]; exact acc_ok
      · simp [hstep, w10, h1]; rw [seen_in (by omega)]; exact acc_ok
    · by_cases h1 : ho = 1
      · simp [hstep, w11, h1, a11]
        exact ⟨rfl, by simp, fun _ => t3 (by simp), by simp, fun _ => h0, fun _ => by rw [← hto, h1], fun _ => t7 (by simp), fun _ => by simp [valO, ← hto, h1], by simp⟩
      · simp [hstep, w10, h1, a10]
        exact ⟨rfl, by simp, fun _ => t3 (by simp), by simp, fun _ => h0, fun _ => hto, fun _ => t7 (by simp), fun _ => by simp [valO, ← hto, h1], by simp⟩
  · have h0 := t5 (by omega)
    have hto := t6 (by omega)
    obtain rfl := t7 (by omega)
    have hwo := t8 (by omega)
    have hv69 : valO old x out ≠ 69 := by
      unfold valO; split
      · exact h69.2
      · exact h69.1
    have a6 : M.at 6 = w := by simp [MV.at, hcs]
    by_cases hw : w = 69
    · have hfit : M.fit 6 69 = true := by simp [MV.fit, a6, hw, hcs]
      refine ⟨valO old x out, out, ?_, ?_, fun _ => rfl, fun h => absurd hw h⟩
      · simp [hstep, o58]
        unfold MV.cas; rw [hfit]
        exact ⟨by simp [MV.set, MV.acc, hcs, hwo], hod, hmx, hout, hfl, .inr ⟨h0, rfl⟩⟩
      · simp [hstep]
        exact ⟨rfl, by simp, fun _ => t3 (by simp), by simp, fun _ => h0, fun _ => hto, fun _ => rfl, fun _ => hwo, fun _ => hv69⟩
    · have hfit : M.fit 6 69 = false := by simp [MV.fit, a6, hw]
      refine ⟨w, out, ?_, ?_, fun _ => rfl, fun _ => rfl⟩
      · simp [hstep, o58]
        unfold MV.cas; rw [hfit]; simp only [Bool.false_eq_true, if_false]; rw [seen_in (by omega)]; exact acc_ok
      · simp [hstep]
        exact ⟨rfl, by simp, fun _ => t3 (by simp), by simp, fun _ => h0, fun _ => hto, fun _ => rfl, fun _ => hwo, fun _ => hw⟩
  · refine ⟨w, out, ?_, ?_, fun _ => rfl, fun _ => rfl⟩
    · simp [hstep]; exact ⟨hcs, hod, hmx, hout, hfl, hwd⟩
    · simp [hstep]; exact ⟨rfl, t2, t3, t4, t5, t6, t7, t8, t9⟩
/-- The helpers' places, the helpers. -/
structure HAll (H : Heap) (o : Own) (p arr : Nat) (fs : Nat → Nat) (hs : Nat → HV) : Prop where
  arr_ : ∃ ty, B1 H o arr ⟨[pv (fs 0), pv (fs 1), pv (fs 2)], ty, 1, false⟩
  each : ∀ k, k < 3 → HelpR H o (fs k) (hs k)
  ne : ∀ k, k < 3 → fs k ≠ p ∧ fs k ≠ arr
  inj : ∀ j k, j < 3 → k < 3 → j ≠ k → fs j ≠ fs k
  arp : arr ≠ p
theorem HAll.fr {H H' : Heap} {o o' : Own} {p arr : Nat} {fs : Nat → Nat} {hs : Nat → HV} (h : HAll H o p arr fs hs) (f : Fr H o H' o' [p]) : HAll H' o' p arr fs hs := by
  obtain ⟨⟨ty, a⟩, b, c, d, e⟩ := h
  exact ⟨⟨ty, a.fr f (nm2 e)⟩, fun k hk => (b k hk).fr f (nm2 (c k hk).1), c, d, e⟩
theorem HAll.step {H H' : Heap} {o o' : Own} {p arr : Nat} {fs : Nat → Nat} {hs : Nat → HV} (h : HAll H o p arr fs hs) {k : Nat} (hk : k < 3) {g : HV} (f : Fr H o H' o' [fs k, p]) (hg : HelpR H' o' (fs k) g) : HAll H' o' p arr fs (fun j => if j = k then g else hs j) := by
  obtain ⟨⟨ty, a⟩, b, c, d, e⟩ := h
  refine ⟨⟨ty, a.fr f ?_⟩, fun j hj => ?_, c, d, e⟩
  · have := (c k hk).2; simp; omega
  · by_cases hjk : j = k
    · subst hjk; simpa using hg
    · simp only [hjk, if_false]
      have h1 := (c j hj).1
      have h2 := d j k hj hk hjk
      exact (b j hj).fr f (by simp; omega)
theorem iaa_pv (n : Nat) (p : Nat) (k : Nat) (hk : k < n) (H : Heap) : iaaS n 1 (pv p) (cv k) H = some (.pointer (some ⟨p, k, none⟩), H) := by
  simp only [iaaS]; rw [if_pos (by omega)]; simp
theorem once_round {H : Heap} {o : Own} {p arr : Nat} {fs : Nat → Nat} {hs : Nat → HV} {flag en : Bool} {old x g w out orec wrec : Int} {M : MV} {l : List Int} {vS v84 v18 v93 v95 v117 v19 v122 v159 : Value} {i : Nat}
    (hm : MemR H o p M) (hi : HI flag old x M g w out) (hA : HAll H o p arr fs hs) (hT : ∀ k, k < 3 → HT flag old x w out (hs k)) (h69 : old ≠ 69 ∧ x ≠ 69) (hen : en = true → orec = out ∧ wrec = w ∧ w ≠ 69 ∧ out ≠ 0)
    (hv : IntsR H o (-1) vS l) (hl : ∀ z ∈ l, W64 z) (hil : i < l.length) (h60 : i < 60) :
    ∃ H' M' g' w' out' hs' en' orec' wrec' e84 e18 e93 e95 e117 e19 e122 e159,
      F11_b1 (run (knownG ks) 100000) 100000 [cv old, cv x, .bool flag, vS, .bool false, pv p, cv 0, .bool false, .bool flag, .bool true, cv 8, .bool false, cv i, v84, v18, v93, .bool en, v95, pv arr, cv orec, cv wrec, v117, v19, v122, v159] H =
        some (.normal, [cv old, cv x, .bool flag, vS, .bool false, pv p, cv 0, .bool false, .bool flag, .bool true, cv 8, .bool false, cv ((i + 1 : Nat) : Int), e84, e18, e93, .bool en', e95, pv arr, cv orec', cv wrec', e117, e19, e122, e159], H') ∧
      MemR H' o p M' ∧ HI flag old x M' g' w' out' ∧ HAll H' o p arr fs hs' ∧ (∀ k, k < 3 → HT flag old x w' out' (hs' k)) ∧ (en' = true → orec' = out' ∧ wrec' = w' ∧ w' ≠ 69 ∧ out' ≠ 0) ∧ IntsR H' o (-1) vS l := by
  have hvl := hv.1.len
  obtain ⟨q, off, b, hix, hb, hc⟩ := hv.1.idx hil
  have hz : W64 (l.getD i 0) := by rw [List.getD_eq_getElem?_getD, List.getElem?_eq_getElem hil]; exact hl _ (List.getElem_mem hil)
  have hcut := Cut_runs (G := knownG ks) 99999 (l.getD i 0) 4 hz (by omega) H
  have hb1 := Int.emod_nonneg (l.getD i 0) (show (4 : Int) ≠ 0 by omega)
  have hb2 := Int.emod_lt_of_pos (l.getD i 0) (show (0 : Int) < 4 by omega)
  generalize l.getD i 0 % 4 = c at hcut hb1 hb2
  have g1 : (i : Int) < l.length := by omega
  have g2 : (i : Int) < 60 := by omega
  have hw : IntKind.i64.wrap ((i : Int) + 1) = ((i + 1 : Nat) : Int) := by rw [w64 (by omega)]; omega
  have w12 : IntKind.i64.wrap 12 = 12 := by decide
  have hcs := hi.cs
  by_cases hc3 : c = 3
  · subst hc3
    cases en with
    | true =>
      refine ⟨H, M, g, w, out, hs, true, orec, wrec, .bool true, cv 3, .bool true, .bool false, v117, v19, v122, v159, ?_, hm, hi, hA, hT, hen, hv⟩
      simp -implicitDefEqProofs [-List.getD_eq_getElem?_getD, -Int.natCast_add, F11_b1_v, F11_b1v, hvl, lss_int, g1, g2, pick_bool, hix, ld1_pv _ _ _ hb, hc, hcut, eql_int, not_bool, F11_j2_v, F11_j2v, add_int, hw, fin]
    | false =>
      obtain ⟨H1, e1, m1, f1⟩ := Write_runs (G := knownG ks) hm 3 1 99998
      have hM : M.wrote 3 1 = { M.acc with cs := [1, 0, 1, 0, 0, w, 0, 3, 6, old, x, out] } := by
        unfold MV.wrote; rw [if_pos (by rw [hcs]; simp)]; simp [MV.set, MV.acc, hcs]
      rw [hM] at m1
      refine ⟨H1, _, 1, w, out, hs, false, orec, wrec, .bool true, cv 3, .bool true, .bool true, v117, v19, v122, v159, ?_, m1, ⟨rfl, hi.odd, hi.max, hi.out_is, fun hf => ⟨(hi.fl hf).1, by simp⟩, hi.word⟩, hA.fr f1, hT, (fun h => by cases h), hv.fr f1 (nm (by omega) _)⟩
      simp -implicitDefEqProofs [-List.getD_eq_getElem?_getD, -Int.natCast_add, F11_b1_v, F11_b1v, hvl, lss_int, g1, g2, pick_bool, hix, ld1_pv _ _ _ hb, hc, hcut, eql_int, not_bool, e1, F11_j2_v, F11_j2v, add_int, hw, fin]
  · obtain ⟨k, rfl⟩ : ∃ k : Nat, c = k := ⟨c.toNat, by omega⟩
    have hk : k < 3 := by omega
    obtain ⟨tA, bA⟩ := hA.arr_
    have hcell : ([pv (fs 0), pv (fs 1), pv (fs 2)] : List Value)[k]? = some (pv (fs k)) := by
      rcases (show k = 0 ∨ k = 1 ∨ k = 2 by omega) with rfl | rfl | rfl <;> rfl
    have hld : ld1 (.pointer (some ⟨arr, k, none⟩)) H = some (pv (fs k)) := by rw [ld1_pv _ _ _ bA.1]; exact hcell
    obtain ⟨H1, e1, k1, m1, f1⟩ := HStep_runs (G := knownG ks) (hA.each k hk) hm (hA.ne k hk).1 (hT k hk).nx 99996
    obtain ⟨w', out', hi', ht', mo, mw⟩ := hstep_inv hi (hT k hk) h69
    generalize (hstep (hs k) M).1 = h' at e1 k1 ht'
    generalize (hstep (hs k) M).2 = M' at m1 hi'
    have hA' := hA.step hk f1 k1
    have hT' : ∀ j, j < 3 → HT flag old x w' out' ((fun j => if j = k then h' else hs j) j) := by
      intro j hj
      by_cases hjk : j = k
      · subst hjk; simpa using ht'
      · simp only [hjk, if_false]; exact (hT j hj).mono mo mw
    have hv' := hv.fr f1 (by simp)
    have a12 := At_runs (G := knownG ks) m1 12 99999
    have a6 := At_runs (G := knownG ks) m1 6 99999
    have y12 : M'.at 12 = out' := by simp [MV.at, hi'.cs]
    have y6 : M'.at 6 = w' := by simp [MV.at, hi'.cs]
    rw [y12] at a12; rw [y6] at a6
    have iaa := fun H => iaa_pv 3 arr k hk H
    have hk3 : ¬ ((k : Int) = 3) := by omega
    cases en with
    | true =>
      obtain ⟨ho, hwr, hw69, ho0⟩ := hen rfl
      have q1 : w' ≠ 69 := by rw [mw hw69]; exact hw69
      have q2 : out' ≠ 0 := by rw [mo ho0]; exact ho0
      obtain rfl : out' = orec := by rw [ho, mo ho0]
      obtain rfl : w' = wrec := by rw [hwr, mw hw69]
      refine ⟨H1, M', g, w', out', _, true, out', w', .bool true, cv k, .bool false, v95, .bool false, .bool (decide (h'.next = 7)), .bool false, v159, ?_, m1, hi', hA', hT', (fun _ => ⟨rfl, rfl, q1, q2⟩), hv'⟩
      cases hd : decide (h'.next = 7) with
      | true =>
        rw [hd] at e1
        simp -implicitDefEqProofs [-List.getD_eq_getElem?_getD, -Int.natCast_add, F11_b1_v, F11_b1v, hvl, lss_int, g1, g2, pick_bool, hix, ld1_pv _ _ _ hb, hc, hcut, eql_int, hk3, iaa, hld, e1, not_bool, neq_int, a12, a6, F11_j2_v, F11_j2v, add_int, w12, hw, fin]
      | false =>
        rw [hd] at e1
        simp -implicitDefEqProofs [-List.getD_eq_getElem?_getD, -Int.natCast_add, F11_b1_v, F11_b1v, hvl, lss_int, g1, g2, pick_bool, hix, ld1_pv _ _ _ hb, hc, hcut, eql_int, hk3, iaa, hld, e1, not_bool, neq_int, a12, a6, F11_j2_v, F11_j2v, add_int, w12, hw, fin]
    | false =>
      by_cases hd : h'.next = 7
      · have hg := ht'.gone hd
        have hw0 := hi'.word
        have ho' : out' ≠ 0 ∧ w' = valO old x out' := by
          rcases hw0 with h | h
          · exact absurd h hg
          · exact h
        rw [decide_eq_true hd] at e1
        refine ⟨H1, M', g, w', out', _, true, out', w', .bool true, cv k, .bool false, v95, .bool false, .bool true, .bool true, .bool false, ?_, m1, hi', hA', hT', (fun _ => ⟨rfl, rfl, hg, ho'.1⟩), hv'⟩
        obtain ⟨ho1, rfl⟩ := ho'
        rcases hi'.out_is with h | h | h
        · exact absurd h ho1
        · subst h
          cases flag with
          | true => exact absurd rfl (hi'.fl rfl).1
          | false =>
            simp -implicitDefEqProofs [-List.getD_eq_getElem?_getD, -Int.natCast_add, F11_b1_v, F11_b1v, hvl, lss_int, g1, g2, pick_bool, hix, ld1_pv _ _ _ hb, hc, hcut, eql_int, hk3, iaa, hld, e1, not_bool, neq_int, a12, a6, F11_j2_v, F11_j2v, add_int, w12, hw, fin, valO]
        · subst h
          cases flag <;>
            simp -implicitDefEqProofs [-List.getD_eq_getElem?_getD, -Int.natCast_add, F11_b1_v, F11_b1v, hvl, lss_int, g1, g2, pick_bool, hix, ld1_pv _ _ _ hb, hc, hcut, eql_int, hk3, iaa, hld, e1, not_bool, neq_int, a12, a6, F11_j2_v, F11_j2v, add_int, w12, hw, fin, valO]
      · rw [decide_eq_false hd] at e1
        refine ⟨H1, M', g, w', out', _, false, orec, wrec, .bool true, cv k, .bool false, v95, .bool false, .bool false, .bool false, v159, ?_, m1, hi', hA', hT', (fun h => by cases h), hv'⟩
        simp -implicitDefEqProofs [-List.getD_eq_getElem?_getD, -Int.natCast_add, F11_b1_v, F11_b1v, hvl, lss_int, g1, g2, pick_bool, hix, ld1_pv _ _ _ hb, hc, hcut, eql_int, hk3, iaa, hld, e1, not_bool, neq_int, a12, a6, F11_j2_v, F11_j2v, add_int, w12, hw, fin]
theorem once_go {H : Heap} {o : Own} {p : Nat} {flag : Bool} {old x g : Int} {M : MV} {l : List Int} {vS : Value} (hm : MemR H o p M) (hcs : M.cs = [1, 0, g, 0, 0, old, 0]) (hod : M.odd = 0) (hmx : M.max = 40) (hfl : flag = true → g ≠ 0) (h69 : old ≠ 69 ∧ x ≠ 69)
    (hv : IntsR H o (-1) vS l) (hl : ∀ z ∈ l, W64 z) :
    ∃ H', F11_j0 (run (knownG ks) 100000) 100000 [cv old, cv x, .bool flag, vS, .bool false, pv p, cv 0, .bool false, .bool flag, undef, undef, undef, undef, undef, undef, undef, undef, undef, undef, undef, undef, undef, undef, undef, undef] H = some (.bool true, H') := by
  have hk := fun H => known_runs 54 (by decide) 99999 H
  have hpl := hm.lt
  obtain ⟨s1, H1, o1, e1, c1, f1⟩ := Dcss_runs (G := knownG ks) (H := H) (o := o) (-7) 3 6 old x 99999
  obtain ⟨H2, o2, e2, m2, f2⟩ := Make_runs (G := knownG ks) (hm.fr f1 (by simp)) c1.ints (by omega) (by omega) (by rw [hcs, hmx]; simp) (by simp) 99999
  have hroom : M.room ([3, 6, old, x, 0] : List Int).length = true := by simp [MV.room, hcs, hmx]
  have hM2 : M.made [3, 6, old, x, 0] = { M with cnt := IntKind.i64.wrap (M.cnt + 1), cs := [1, 0, g, 0, 0, old, 0, 3, 6, old, x, 0] } := by unfold MV.made; rw [hroom]; simp [hcs]
  rw [hM2] at m2
  generalize hMd : ({ M with cnt := IntKind.i64.wrap (M.cnt + 1), cs := [1, 0, g, 0, 0, old, 0, 3, 6, old, x, 0] } : MV) = M2 at m2
  have hcs2 : M2.cs = [1, 0, g, 0, 0, old, 0, 3, 6, old, x, 0] := by rw [← hMd]
  have hod2 : M2.odd = 0 := by rw [← hMd]; exact hod
  have hmx2 : M2.max = 40 := by rw [← hMd]; exact hmx
  rw [hroom] at e2
  have hl7 : (M.cs.length : Int) + 1 = 8 := by rw [hcs]; rfl
  simp only [if_true, hl7] at e2
  have eo := Of_runs (G := knownG ks) 99998 5 8 H2
  have h58 : ofI 5 8 = 69 := by decide
  rw [h58] at eo
  obtain ⟨H3, e3, m3, f3⟩ := Cas_runs (G := knownG ks) m2 6 old 69 99998
  have hfit : M2.fit 6 old = true := by simp [MV.fit, MV.at, hcs2]
  have hM3 : M2.cas 6 old 69 = { M2.acc with cs := [1, 0, g, 0, 0, 69, 0, 3, 6, old, x, 0] } := by unfold MV.cas; rw [hfit]; simp [MV.set, MV.acc, hcs2]
  rw [hM3] at m3; rw [hfit] at e3
  generalize hMe : ({ M2.acc with cs := [1, 0, g, 0, 0, 69, 0, 3, 6, old, x, 0] } : MV) = M3 at m3
  have hcs3 : M3.cs = [1, 0, g, 0, 0, 69, 0, 3, 6, old, x, 0] := by rw [← hMe]
  have hi3 : HI flag old x M3 g 69 0 := ⟨hcs3, by rw [← hMe]; exact hod2, by rw [← hMe]; exact hmx2, .inl rfl, fun hf => ⟨by decide, hfl hf⟩, .inl rfl⟩
  obtain ⟨H4, e4, h4, f4⟩ := HNew_runs (G := knownG ks) (H := H3) o2 8 99999
  obtain ⟨H5, e5, h5, f5⟩ := HNew_runs (G := knownG ks) (H := H4) (o2.up H3.length H3.length) 8 99999
  obtain ⟨H6, e6, h6, f6⟩ := HNew_runs (G := knownG ks) (H := H5) ((o2.up H3.length H3.length).up H4.length H4.length) 8 99999
  have hl3 : p < H3.length := m3.lt
  have hl4 : H3.length < H4.length := h4.lt
  have hl5 : H4.length < H5.length := h5.lt
  have hl6 : H5.length < H6.length := h6.lt
  generalize ho6 : ((o2.up H3.length H3.length).up H4.length H4.length).up H5.length H5.length = o6 at h6 f6
  generalize ho5 : (o2.up H3.length H3.length).up H4.length H4.length = o5 at h5 f5 f6
  generalize ho4 : o2.up H3.length H3.length = o4 at h4 f4 f5
  have a4 := (h4.fr f5 (by simp)).fr f6 (by simp)
  have a5 := h5.fr f6 (by simp)
  have m6 := ((m3.fr f4 (by simp)).fr f5 (by simp)).fr f6 (by simp)
  have v6 := (((((hv.fr f1 (by simp)).fr f2 (nm (by omega) _)).fr f3 (nm (by omega) _)).fr f4 (by simp)).fr f5 (by simp)).fr f6 (by simp)
  have hb : abuild Try.prog 68 [(0, pv H3.length), (1, pv H4.length), (2, pv H5.length)] = some (.agg #[pv H3.length, pv H4.length, pv H5.length]) := by kernel_rfl
  have f7 : Fr H6 o6 (H6.new ⟨[.pointer none, .pointer none, .pointer none], 68, 1, false⟩) (o6.up H6.length H6.length) [] := (Fr.refl _ _ _).new _ _
  have b7 : B1 (H6.new ⟨[.pointer none, .pointer none, .pointer none], 68, 1, false⟩) (o6.up H6.length H6.length) H6.length ⟨[.pointer none, .pointer none, .pointer none], 68, 1, false⟩ := B1.new _ _ _
  have hnb : newBlk H6 68 1 [.pointer none, .pointer none, .pointer none] = (pv H6.length, H6.new ⟨[.pointer none, .pointer none, .pointer none], 68, 1, false⟩) := rfl
  have hst : stS 3 (pv H6.length) (.agg #[pv H3.length, pv H4.length, pv H5.length]) (H6.new ⟨[.pointer none, .pointer none, .pointer none], 68, 1, false⟩) = some (undef, (H6.new ⟨[.pointer none, .pointer none, .pointer none], 68, 1, false⟩).put H6.length ⟨[pv H3.length, pv H4.length, pv H5.length], 68, 1, false⟩) := by
    simp [stS, Value.cells, known, stCells, b7.1, oneCell, splice]
  generalize H6.new ⟨[.pointer none, .pointer none, .pointer none], 68, 1, false⟩ = H7 at f7 b7 hnb hst
  generalize o6.up H6.length H6.length = o7 at f7 b7
  have f8 : Fr H6 o6 (H7.put H6.length ⟨[pv H3.length, pv H4.length, pv H5.length], 68, 1, false⟩) o7 [] := f7.put fun h => by omega
  have b8 := b7.put (c := ⟨[pv H3.length, pv H4.length, pv H5.length], 68, 1, false⟩)
  generalize H7.put H6.length ⟨[pv H3.length, pv H4.length, pv H5.length], 68, 1, false⟩ = H8 at f8 b8 hst
  let fs : Nat → Nat := fun k => [H3.length, H4.length, H5.length].getD k 0
  have hA : HAll H8 o7 p H6.length fs (fun _ => ⟨0, 8, 0, 0, 0, 0⟩) := by
    refine ⟨⟨_, b8⟩, fun k hk => ?_, fun k hk => ?_, fun j k hj hk hjk => ?_, by omega⟩
    · rcases (show k = 0 ∨ k = 1 ∨ k = 2 by omega) with rfl | rfl | rfl
      · exact a4.fr f8 (by simp)
      · exact a5.fr f8 (by simp)
      · exact h6.fr f8 (by simp)
    · rcases (show k = 0 ∨ k = 1 ∨ k = 2 by omega) with rfl | rfl | rfl <;> simp [fs] <;> omega
    · rcases (show j = 0 ∨ j = 1 ∨ j = 2 by omega) with rfl | rfl | rfl <;> rcases (show k = 0 ∨ k = 1 ∨ k = 2 by omega) with rfl | rfl | rfl <;> simp [fs] <;> omega
  have m8 := m6.fr f8 (by simp)
  have v8 := v6.fr f8 (by simp)
  obtain ⟨r, hit, hne, hr1, M9, g9, w9, out9, hr2, m9, hi9⟩ := iter_go (step := F11_b1 (run (knownG ks) 100000) 100000)
    (Q := fun k vs H' => ∃ (i : Nat) (M' : MV) (g' w' out' : Int) (hs' : Nat → HV) (en : Bool) (orec wrec : Int) (v84 v18 v93 v95 v117 v19 v122 v159 : Value), i + k = 60 ∧
      vs = [cv old, cv x, .bool flag, vS, .bool false, pv p, cv 0, .bool false, .bool flag, .bool true, cv 8, .bool false, cv i, v84, v18, v93, .bool en, v95, pv H6.length, cv orec, cv wrec, v117, v19, v122, v159] ∧
      MemR H' o7 p M' ∧ HI flag old x M' g' w' out' ∧ HAll H' o7 p H6.length fs hs' ∧ (∀ k, k < 3 → HT flag old x w' out' (hs' k)) ∧ (en = true → orec = out' ∧ wrec = w' ∧ w' ≠ 69 ∧ out' ≠ 0) ∧ IntsR H' o7 (-1) vS l)
    (R := fun r => r.1 = .exit 0 ∧ ∃ (M' : MV) (g' w' out' : Int), (∃ v0 v1 v2 v3 v8 v10 v44 v49 v12 v11 v69 v17 v84 v18 v93 v16 v95 v13 v14 v15 v117 v19 v122 v159 : Value, r.2.1 = [v0, v1, v2, v3, v8, pv p, v10, v44, v49, v12, v11, v69, v17, v84, v18, v93, v16, v95, v13, v14, v15, v117, v19, v122, v159]) ∧ MemR r.2.2 o7 p M' ∧ HI flag old x M' g' w' out')
    (by
      rintro k vs H' ⟨i, M', g', w', out', hs', en, orec, wrec, v84, v18, v93, v95, v117, v19, v122, v159, hi, rfl, hm', hi', hA', hT', hen, hv'⟩
      have hvl := hv'.1.len
      by_cases hil : i < l.length
      · by_cases h60 : i < 60
        · obtain ⟨H9, M9, g9, w9, out9, hs9, en9, orec9, wrec9, e84, e18, e93, e95, e117, e19, e122, e159, hst9, m9, hi9, hA9, hT9, hen9, hv9⟩ := once_round (v84 := v84) (v18 := v18) (v93 := v93) (v95 := v95) (v117 := v117) (v19 := v19) (v122 := v122) (v159 := v159) hm' hi' hA' hT' h69 hen hv' hl hil h60
          exact .inl ⟨_, _, k - 1, by omega, hst9, i + 1, M9, g9, w9, out9, hs9, en9, orec9, wrec9, _, _, _, _, _, _, _, _, by omega, rfl, m9, hi9, hA9, hT9, hen9, hv9⟩
        · have q1 : (i : Int) < l.length := by omega
          have q2 : ¬ (i : Int) < 60 := by omega
          refine .inr ⟨(.exit 0, [cv old, cv x, .bool flag, vS, .bool false, pv p, cv 0, .bool false, .bool flag, .bool true, cv 8, .bool false, cv i, .bool false, v18, v93, .bool en, v95, pv H6.length, cv orec, cv wrec, v117, v19, v122, v159], H'), ?_, by simp, rfl, M', g', w', out', ⟨_, _, _, _, _, _, _, _, _, _, _, _, _, _, _, _, _, _, _, _, _, _, _, _, rfl⟩, hm', hi'⟩
          simp -implicitDefEqProofs [F11_b1_v, F11_b1v, hvl, lss_int, q1, q2, pick_bool, fin]
      · have q1 : ¬ (i : Int) < l.length := by omega
        refine .inr ⟨(.exit 0, [cv old, cv x, .bool flag, vS, .bool false, pv p, cv 0, .bool false, .bool flag, .bool true, cv 8, .bool false, cv i, .bool false, v18, v93, .bool en, v95, pv H6.length, cv orec, cv wrec, v117, v19, v122, v159], H'), ?_, by simp, rfl, M', g', w', out', ⟨_, _, _, _, _, _, _, _, _, _, _, _, _, _, _, _, _, _, _, _, _, _, _, _, rfl⟩, hm', hi'⟩
        simp -implicitDefEqProofs [F11_b1_v, F11_b1v, hvl, lss_int, q1, pick_bool, fin])
    60 [cv old, cv x, .bool flag, vS, .bool false, pv p, cv 0, .bool false, .bool flag, .bool true, cv 8, .bool false, cv (0 : Nat), undef, undef, undef, .bool false, undef, pv H6.length, cv 0, cv 0, undef, undef, undef, undef] H8
    ⟨0, M3, g, 69, 0, _, false, 0, 0, _, _, _, _, _, _, _, _, rfl, rfl, m8, hi3, hA, (fun k hk => ⟨rfl, by simp, by simp, by simp, by simp, by simp, by simp, by simp, by simp⟩), (fun h => by cases h), v8⟩ 100000 (by omega)
  obtain ⟨x1, x2, H9⟩ := r
  obtain ⟨v0, v1, v2, v3, v8', v10, v44, v49, v12, v11, v69, v17, v84, v18, v93, v16, v95, v13, v14, v15, v117, v19, v122, v159, hr2⟩ := hr2
  simp only at hr1 hr2 m9
  subst hr1 hr2
  replace hit : iter 100000 (F11_b1 (run (knownG ks) 100000) 100000) [cv old, cv x, .bool flag, vS, .bool false, pv p, cv 0, .bool false, .bool flag, .bool true, cv 8, .bool false, cv 0, undef, undef, undef, .bool false, undef, pv H6.length, cv 0, cv 0, undef, undef, undef, undef] H8 = _ := hit
  have od := Odd_runs (G := knownG ks) m9 99999
  rw [hi9.odd] at od
  refine ⟨H9, ?_⟩
  simp -implicitDefEqProofs [F11_j0_v, F11_j0v, e1, e2, ext_i, not_bool, eo, e3, pick_bool, e4, e5, e6, hb, hnb, hst, hit, F11_j3_v, F11_j3v, hk, od, eql_int]
theorem HelpOnce_run {H : Heap} {vS : Value} {l : List Int} (hv : IntsR H o0 (-1) vS l) (hl : ∀ z ∈ l, W64 z) (old x : Int) (flag : Bool) (ho : W64 old) (hx : W64 x) : ∃ n H', run (knownG ks) n 11 [cv old, cv x, .bool flag, vS] H = some (.bool true, H') := by
  refine ⟨100001, ?_⟩
  rw [F11_eq]
  have hk := fun H => known_runs 54 (by decide) 99999 H
  obtain ⟨H1, e1, m1, f1⟩ := New_runs (G := knownG ks) (H := H) o0 40 (by omega) 99999
  obtain ⟨H2, o2, e2, m2, f2⟩ := Begin_runs (G := knownG ks) m1 rfl (by simp [MV.fresh]) 99987
  have k1 := fun H => Kind_runs (G := knownG ks) 99997 old ho.2 H
  have k2 := fun H => Kind_runs (G := knownG ks) 99997 x hx.2 H
  by_cases hk1 : kindI old = 5
  · refine ⟨H2, ?_⟩
    simp -implicitDefEqProofs [F11, e1, ext_i, ptr_eql_nil _ ptM, neq_int, pick_bool, e2, not_bool, k1, eql_int, hk1, hk]
  by_cases hk2 : kindI x = 5
  · refine ⟨H2, ?_⟩
    simp -implicitDefEqProofs [F11, e1, ext_i, ptr_eql_nil _ ptM, neq_int, pick_bool, e2, not_bool, k1, k2, eql_int, hk1, hk2, hk]
  have h69 : old ≠ 69 ∧ x ≠ 69 := ⟨fun e => hk1 (by rw [e]; decide), fun e => hk2 (by rw [e]; decide)⟩
  have hcs0 : (MV.fresh 40).begun.cs = [1, 0, 0, 0, 0, 57, 0] := rfl
  have hmx0 : (MV.fresh 40).begun.max = 40 := rfl
  have hod0 : (MV.fresh 40).begun.odd = 0 := rfl
  generalize (MV.fresh 40).begun = M at m2 hcs0 hmx0 hod0
  obtain ⟨H3, e3, m3, f3⟩ := Write_runs (G := knownG ks) m2 6 old 99998
  have hM : M.wrote 6 old = { M.acc with cs := [1, 0, 0, 0, 0, old, 0] } := by
    unfold MV.wrote; rw [if_pos (by rw [hcs0]; simp)]; simp [MV.set, MV.acc, hcs0]
  rw [hM] at m3
  have v3 := ((hv.fr f1 (by simp)).fr f2 (nm (by omega) _)).fr f3 (nm (by omega) _)
  cases flag with
  | false =>
    obtain ⟨H', hj⟩ := once_go (flag := false) (x := x) m3 rfl hod0 hmx0 (fun h => by cases h) h69 v3 hl
    refine ⟨H', ?_⟩
    simp -implicitDefEqProofs [F11, e1, ext_i, ptr_eql_nil _ ptM, neq_int, pick_bool, e2, not_bool, k1, k2, eql_int, hk1, hk2, e3, hj]
  | true =>
    obtain ⟨H4, e4, m4, f4⟩ := Write_runs (G := knownG ks) m3 3 1 99998
    have hM4 : ({ M.acc with cs := [1, 0, 0, 0, 0, old, 0] } : MV).wrote 3 1 = { M.acc.acc with cs := [1, 0, 1, 0, 0, old, 0] } := by
      unfold MV.wrote; rw [if_pos (by simp)]; simp [MV.set, MV.acc]
    rw [hM4] at m4
    obtain ⟨H', hj⟩ := once_go (flag := true) (x := x) m4 rfl hod0 hmx0 (fun _ => by simp) h69 (v3.fr f4 (nm (by omega) _)) hl
    refine ⟨H', ?_⟩
    simp -implicitDefEqProofs [F11, e1, ext_i, ptr_eql_nil _ ptM, neq_int, pick_bool, e2, not_bool, k1, k2, eql_int, hk1, hk2, e3, e4, hj]
end Go.Proofs.Ytpenlcigickkbaa.Fun
namespace Go.Proofs.Ytpenlcigickkbaa.Pure
open Go.RowKit Go.Proofs.YtpenlcigickkbaaA.Am Fun
theorem HelpOnce_law : Law Try.prog 11 [2, 2, 4, 22] := law_of fun H args hr hi => by
  obtain ⟨v0, _, rfl, h0, v1, _, rfl, h1, v2, _, rfl, h2, v3, _, rfl, h3, rfl⟩ := hi
  obtain ⟨a, rfl, ha⟩ := h0.int (show Try.prog.underlying 2 = _ from by kernel_rfl)
  obtain ⟨b, rfl, hb⟩ := h1.int (show Try.prog.underlying 2 = _ from by kernel_rfl)
  obtain ⟨f, rfl⟩ := h2.bool (show Try.prog.underlying 4 = _ from by kernel_rfl)
  obtain ⟨w, hv, hw, _⟩ := h3.ints (show Try.prog.underlying 22 = _ from by kernel_rfl) (show Try.prog.underlying 3 = _ from by kernel_rfl) (by kernel_rfl)
  exact HelpOnce_run hv hw a b f ha hb
end Go.Proofs.Ytpenlcigickkbaa.Pure
