/- The plain law of several changes of one slot, and of helpers of them. -/
import Derived.Test.YtpenlcigickkbaaFrames
namespace Go.Proofs.Ytpenlcigickkbaa.Fun
open Go.RowKit Go.Proofs.YtpenlcigickkbaaA.Am
set_option linter.unusedVariables false
set_option linter.unusedSimpArgs false
def sum5 (f : Nat → Nat) : Nat := f 0 + f 1 + f 2 + f 3 + f 4
def upd {α : Type} (f : Nat → α) (j : Nat) (x : α) : Nat → α := fun i => if i = j then x else f i
theorem upd_self {α : Type} (f : Nat → α) (j : Nat) (x : α) : upd f j x j = x := by simp [upd]
theorem upd_ne {α : Type} (f : Nat → α) {i j : Nat} (x : α) (h : i ≠ j) : upd f j x i = f i := by simp [upd, h]
theorem sum5_upd (f : Nat → Nat) (j : Nat) (hj : j < 5) (g : Nat → Nat) (h : ∀ i, i ≠ j → g i = f i) : sum5 g + f j = sum5 f + g j := by
  rcases (show j = 0 ∨ j = 1 ∨ j = 2 ∨ j = 3 ∨ j = 4 by omega) with rfl | rfl | rfl | rfl | rfl
  · unfold sum5; rw [h 1 (by decide), h 2 (by decide), h 3 (by decide), h 4 (by decide)]; omega
  · unfold sum5; rw [h 0 (by decide), h 2 (by decide), h 3 (by decide), h 4 (by decide)]; omega
  · unfold sum5; rw [h 0 (by decide), h 1 (by decide), h 3 (by decide), h 4 (by decide)]; omega
  · unfold sum5; rw [h 0 (by decide), h 1 (by decide), h 2 (by decide), h 4 (by decide)]; omega
  · unfold sum5; rw [h 0 (by decide), h 1 (by decide), h 2 (by decide), h 3 (by decide)]; omega
theorem sum5_congr {f g : Nat → Nat} (h : ∀ i, i < 5 → f i = g i) : sum5 f = sum5 g := by
  unfold sum5; rw [h 0 (by omega), h 1 (by omega), h 2 (by omega), h 3 (by omega), h 4 (by omega)]
def oldM (i : Nat) : Int := [57, 57, 90, 98, 90].getD i 0
def newM (i : Nat) : Int := [90, 98, 106, 114, 122].getD i 0
def isV (w : Int) : Prop := w = 57 ∨ w = 90 ∨ w = 98 ∨ w = 106 ∨ w = 114 ∨ w = 122
theorem old_isV {i : Nat} (h : i < 5) : isV (oldM i) := by
  rcases (show i = 0 ∨ i = 1 ∨ i = 2 ∨ i = 3 ∨ i = 4 by omega) with rfl | rfl | rfl | rfl | rfl <;> simp [oldM, isV]
theorem new_isV {i : Nat} (h : i < 5) : isV (newM i) := by
  rcases (show i = 0 ∨ i = 1 ∨ i = 2 ∨ i = 3 ∨ i = 4 by omega) with rfl | rfl | rfl | rfl | rfl <;> simp [newM, isV]
theorem old_ne_new {i : Nat} (h : i < 5) : oldM i ≠ newM i := by
  rcases (show i = 0 ∨ i = 1 ∨ i = 2 ∨ i = 3 ∨ i = 4 by omega) with rfl | rfl | rfl | rfl | rfl <;> simp [oldM, newM]
theorem kind_isV {w : Int} (h : isV w) : kindI w ≠ 5 := by
  rcases h with rfl | rfl | rfl | rfl | rfl | rfl <;> decide
/-- The word of the record that was made as the k-th one. -/
def wordM (k : Nat) : Int := 69 + 40 * (k : Int)
theorem word_of (k : Nat) (h : k < 5) : ofI 5 (8 + 5 * (k : Int)) = wordM k ∧ kindI (wordM k) = 5 ∧ atI (wordM k) = 8 + 5 * (k : Int) := by
  rcases (show k = 0 ∨ k = 1 ∨ k = 2 ∨ k = 3 ∨ k = 4 by omega) with rfl | rfl | rfl | rfl | rfl <;> decide
theorem word_nV (k : Nat) (h : k < 5) : ¬ isV (wordM k) := by
  rcases (show k = 0 ∨ k = 1 ∨ k = 2 ∨ k = 3 ∨ k = 4 by omega) with rfl | rfl | rfl | rfl | rfl <;> simp [isV, wordM]
theorem word_inj {a b : Nat} (h : wordM a = wordM b) : a = b := by unfold wordM at h; omega

theorem set_len (M : MV) (a x : Int) : (M.set a x).cs.length = M.cs.length := by simp [MV.set]
theorem at_set (M : MV) (a b x : Int) (ha : 1 ≤ a ∧ a ≤ M.cs.length) : (M.set a x).at b = if b = a then x else M.at b := by
  unfold MV.at MV.set
  by_cases hb : b < 1
  · have : b ≠ a := by omega
    simp [hb, this]
  · simp only [hb, if_false]
    by_cases hab : b = a
    · subst hab
      rw [List.getD_eq_getElem?_getD, List.getElem?_set_self (by omega)]; simp
    · rw [List.getD_eq_getElem?_getD, List.getElem?_set_ne (by omega)]; simp [hab, List.getD_eq_getElem?_getD]
theorem at_acc (M : MV) (a : Int) : M.acc.at a = M.at a := rfl
theorem seenM {M : MV} {a : Int} (h : 1 ≤ a ∧ a ≤ M.cs.length) : M.seen a = M.acc := by simp only [MV.seen, h, and_self, if_true]
theorem casM_t {M : MV} {a old x : Int} (h : 1 ≤ a ∧ a ≤ M.cs.length) (e : M.at a = old) : M.fit a old = true ∧ M.cas a old x = M.acc.set a x := by
  have : M.fit a old = true := by simp only [MV.fit, e, decide_eq_true_eq, and_true]; exact h
  exact ⟨this, by unfold MV.cas; rw [this]; rfl⟩
theorem casM_f {M : MV} {a old x : Int} (h : 1 ≤ a ∧ a ≤ M.cs.length) (e : M.at a ≠ old) : M.fit a old = false ∧ M.cas a old x = M.acc := by
  have : M.fit a old = false := by simp [MV.fit, e]
  exact ⟨this, by unfold MV.cas; rw [this]; simp [seenM h]⟩
theorem at_app (M : MV) (l : List Int) (c : Int) (a : Int) : MV.at { M with cnt := c, cs := M.cs ++ l } a = if a ≤ M.cs.length then M.at a else l.getD (a.toNat - 1 - M.cs.length) 0 := by
  unfold MV.at
  by_cases h : a < 1
  · have : a ≤ M.cs.length := by omega
    simp [h, this]
  · simp only [h, if_false]
    by_cases h2 : a ≤ M.cs.length
    · simp only [h2, if_true]; rw [List.getD_eq_getElem?_getD, List.getElem?_append_left (by omega), List.getD_eq_getElem?_getD]
    · simp only [h2, if_false]; rw [List.getD_eq_getElem?_getD, List.getElem?_append_right (by omega), List.getD_eq_getElem?_getD]

/-- How many records are made. -/
def madeN (D : Nat → DV) : Nat := sum5 fun i => if (D i).next = 0 then 0 else 1
/-- Was its word put into the slot? -/
def placed (d : DV) : Prop := 2 ≤ d.next ∧ ¬ (d.next = 6 ∧ d.outcome = 0)
/-- What holds of one change: its record, what is in its cells. -/
structure DOne (M : MV) (w : Int) (m : Nat) (i : Nat) (d : DV) (k : Nat) (out : Int) : Prop where
  fr : d.guard = 3 ∧ d.place = 6 ∧ d.old = oldM i ∧ d.new = newM i ∧ 0 ≤ d.next ∧ d.next ≤ 6
  n0 : d.next = 0 → d.record = 0 ∧ out = 0 ∧ d.outcome = 0
  rec_ : d.next ≠ 0 → d.record = 8 + 5 * (k : Int) ∧ k < m ∧ M.at (8 + 5 * (k : Int)) = 3 ∧ M.at (9 + 5 * (k : Int)) = 6 ∧ M.at (10 + 5 * (k : Int)) = oldM i ∧ M.at (11 + 5 * (k : Int)) = newM i ∧ M.at (12 + 5 * (k : Int)) = out
  o3 : out = 0 ∨ out = 1 ∨ out = 2
  np : d.next ≠ 0 → ¬ placed d → out = 0 ∧ w ≠ wordM k
  pl : placed d → out = 0 → w = wordM k
  n3 : d.next = 3 → d.settle = 1 ∨ d.settle = 2
  n4 : 4 ≤ d.next → placed d → out ≠ 0
  n5 : d.next = 5 → d.settle = out
  n6 : d.next = 6 → d.outcome = 0 ∨ (d.outcome = out ∧ out ≠ 0 ∧ w ≠ wordM k)
/-- What holds of a helper of a change. -/
structure HOne (w : Int) (i : Nat) (d : DV) (k : Nat) (out : Int) (h : HV) : Prop where
  pl : d.next ≠ 0 ∧ placed d
  at_ : h.at_ = 8 + 5 * (k : Int)
  nx : 0 ≤ h.next ∧ h.next ≤ 7
  g : 1 ≤ h.next → h.guard = 3
  hope : h.next = 2 → h.out = 1 ∨ h.out = 2
  settled : 3 ≤ h.next → out ≠ 0
  told : 4 ≤ h.next → h.out = out
  place : 5 ≤ h.next → h.place = 6
  wd : 6 ≤ h.next → h.word = if out = 1 then newM i else oldM i
structure DI (M : MV) (D : Nat → DV) (h : Nat → Option HV) (K : Nat → Nat) (out : Nat → Int) (w : Int) : Prop where
  len : (M.cs.length : Int) = 7 + 5 * (madeN D : Int)
  mx : M.max = 400
  odd : M.odd = 0
  at6 : M.at 6 = w
  one : ∀ i, i < 5 → DOne M w (madeN D) i (D i) (K i) (out i)
  inj : ∀ i j, i < 5 → j < 5 → i ≠ j → (D i).next ≠ 0 → (D j).next ≠ 0 → K i ≠ K j
  wv : isV w ∨ ∃ i, i < 5 ∧ 2 ≤ (D i).next ∧ (D i).next ≤ 5 ∧ w = wordM (K i)
  hel : ∀ i, i < 5 → ∀ hv, h i = some hv → HOne w i (D i) (K i) (out i) hv
theorem made_le (D : Nat → DV) : madeN D ≤ 5 := by
  show (if (D 0).next = 0 then 0 else 1) + (if (D 1).next = 0 then 0 else 1) + (if (D 2).next = 0 then 0 else 1) + (if (D 3).next = 0 then 0 else 1) + (if (D 4).next = 0 then 0 else 1) ≤ 5
  have : ∀ i, (if (D i).next = 0 then 0 else 1) ≤ 1 := fun i => by split <;> omega
  have h0 := this 0; have h1 := this 1; have h2 := this 2; have h3 := this 3; have h4 := this 4
  omega
/-- What the slot stands for. -/
def standsFor (D : Nat → DV) (K : Nat → Nat) (out : Nat → Int) (w L : Int) : Prop :=
  (isV w ∧ L = w) ∨ ∃ i, i < 5 ∧ (D i).next ≠ 0 ∧ w = wordM (K i) ∧ L = if out i = 1 then newM i else oldM i
theorem DI.stands {M : MV} {D : Nat → DV} {h : Nat → Option HV} {K : Nat → Nat} {out : Nat → Int} {w : Int} (k : DI M D h K out w) : standsFor D K out w (logicI M 6) := by
  unfold logicI
  rw [k.at6]
  rcases k.wv with hv | ⟨i, hi, h2, h5, hw⟩
  · rw [if_pos (kind_isV hv)]; exact .inl ⟨hv, rfl⟩
  · have o := k.one i hi
    have hn : (D i).next ≠ 0 := by omega
    obtain ⟨r1, r2, r3, r4, r5, r6, r7⟩ := o.rec_ hn
    have hm := made_le D
    obtain ⟨q1, q2, q3⟩ := word_of (K i) (by omega)
    rw [hw, q2, q3, if_neg (by simp)]
    have e4 : wr (8 + 5 * (K i : Int) + 4) = 12 + 5 * (K i : Int) := by rw [show wr _ = IntKind.i64.wrap _ from rfl, w64 (by omega)]; omega
    have e3 : wr (8 + 5 * (K i : Int) + 3) = 11 + 5 * (K i : Int) := by rw [show wr _ = IntKind.i64.wrap _ from rfl, w64 (by omega)]; omega
    have e2 : wr (8 + 5 * (K i : Int) + 2) = 10 + 5 * (K i : Int) := by rw [show wr _ = IntKind.i64.wrap _ from rfl, w64 (by omega)]; omega
    rw [e4, e3, e2, r7, r6, r5]
    exact .inr ⟨i, hi, hn, rfl, rfl⟩
def cntM (out : Nat → Int) : Nat := sum5 fun i => if out i = 1 then 1 else 0
section
variable {M : MV} {D : Nat → DV} {h : Nat → Option HV} {K : Nat → Nat} {out : Nat → Int} {w : Int}
theorem DI.unique (k : DI M D h K out w) {L1 L2 : Int} (h1 : standsFor D K out w L1) (h2 : standsFor D K out w L2) : L1 = L2 := by
  have hm := made_le D
  rcases h1 with ⟨v1, e1⟩ | ⟨i, hi, ni, wi, e1⟩ <;> rcases h2 with ⟨v2, e2⟩ | ⟨j, hj, nj, wj, e2⟩
  · rw [e1, e2]
  · have := ((k.one j hj).rec_ nj).2.1
    rw [wj] at v1; exact absurd v1 (word_nV _ (by omega))
  · have := ((k.one i hi).rec_ ni).2.1
    rw [wi] at v2; exact absurd v2 (word_nV _ (by omega))
  · by_cases hij : i = j
    · subst hij; rw [e1, e2]
    · exact absurd (word_inj (wi.symm.trans wj)) (k.inj i j hi hj hij ni nj)
/-- Which turns are right. -/
def Turned (D : Nat → DV) (K : Nat → Nat) (out : Nat → Int) (w : Int) (D' : Nat → DV) (K' : Nat → Nat) (out' : Nat → Int) (w' : Int) (j : Nat) : Prop :=
  (∃ L, standsFor D K out w L ∧ standsFor D' K' out' w' L ∧ cntM out' = cntM out) ∨ (standsFor D K out w (oldM j) ∧ standsFor D' K' out' w' (newM j) ∧ cntM out' = cntM out + 1 ∧ (D' j).next ≠ 0)
theorem DI.acc (k : DI M D h K out w) : DI M.acc D h K out w := ⟨k.len, k.mx, k.odd, k.at6, fun i hi => let o := k.one i hi; ⟨o.fr, o.n0, o.rec_, o.o3, o.np, o.pl, o.n3, o.n4, o.n5, o.n6⟩, k.inj, k.wv, k.hel⟩
theorem madeN_upd {j : Nat} {d' : DV} (hj : j < 5) (hs : (d'.next = 0) ↔ (D j).next = 0) : madeN (upd D j d') = madeN D := by
  refine sum5_congr fun i hi => ?_
  by_cases hij : i = j
  · subst hij; rw [upd_self]; simp only [hs]
  · rw [upd_ne _ _ hij]
/-- A change alone goes on. -/
theorem DI.dloc (k : DI M D h K out w) {j : Nat} (hj : j < 5) {d' : DV} (hn : (D j).next ≠ 0) (hn' : d'.next ≠ 0) (ho : DOne M w (madeN D) j d' (K j) (out j)) (hp : placed (D j) → placed d')
    (hw : 2 ≤ (D j).next → (D j).next ≤ 5 → w = wordM (K j) → 2 ≤ d'.next ∧ d'.next ≤ 5) : DI M (upd D j d') h K out w := by
  have hm : madeN (upd D j d') = madeN D := madeN_upd hj (by simp [hn, hn'])
  refine ⟨by rw [hm]; exact k.len, k.mx, k.odd, k.at6, fun i hi => ?_, fun a b ha hb hab na nb => ?_, ?_, fun i hi hv e => ?_⟩
  · rw [hm]
    by_cases hij : i = j
    · subst hij; rw [upd_self]; exact ho
    · rw [upd_ne _ _ hij]; exact k.one i hi
  · refine k.inj a b ha hb hab ?_ ?_
    · by_cases e : a = j
      · subst e; exact hn
      · rw [upd_ne _ _ e] at na; exact na
    · by_cases e : b = j
      · subst e; exact hn
      · rw [upd_ne _ _ e] at nb; exact nb
  · rcases k.wv with hv | ⟨i, hi, h2, h5, hwi⟩
    · exact .inl hv
    · by_cases hij : i = j
      · subst hij; exact .inr ⟨i, hi, by rw [upd_self]; exact (hw h2 h5 hwi).1, by rw [upd_self]; exact (hw h2 h5 hwi).2, hwi⟩
      · exact .inr ⟨i, hi, by rw [upd_ne _ _ hij]; exact h2, by rw [upd_ne _ _ hij]; exact h5, hwi⟩
  · have o := k.hel i hi hv e
    by_cases hij : i = j
    · subst hij; rw [upd_self]; exact ⟨⟨hn', hp o.pl.2⟩, o.at_, o.nx, o.g, o.hope, o.settled, o.told, o.place, o.wd⟩
    · rw [upd_ne _ _ hij]; exact o
theorem stands_loc {j : Nat} {d' : DV} (hn : (D j).next ≠ 0) (hn' : d'.next ≠ 0) {L : Int} (hs : standsFor D K out w L) : standsFor (upd D j d') K out w L := by
  rcases hs with hs | ⟨i, hi, ni, e1, e2⟩
  · exact .inl hs
  · refine .inr ⟨i, hi, ?_, e1, e2⟩
    by_cases hij : i = j
    · subst hij; rw [upd_self]; exact hn'
    · rw [upd_ne _ _ hij]; exact ni
theorem DI.hloc (k : DI M D h K out w) {j : Nat} {hv : HV} (ho : HOne w j (D j) (K j) (out j) hv) : DI M D (upd h j (some hv)) K out w :=
  ⟨k.len, k.mx, k.odd, k.at6, k.one, k.inj, k.wv, fun i hi hv' e => by
    by_cases hij : i = j
    · subst hij; rw [upd_self] at e; cases e; exact ho
    · rw [upd_ne _ _ hij] at e; exact k.hel i hi hv' e⟩
/-- An outcome is settled. -/
theorem DI.settle (k : DI M D h K out w) {j : Nat} (hj : j < 5) (hn : (D j).next ≠ 0) (hp : placed (D j)) (h0 : out j = 0) {s : Int} (hs : s = 1 ∨ s = 2) :
    DI (M.acc.set (12 + 5 * (K j : Int)) s) D h K (upd out j s) w ∧ Turned D K out w D K (upd out j s) w j := by
  have hm := made_le D
  have oj := k.one j hj
  have rj := oj.rec_ hn
  have hw := oj.pl hp h0
  have hlen := k.len
  have hat : ∀ b, (M.acc.set (12 + 5 * (K j : Int)) s).at b = if b = 12 + 5 * (K j : Int) then s else M.at b := fun b => at_set _ _ _ _ (by show 1 ≤ _ ∧ _ ≤ ((M.cs.length : Nat) : Int); omega)
  refine ⟨⟨by rw [set_len]; exact k.len, k.mx, k.odd, by rw [hat, if_neg (by omega)]; exact k.at6, fun i hi => ?_, k.inj, k.wv, fun i hi hv e => ?_⟩, ?_⟩
  · by_cases hij : i = j
    · subst hij
      refine ⟨oj.fr, fun e => absurd e hn, fun _ => ?_, by rw [upd_self]; omega, fun _ np => absurd hp np, fun _ e => by rw [upd_self] at e; omega, oj.n3, fun _ _ => by rw [upd_self]; omega, fun e => absurd h0 (oj.n4 (by omega) hp), fun e => ?_⟩
      · rw [upd_self, hat, hat, hat, hat, hat, if_neg (by omega), if_neg (by omega), if_neg (by omega), if_neg (by omega), if_pos rfl]
        exact ⟨rj.1, rj.2.1, rj.2.2.1, rj.2.2.2.1, rj.2.2.2.2.1, rj.2.2.2.2.2.1, rfl⟩
      · exact absurd h0 (oj.n4 (by omega) hp)
    · have oi := k.one i hi
      rw [upd_ne _ _ hij]
      refine ⟨oi.fr, oi.n0, fun e => ?_, oi.o3, oi.np, oi.pl, oi.n3, oi.n4, oi.n5, oi.n6⟩
      have ri := oi.rec_ e
      have hne := k.inj i j hi hj hij e hn
      rw [hat, hat, hat, hat, hat, if_neg (by omega), if_neg (by omega), if_neg (by omega), if_neg (by omega), if_neg (by omega)]
      exact ri
  · have o := k.hel i hi hv e
    by_cases hij : i = j
    · subst hij
      have h3 : ¬ 3 ≤ hv.next := fun h3 => o.settled h3 h0
      exact ⟨o.pl, o.at_, o.nx, o.g, o.hope, fun h => absurd h h3, fun h => absurd (show 3 ≤ hv.next by omega) h3, o.place, fun h => absurd (show 3 ≤ hv.next by omega) h3⟩
    · rw [upd_ne _ _ hij]; exact o
  · have hc : cntM (upd out j s) = cntM out + (if s = 1 then 1 else 0) := by
      have := sum5_upd (fun i => if out i = 1 then 1 else 0) j hj (fun i => if upd out j s i = 1 then 1 else 0) (fun i hi => by simp only [upd_ne _ _ hi])
      simp only [upd_self, h0] at this
      unfold cntM; simpa using this
    rcases hs with rfl | rfl
    · right
      refine ⟨.inr ⟨j, hj, hn, hw, by rw [h0]; rfl⟩, .inr ⟨j, hj, hn, hw, by rw [upd_self]; rfl⟩, by rw [hc]; rfl, hn⟩
    · left
      refine ⟨oldM j, .inr ⟨j, hj, hn, hw, by rw [h0]; rfl⟩, .inr ⟨j, hj, hn, hw, by rw [upd_self]; rfl⟩, by rw [hc]; rfl⟩
/-- The word is taken away. -/
theorem DI.swing (k : DI M D h K out w) {j : Nat} (hj : j < 5) (hn : (D j).next ≠ 0) (hp : placed (D j)) (h0 : out j ≠ 0) (hw : w = wordM (K j)) :
    DI (M.acc.set 6 (if out j = 1 then newM j else oldM j)) D h K out (if out j = 1 then newM j else oldM j) ∧ Turned D K out w D K out (if out j = 1 then newM j else oldM j) j := by
  have hm := made_le D
  have oj := k.one j hj
  have rj := oj.rec_ hn
  have hlen := k.len
  have hV : isV (if out j = 1 then newM j else oldM j) := by split; exact new_isV hj; exact old_isV hj
  have hat : ∀ b, (M.acc.set 6 (if out j = 1 then newM j else oldM j)).at b = if b = 6 then (if out j = 1 then newM j else oldM j) else M.at b := fun b => at_set _ _ _ _ (by show (1 : Int) ≤ 6 ∧ (6 : Int) ≤ ((M.cs.length : Nat) : Int); omega)
  have hnw : ∀ i, i < 5 → (D i).next ≠ 0 → (if out j = 1 then newM j else oldM j) ≠ wordM (K i) := by
    intro i hi ni e
    have := ((k.one i hi).rec_ ni).2.1
    rw [e] at hV; exact word_nV _ (by omega) hV
  refine ⟨⟨by rw [set_len]; exact k.len, k.mx, k.odd, by rw [hat, if_pos rfl], fun i hi => ?_, k.inj, .inl hV, fun i hi hv e => ?_⟩, ?_⟩
  · have oi := k.one i hi
    refine ⟨oi.fr, oi.n0, fun e => ?_, oi.o3, fun e np => ⟨(oi.np e np).1, hnw i hi e⟩, fun pi ei => ?_, oi.n3, oi.n4, oi.n5, fun e => ?_⟩
    · have ri := oi.rec_ e
      rw [hat, hat, hat, hat, hat, if_neg (by omega), if_neg (by omega), if_neg (by omega), if_neg (by omega), if_neg (by omega)]
      exact ri
    · have hni : (D i).next ≠ 0 := by have := pi.1; omega
      have := oi.pl pi ei
      rw [hw] at this
      by_cases hij : i = j
      · subst hij; exact absurd ei h0
      · exact absurd (word_inj this).symm (k.inj i j hi hj hij hni hn)
    · rcases oi.n6 e with h | ⟨a, b, c⟩
      · exact .inl h
      · exact .inr ⟨a, b, hnw i hi (by omega)⟩
  · have o := k.hel i hi hv e
    exact ⟨o.pl, o.at_, o.nx, o.g, o.hope, o.settled, o.told, o.place, o.wd⟩
  · left
    exact ⟨_, .inr ⟨j, hj, hn, hw, rfl⟩, .inl ⟨hV, rfl⟩, rfl⟩
/-- The word is put there. -/
theorem DI.put (k : DI M D h K out w) {j : Nat} (hj : j < 5) (h1 : (D j).next = 1) (hw : w = oldM j) :
    DI (M.acc.set 6 (wordM (K j))) (upd D j { D j with next := 2 }) h K out (wordM (K j)) ∧ Turned D K out w (upd D j { D j with next := 2 }) K out (wordM (K j)) j := by
  have hm := made_le D
  have oj := k.one j hj
  have hn : (D j).next ≠ 0 := by omega
  have rj := oj.rec_ hn
  have hnp : ¬ placed (D j) := fun h => by have := h.1; omega
  have h0 := (oj.np hn hnp).1
  have hlen := k.len
  have hV : isV w := by rw [hw]; exact old_isV hj
  have hmade : madeN (upd D j { D j with next := 2 }) = madeN D := madeN_upd hj (by simp [hn])
  have hat : ∀ b, (M.acc.set 6 (wordM (K j))).at b = if b = 6 then wordM (K j) else M.at b := fun b => at_set _ _ _ _ (by show (1 : Int) ≤ 6 ∧ (6 : Int) ≤ ((M.cs.length : Nat) : Int); omega)
  have hwi : ∀ i, i < 5 → i ≠ j → (D i).next ≠ 0 → wordM (K j) ≠ wordM (K i) := fun i hi hij ni e => k.inj i j hi hj hij ni hn (word_inj e).symm
  refine ⟨⟨by rw [set_len, hmade]; exact k.len, k.mx, k.odd, by rw [hat, if_pos rfl], fun i hi => ?_, fun a b ha hb hab na nb => ?_, .inr ⟨j, hj, by rw [upd_self]; simp, by rw [upd_self]; simp, rfl⟩, fun i hi hv e => ?_⟩, ?_⟩
  · rw [hmade]
    by_cases hij : i = j
    · subst hij; rw [upd_self]
      refine ⟨⟨oj.fr.1, oj.fr.2.1, oj.fr.2.2.1, oj.fr.2.2.2.1, by simp, by simp⟩, by simp, fun _ => ?_, oj.o3, fun _ np => absurd (show placed { D i with next := 2 } from ⟨by simp, by simp⟩) np, fun _ _ => rfl, by simp, by simp, by simp, by simp⟩
      rw [hat, hat, hat, hat, hat, if_neg (by omega), if_neg (by omega), if_neg (by omega), if_neg (by omega), if_neg (by omega)]
      exact rj
    · have oi := k.one i hi
      rw [upd_ne _ _ hij]
      refine ⟨oi.fr, oi.n0, fun e => ?_, oi.o3, fun e np => ⟨(oi.np e np).1, hwi i hi hij e⟩, fun pi ei => ?_, oi.n3, oi.n4, oi.n5, fun e => ?_⟩
      · have ri := oi.rec_ e
        rw [hat, hat, hat, hat, hat, if_neg (by omega), if_neg (by omega), if_neg (by omega), if_neg (by omega), if_neg (by omega)]
        exact ri
      · have hni : (D i).next ≠ 0 := by have := pi.1; omega
        have e2 := oi.pl pi ei
        have := (oi.rec_ hni).2.1
        rw [e2] at hV; exact absurd hV (word_nV _ (by omega))
      · rcases oi.n6 e with h | ⟨a, b, c⟩
        · exact .inl h
        · exact .inr ⟨a, b, hwi i hi hij (by omega)⟩
  · refine k.inj a b ha hb hab ?_ ?_
    · by_cases e : a = j
      · subst e; exact hn
      · rw [upd_ne _ _ e] at na; exact na
    · by_cases e : b = j
      · subst e; exact hn
      · rw [upd_ne _ _ e] at nb; exact nb
  · have o := k.hel i hi hv e
    by_cases hij : i = j
    · subst hij; exact absurd o.pl.2 hnp
    · rw [upd_ne _ _ hij]; exact ⟨o.pl, o.at_, o.nx, o.g, o.hope, o.settled, o.told, o.place, o.wd⟩
  · left
    exact ⟨oldM j, .inl ⟨hV, hw.symm⟩, .inr ⟨j, hj, by rw [upd_self]; simp, rfl, by rw [h0]; rfl⟩, rfl⟩
/-- A record is made. -/
theorem DI.make (k : DI M D h K out w) {j : Nat} (hj : j < 5) (h0 : (D j).next = 0) :
    DI { M with cnt := IntKind.i64.wrap (M.cnt + 1), cs := M.cs ++ [3, 6, oldM j, newM j, 0] } (upd D j { D j with record := 8 + 5 * (madeN D : Int), next := 1 }) h (upd K j (madeN D)) out w ∧
      Turned D K out w (upd D j { D j with record := 8 + 5 * (madeN D : Int), next := 1 }) (upd K j (madeN D)) out w j := by
  have hm := made_le D
  have oj := k.one j hj
  obtain ⟨r0, q0, c0⟩ := oj.n0 h0
  have hlen := k.len
  have hmade : madeN (upd D j { D j with record := 8 + 5 * (madeN D : Int), next := 1 }) = madeN D + 1 := by
    have := sum5_upd (fun i => if (D i).next = 0 then 0 else 1) j hj (fun i => if (upd D j { D j with record := 8 + 5 * (madeN D : Int), next := 1 } i).next = 0 then 0 else 1) (fun i hi => by simp only [upd_ne _ _ hi])
    simp only [upd_self, h0] at this
    unfold madeN at this ⊢
    simpa using this
  have hm2 : madeN D + 1 ≤ 5 := by rw [← hmade]; exact made_le _
  have hat : ∀ b, MV.at { M with cnt := IntKind.i64.wrap (M.cnt + 1), cs := M.cs ++ [3, 6, oldM j, newM j, 0] } b = if b ≤ M.cs.length then M.at b else [3, 6, oldM j, newM j, 0].getD (b.toNat - 1 - M.cs.length) 0 := fun b => at_app _ _ _ _
  have hnew : ∀ (t : Nat), MV.at { M with cnt := IntKind.i64.wrap (M.cnt + 1), cs := M.cs ++ [3, 6, oldM j, newM j, 0] } (8 + t + 5 * (madeN D : Int)) = [3, 6, oldM j, newM j, 0].getD t 0 := by
    intro t
    rw [hat, if_neg (by omega)]
    congr 1
    omega
  have hold : ∀ b, b ≤ 7 + 5 * (madeN D : Int) → MV.at { M with cnt := IntKind.i64.wrap (M.cnt + 1), cs := M.cs ++ [3, 6, oldM j, newM j, 0] } b = M.at b := fun b hb => by rw [hat, if_pos (by omega)]
  have hwj : ∀ i, i < 5 → i ≠ j → (upd K j (madeN D)) i = K i := fun i _ e => upd_ne _ _ e
  have hww : w ≠ wordM (madeN D) := by
    rcases k.wv with hv | ⟨i, hi, h2, h5, hwi⟩
    · intro e; rw [e] at hv; exact word_nV _ (by omega) hv
    · intro e
      have := ((k.one i hi).rec_ (by omega)).2.1
      have := word_inj (hwi.symm.trans e)
      omega
  have hne : ∀ i, i < 5 → (D i).next ≠ 0 → i ≠ j := fun i _ hn e => hn (by rw [e]; exact h0)
  refine ⟨⟨by rw [hmade]; simp; omega, k.mx, k.odd, by rw [hold _ (by omega)]; exact k.at6, fun i hi => ?_, fun a b ha hb hab na nb => ?_, ?_, fun i hi hv e => ?_⟩, ?_⟩
  · rw [hmade]
    by_cases hij : i = j
    · subst hij; rw [upd_self, upd_self]
      refine ⟨⟨oj.fr.1, oj.fr.2.1, oj.fr.2.2.1, oj.fr.2.2.2.1, by simp, by simp⟩, by simp, fun _ => ⟨rfl, by omega, ?_, ?_, ?_, ?_, ?_⟩, oj.o3, fun _ _ => ⟨q0, hww⟩, fun p => by have := p.1; simp at this, by simp, by simp, by simp, by simp⟩
      · have := hnew 0; rw [show (8 : Int) + ((0 : Nat) : Int) + 5 * (madeN D : Int) = 8 + 5 * (madeN D : Int) by omega] at this; exact this
      · have := hnew 1; rw [show (8 : Int) + ((1 : Nat) : Int) + 5 * (madeN D : Int) = 9 + 5 * (madeN D : Int) by omega] at this; exact this
      · have := hnew 2; rw [show (8 : Int) + ((2 : Nat) : Int) + 5 * (madeN D : Int) = 10 + 5 * (madeN D : Int) by omega] at this; exact this
      · have := hnew 3; rw [show (8 : Int) + ((3 : Nat) : Int) + 5 * (madeN D : Int) = 11 + 5 * (madeN D : Int) by omega] at this; exact this
      · have := hnew 4; rw [show (8 : Int) + ((4 : Nat) : Int) + 5 * (madeN D : Int) = 12 + 5 * (madeN D : Int) by omega] at this; rw [this, q0]; rfl
    · have oi := k.one i hi
      rw [upd_ne _ _ hij, upd_ne _ _ hij]
      refine ⟨oi.fr, oi.n0, fun e => ?_, oi.o3, oi.np, oi.pl, oi.n3, oi.n4, oi.n5, oi.n6⟩
      have ri := oi.rec_ e
      rw [hold _ (by omega), hold _ (by omega), hold _ (by omega), hold _ (by omega), hold _ (by omega)]
      exact ⟨ri.1, by omega, ri.2.2⟩
  · by_cases ea : a = j
    · subst ea
      have eb : b ≠ a := fun e => hab e.symm
      rw [upd_self, upd_ne _ _ eb]
      rw [upd_ne _ _ eb] at nb
      have := ((k.one b hb).rec_ nb).2.1
      omega
    · rw [upd_ne _ _ ea] at na
      rw [upd_ne _ _ ea]
      have ka := ((k.one a ha).rec_ na).2.1
      by_cases eb : b = j
      · subst eb; rw [upd_self]; omega
      · rw [upd_ne _ _ eb] at nb
        rw [upd_ne _ _ eb]
        exact k.inj a b ha hb hab na nb
  · rcases k.wv with hv | ⟨i, hi, h2, h5, hwi⟩
    · exact .inl hv
    · have hij := hne i hi (by omega)
      exact .inr ⟨i, hi, by rw [upd_ne _ _ hij]; exact h2, by rw [upd_ne _ _ hij]; exact h5, by rw [upd_ne _ _ hij]; exact hwi⟩
  · have o := k.hel i hi hv e
    have hij := hne i hi o.pl.1
    rw [upd_ne _ _ hij, upd_ne _ _ hij]; exact o
  · left
    rcases k.stands with ⟨hv, e⟩ | ⟨i, hi, ni, e1, e2⟩
    · exact ⟨_, .inl ⟨hv, e⟩, .inl ⟨hv, e⟩, rfl⟩
    · have hij := hne i hi ni
      exact ⟨_, .inr ⟨i, hi, ni, e1, e2⟩, .inr ⟨i, hi, by rw [upd_ne _ _ hij]; exact ni, by rw [upd_ne _ _ hij]; exact e1, e2⟩, rfl⟩
theorem Turned.loc {D' : Nat → DV} {out' : Nat → Int} {w' : Int} {j : Nat} {d' : DV} (t : Turned D K out w D K out' w' j) (hn : (D j).next ≠ 0) (hn' : d'.next ≠ 0) : Turned D K out w (upd D j d') K out' w' j := by
  rcases t with ⟨L, a, b, c⟩ | ⟨a, b, c, _⟩
  · exact .inl ⟨L, a, stands_loc hn hn' b, c⟩
  · exact .inr ⟨a, stands_loc hn hn' b, c, by rw [upd_self]; exact hn'⟩
theorem DI.same (k : DI M D h K out w) (j : Nat) : Turned D K out w D K out w j := .inl ⟨_, k.stands, k.stands, rfl⟩
theorem upd_eq {α : Type} (f : Nat → α) (j : Nat) (x : α) (e : f j = x) : upd f j x = f := by
  funext i; unfold upd; split
  · rename_i h; rw [h, e]
  · rfl
/-- A step of a change. -/
theorem dstep_DI (k : DI M D h K out w) {j : Nat} (hj : j < 5) :
    ∃ K' out' w', DI (dstep (D j) M).2 (upd D j (dstep (D j) M).1) h K' out' w' ∧ Turned D K out w (upd D j (dstep (D j) M).1) K' out' w' j ∧ ((D j).next < (dstep (D j) M).1.next ∨ (D j).next = 6 ∧ (dstep (D j) M).1.next = 6) := by
  have hm := made_le D
  have oj := k.one j hj
  have hlen := k.len
  obtain ⟨f1, f2, f3, f4, f5, f6⟩ := oj.fr
  have in3 : (1 : Int) ≤ 3 ∧ (3 : Int) ≤ (M.cs.length : Int) := by omega
  have in6 : (1 : Int) ≤ 6 ∧ (6 : Int) ≤ (M.cs.length : Int) := by omega
  rcases (show (D j).next = 0 ∨ (D j).next = 1 ∨ (D j).next = 2 ∨ (D j).next = 3 ∨ (D j).next = 4 ∨ (D j).next = 5 ∨ (D j).next = 6 by omega) with hx | hx | hx | hx | hx | hx | hx
  · -- make
    have hroom : M.room 5 = true := by simp only [MV.room, decide_eq_true_eq, k.mx]; omega
    have e1 : (dstep (D j) M).1 = { D j with record := 8 + 5 * (madeN D : Int), next := 1 } := by
      simp only [dstep, hx, hroom, if_true]
      congr 1; omega
    have e2 : (dstep (D j) M).2 = { M with cnt := IntKind.i64.wrap (M.cnt + 1), cs := M.cs ++ [3, 6, oldM j, newM j, 0] } := by
      simp only [dstep, hx, if_true]
      rw [f1, f2, f3, f4]
      unfold MV.made; rw [show ([3, 6, oldM j, newM j, 0] : List Int).length = 5 from rfl, hroom]; rfl
    obtain ⟨a, b⟩ := k.make hj hx
    rw [e1, e2]
    exact ⟨_, _, _, a, b, .inl (by simp [hx])⟩
  · -- place
    have hn : (D j).next ≠ 0 := by omega
    have rj := oj.rec_ hn
    obtain ⟨q1, _, _⟩ := word_of (K j) (by omega)
    have hnp : ¬ placed (D j) := fun h => by have := h.1; omega
    by_cases hw : w = oldM j
    · obtain ⟨g1, g2⟩ := casM_t (M := M) (a := 6) (old := oldM j) (x := wordM (K j)) in6 (by rw [k.at6, hw])
      have hfit : M.fit (D j).place (D j).old = true := by rw [f2, f3]; exact g1
      have hcas : M.cas (D j).place (D j).old (ofI 5 (D j).record) = M.acc.set 6 (wordM (K j)) := by rw [f2, f3, rj.1, q1]; exact g2
      have e1 : (dstep (D j) M).1 = { D j with next := 2 } := by
        unfold dstep; rw [if_neg (by omega), if_pos hx]; simp only [hfit, if_true]
      have e2 : (dstep (D j) M).2 = M.acc.set 6 (wordM (K j)) := by
        unfold dstep; rw [if_neg (by omega), if_pos hx]; exact hcas
      obtain ⟨a, b⟩ := k.put hj hx hw
      rw [e1, e2]
      exact ⟨_, _, _, a, b, .inl (by simp [hx])⟩
    · obtain ⟨g1, g2⟩ := casM_f (M := M) (a := 6) (old := oldM j) (x := wordM (K j)) in6 (by rw [k.at6]; exact hw)
      have hfit : M.fit (D j).place (D j).old = false := by rw [f2, f3]; exact g1
      have hcas : M.cas (D j).place (D j).old (ofI 5 (D j).record) = M.acc := by rw [f2, f3, rj.1, q1]; exact g2
      have e1 : (dstep (D j) M).1 = { D j with outcome := 0, next := 6 } := by
        unfold dstep; rw [if_neg (by omega), if_pos hx]; simp only [hfit, Bool.false_eq_true, if_false]
      have e2 : (dstep (D j) M).2 = M.acc := by
        unfold dstep; rw [if_neg (by omega), if_pos hx]; exact hcas
      rw [e1, e2]
      have hnp' : ¬ placed { D j with outcome := 0, next := 6 } := fun h => h.2 ⟨rfl, rfl⟩
      exact ⟨K, out, w, k.acc.dloc hj hn (by simp) ⟨⟨f1, f2, f3, f4, by simp, by simp⟩, by simp, fun _ => rj, oj.o3, fun _ _ => oj.np hn hnp, fun p => absurd p hnp', by simp, fun _ p => absurd p hnp', by simp, fun _ => .inl rfl⟩ (fun p => absurd p hnp) (fun h2 => by omega),
        (k.same j).loc (D' := D) hn (by simp), .inl (by simp [hx])⟩
  · -- guard
    have hn : (D j).next ≠ 0 := by omega
    have rj := oj.rec_ hn
    have hp : placed (D j) := ⟨by omega, by omega⟩
    have hg : M.at (D j).guard = M.at 3 := by rw [f1]
    have hsn : M.seen (D j).guard = M.acc := by rw [f1]; exact seenM in3
    have e1 : (dstep (D j) M).1 = { D j with settle := if M.at 3 = 0 then 1 else 2, next := 3 } := by
      unfold dstep; rw [if_neg (by omega), if_neg (by omega), if_pos hx, hg]
    have e2 : (dstep (D j) M).2 = M.acc := by
      unfold dstep; rw [if_neg (by omega), if_neg (by omega), if_pos hx, hg]; exact hsn
    rw [e1, e2]
    exact ⟨K, out, w, k.acc.dloc hj hn (by simp) ⟨⟨f1, f2, f3, f4, by simp, by simp⟩, by simp, fun _ => rj, oj.o3, fun _ np => absurd (show placed { D j with settle := if M.at 3 = 0 then 1 else 2, next := 3 } from ⟨by simp, by simp⟩) np, fun _ => oj.pl hp, (fun _ => by show (if M.at 3 = 0 then (1 : Int) else 2) = 1 ∨ _; split <;> simp), by simp, by simp, by simp⟩ (fun _ => ⟨by simp, by simp⟩) (fun _ _ _ => by simp),
      (k.same j).loc (D' := D) hn (by simp), .inl (by simp [hx])⟩
  · -- settle
    have hn : (D j).next ≠ 0 := by omega
    have rj := oj.rec_ hn
    have hp : placed (D j) := ⟨by omega, by omega⟩
    have ea : wr ((D j).record + 4) = 12 + 5 * (K j : Int) := by rw [rj.1, show wr _ = IntKind.i64.wrap _ from rfl, w64 (by omega)]; omega
    have inr : 1 ≤ 12 + 5 * (K j : Int) ∧ 12 + 5 * (K j : Int) ≤ (M.cs.length : Int) := by omega
    have e1 : (dstep (D j) M).1 = { D j with next := 4 } := by
      unfold dstep; rw [if_neg (by omega), if_neg (by omega), if_neg (by omega), if_pos hx]
    have e2 : (dstep (D j) M).2 = M.cas (12 + 5 * (K j : Int)) 0 (D j).settle := by
      unfold dstep; rw [if_neg (by omega), if_neg (by omega), if_neg (by omega), if_pos hx, ea]
    rw [e1, e2]
    by_cases h0 : out j = 0
    · rw [(casM_t (x := (D j).settle) inr (by rw [rj.2.2.2.2.2.2, h0])).2]
      obtain ⟨a, b⟩ := k.settle hj hn hp h0 (oj.n3 hx)
      have oj' := a.one j hj
      have h0' : upd out j (D j).settle j ≠ 0 := by rw [upd_self]; have := oj.n3 hx; omega
      exact ⟨K, _, w, a.dloc hj hn (by simp) ⟨⟨f1, f2, f3, f4, by simp, by simp⟩, by simp, fun _ => oj'.rec_ hn, oj'.o3, fun _ np => absurd (show placed { D j with next := 4 } from ⟨by simp, by simp⟩) np, fun _ e => absurd e h0', by simp, fun _ _ => h0', by simp, by simp⟩ (fun _ => ⟨by simp, by simp⟩) (fun _ _ _ => by simp),
        b.loc (D' := D) hn (by simp), .inl (by simp [hx])⟩
    · rw [(casM_f (x := (D j).settle) inr (by rw [rj.2.2.2.2.2.2]; exact h0)).2]
      exact ⟨K, out, w, k.acc.dloc hj hn (by simp) ⟨⟨f1, f2, f3, f4, by simp, by simp⟩, by simp, fun _ => rj, oj.o3, fun _ np => absurd (show placed { D j with next := 4 } from ⟨by simp, by simp⟩) np, fun _ e => absurd e h0, by simp, fun _ _ => h0, by simp, by simp⟩ (fun _ => ⟨by simp, by simp⟩) (fun _ _ _ => by simp),
        (k.same j).loc (D' := D) hn (by simp), .inl (by simp [hx])⟩
  · -- outcome
    have hn : (D j).next ≠ 0 := by omega
    have rj := oj.rec_ hn
    have hp : placed (D j) := ⟨by omega, by omega⟩
    have h0 := oj.n4 (by omega) hp
    have ea : wr ((D j).record + 4) = 12 + 5 * (K j : Int) := by rw [rj.1, show wr _ = IntKind.i64.wrap _ from rfl, w64 (by omega)]; omega
    have inr : 1 ≤ 12 + 5 * (K j : Int) ∧ 12 + 5 * (K j : Int) ≤ (M.cs.length : Int) := by omega
    have e1 : (dstep (D j) M).1 = { D j with settle := out j, next := 5 } := by
      unfold dstep; rw [if_neg (by omega), if_neg (by omega), if_neg (by omega), if_neg (by omega), if_pos hx, ea, rj.2.2.2.2.2.2]
    have e2 : (dstep (D j) M).2 = M.acc := by
      unfold dstep; rw [if_neg (by omega), if_neg (by omega), if_neg (by omega), if_neg (by omega), if_pos hx, ea]; exact seenM inr
    rw [e1, e2]
    exact ⟨K, out, w, k.acc.dloc hj hn (by simp) ⟨⟨f1, f2, f3, f4, by simp, by simp⟩, by simp, fun _ => rj, oj.o3, fun _ np => absurd (show placed { D j with settle := out j, next := 5 } from ⟨by simp, by simp⟩) np, fun _ e => absurd e h0, by simp, fun _ _ => h0, fun _ => rfl, by simp⟩ (fun _ => ⟨by simp, by simp⟩) (fun _ _ _ => by simp),
      (k.same j).loc (D' := D) hn (by simp), .inl (by simp [hx])⟩
  · -- swing
    have hn : (D j).next ≠ 0 := by omega
    have rj := oj.rec_ hn
    have hp : placed (D j) := ⟨by omega, by omega⟩
    have h0 := oj.n4 (by omega) hp
    have hset := oj.n5 hx
    obtain ⟨q1, _, _⟩ := word_of (K j) (by omega)
    have hcn : M.cas (D j).place (ofI 5 (D j).record) (D j).new = M.cas 6 (wordM (K j)) (newM j) := by rw [f2, f4, rj.1, q1]
    have hco : M.cas (D j).place (ofI 5 (D j).record) (D j).old = M.cas 6 (wordM (K j)) (oldM j) := by rw [f2, f3, rj.1, q1]
    have e12 : dstep (D j) M = ({ D j with outcome := out j, next := 6 }, M.cas 6 (wordM (K j)) (if out j = 1 then newM j else oldM j)) := by
      unfold dstep; rw [if_neg (by omega), if_neg (by omega), if_neg (by omega), if_neg (by omega), if_neg (by omega), if_pos hx]
      by_cases ho1 : out j = 1
      · rw [if_pos (hset.trans ho1), hcn, if_pos ho1, ho1]
      · have ho2 : out j = 2 := by have := oj.o3; omega
        rw [if_neg (fun e => ho1 (hset.symm.trans e)), hco, if_neg ho1, ho2]
    have e1 : (dstep (D j) M).1 = { D j with outcome := out j, next := 6 } := by rw [e12]
    have e2 : (dstep (D j) M).2 = M.cas 6 (wordM (K j)) (if out j = 1 then newM j else oldM j) := by rw [e12]
    have hp' : placed { D j with outcome := out j, next := 6 } := ⟨by simp, fun h => h0 h.2⟩
    rw [e1, e2]
    by_cases hw : w = wordM (K j)
    · rw [(casM_t (x := if out j = 1 then newM j else oldM j) in6 (by rw [k.at6, hw])).2]
      obtain ⟨a, b⟩ := k.swing hj hn hp h0 hw
      have oj' := a.one j hj
      have hV : isV (if out j = 1 then newM j else oldM j) := by split; exact new_isV hj; exact old_isV hj
      have hnw : (if out j = 1 then newM j else oldM j) ≠ wordM (K j) := fun e => by rw [e] at hV; exact word_nV _ (by omega) hV
      exact ⟨K, out, _, a.dloc hj hn (by simp) ⟨⟨f1, f2, f3, f4, by simp, by simp⟩, by simp, fun _ => oj'.rec_ hn, oj.o3, fun _ np => absurd hp' np, fun _ e => absurd e h0, by simp, fun _ _ => h0, by simp, fun _ => .inr ⟨rfl, h0, hnw⟩⟩ (fun _ => hp') (fun _ _ e => absurd e hnw),
        b.loc (D' := D) hn (by simp), .inl (by simp [hx])⟩
    · rw [(casM_f (x := if out j = 1 then newM j else oldM j) in6 (by rw [k.at6]; exact hw)).2]
      exact ⟨K, out, w, k.acc.dloc hj hn (by simp) ⟨⟨f1, f2, f3, f4, by simp, by simp⟩, by simp, fun _ => rj, oj.o3, fun _ np => absurd hp' np, fun _ e => absurd e h0, by simp, fun _ _ => h0, by simp, fun _ => .inr ⟨rfl, h0, hw⟩⟩ (fun _ => hp') (fun _ _ e => absurd e hw),
        (k.same j).loc (D' := D) hn (by simp), .inl (by simp [hx])⟩
  · have e : dstep (D j) M = (D j, M) := by
      unfold dstep; rw [if_neg (by omega), if_neg (by omega), if_neg (by omega), if_neg (by omega), if_neg (by omega), if_neg (by omega)]
    rw [e]
    simp only
    rw [upd_eq D j _ rfl]
    exact ⟨K, out, w, k, k.same j, .inr ⟨hx, hx⟩⟩
/-- A step of a helper. -/
theorem hstep_DI (k : DI M D h K out w) {j : Nat} (hj : j < 5) {hv : HV} (ho : h j = some hv) :
    ∃ out' w', DI (hstep hv M).2 D (upd h j (some (hstep hv M).1)) K out' w' ∧ Turned D K out w D K out' w' j := by
  have hm := made_le D
  have oj := k.one j hj
  have hlen := k.len
  have o := k.hel j hj hv ho
  have hn := o.pl.1
  have hp := o.pl.2
  have rj := oj.rec_ hn
  obtain ⟨q1, _, _⟩ := word_of (K j) (by omega)
  have in3 : (1 : Int) ≤ 3 ∧ (3 : Int) ≤ (M.cs.length : Int) := by omega
  have in6 : (1 : Int) ≤ 6 ∧ (6 : Int) ≤ (M.cs.length : Int) := by omega
  have inr : ∀ t : Int, 0 ≤ t → t ≤ 4 → 1 ≤ 8 + t + 5 * (K j : Int) ∧ 8 + t + 5 * (K j : Int) ≤ (M.cs.length : Int) := fun t _ _ => by omega
  have ea : ∀ t : Int, 0 ≤ t → t ≤ 4 → wr (hv.at_ + t) = 8 + t + 5 * (K j : Int) := fun t _ _ => by rw [o.at_, show wr _ = IntKind.i64.wrap _ from rfl, w64 (by omega)]; omega
  have ea0 : wr hv.at_ = 8 + 5 * (K j : Int) := by rw [o.at_, show wr _ = IntKind.i64.wrap _ from rfl, w64 (by omega)]
  rcases (show hv.next = 0 ∨ hv.next = 1 ∨ hv.next = 2 ∨ hv.next = 3 ∨ hv.next = 4 ∨ hv.next = 5 ∨ hv.next = 6 ∨ hv.next = 7 by have := o.nx; omega) with hx | hx | hx | hx | hx | hx | hx | hx
  · have e : hstep hv M = ({ hv with guard := 3, next := 1 }, M.acc) := by
      unfold hstep; rw [if_pos hx, ea0, rj.2.2.1]
      have := inr 0 (by omega) (by omega); rw [show (8 : Int) + 0 + 5 * (K j : Int) = 8 + 5 * (K j : Int) by omega] at this
      rw [seenM this]
    rw [e]
    exact ⟨out, w, k.acc.hloc ⟨o.pl, o.at_, by simp, fun _ => rfl, by simp, by simp, by simp, by simp, by simp⟩, k.same j⟩
  · have e : hstep hv M = ({ hv with out := if M.at 3 = 0 then 1 else 2, next := 2 }, M.acc) := by
      unfold hstep; rw [if_neg (by omega), if_pos hx, o.g (by omega), seenM in3]
    rw [e]
    exact ⟨out, w, k.acc.hloc ⟨o.pl, o.at_, by simp, fun _ => o.g (by omega), (fun _ => by show (if M.at 3 = 0 then (1 : Int) else 2) = 1 ∨ _; split <;> simp), by simp, by simp, by simp, by simp⟩, k.same j⟩
  · have e : hstep hv M = ({ hv with next := 3 }, M.cas (12 + 5 * (K j : Int)) 0 hv.out) := by
      unfold hstep; rw [if_neg (by omega), if_neg (by omega), if_pos hx, ea 4 (by omega) (by omega)]
      rw [show (8 : Int) + 4 + 5 * (K j : Int) = 12 + 5 * (K j : Int) by omega]
    have in12 := inr 4 (by omega) (by omega)
    rw [show (8 : Int) + 4 + 5 * (K j : Int) = 12 + 5 * (K j : Int) by omega] at in12
    rw [e]
    by_cases h0 : out j = 0
    · simp only [(casM_t (x := hv.out) in12 (by rw [rj.2.2.2.2.2.2, h0])).2]
      obtain ⟨a, b⟩ := k.settle hj hn hp h0 (o.hope hx)
      have h0' : upd out j hv.out j ≠ 0 := by rw [upd_self]; have := o.hope hx; omega
      exact ⟨_, w, a.hloc ⟨o.pl, o.at_, by simp, fun _ => o.g (by omega), by simp, fun _ => h0', by simp, by simp, by simp⟩, b⟩
    · simp only [(casM_f (x := hv.out) in12 (by rw [rj.2.2.2.2.2.2]; exact h0)).2]
      exact ⟨out, w, k.acc.hloc ⟨o.pl, o.at_, by simp, fun _ => o.g (by omega), by simp, fun _ => h0, by simp, by simp, by simp⟩, k.same j⟩
  · have in12 := inr 4 (by omega) (by omega)
    have e : hstep hv M = ({ hv with out := out j, next := 4 }, M.acc) := by
      unfold hstep; rw [if_neg (by omega), if_neg (by omega), if_neg (by omega), if_pos hx, ea 4 (by omega) (by omega), seenM in12]
      rw [show (8 : Int) + 4 + 5 * (K j : Int) = 12 + 5 * (K j : Int) by omega, rj.2.2.2.2.2.2]
    rw [e]
    exact ⟨out, w, k.acc.hloc ⟨o.pl, o.at_, by simp, fun _ => o.g (by omega), by simp, fun _ => o.settled (by omega), fun _ => rfl, by simp, by simp⟩, k.same j⟩
  · have in9 := inr 1 (by omega) (by omega)
    have e : hstep hv M = ({ hv with place := 6, next := 5 }, M.acc) := by
      unfold hstep; rw [if_neg (by omega), if_neg (by omega), if_neg (by omega), if_neg (by omega), if_pos hx, ea 1 (by omega) (by omega), seenM in9]
      rw [show (8 : Int) + 1 + 5 * (K j : Int) = 9 + 5 * (K j : Int) by omega, rj.2.2.2.1]
    rw [e]
    exact ⟨out, w, k.acc.hloc ⟨o.pl, o.at_, by simp, fun _ => o.g (by omega), by simp, fun _ => o.settled (by omega), fun _ => o.told (by omega), fun _ => rfl, by simp⟩, k.same j⟩
  · have in11 := inr 3 (by omega) (by omega)
    have in10 := inr 2 (by omega) (by omega)
    have hto := o.told (by omega)
    have e : hstep hv M = ({ hv with word := if out j = 1 then newM j else oldM j, next := 6 }, M.acc) := by
      unfold hstep; rw [if_neg (by omega), if_neg (by omega), if_neg (by omega), if_neg (by omega), if_neg (by omega), if_pos hx, hto]
      split
      · rw [ea 3 (by omega) (by omega), seenM in11, show (8 : Int) + 3 + 5 * (K j : Int) = 11 + 5 * (K j : Int) by omega, rj.2.2.2.2.2.1]
      · rw [ea 2 (by omega) (by omega), seenM in10, show (8 : Int) + 2 + 5 * (K j : Int) = 10 + 5 * (K j : Int) by omega, rj.2.2.2.2.1]
    rw [e]
    exact ⟨out, w, k.acc.hloc ⟨o.pl, o.at_, by simp, fun _ => o.g (by omega), by simp, fun _ => o.settled (by omega), fun _ => hto, fun _ => o.place (by omega), fun _ => rfl⟩, k.same j⟩
  · have h0 := o.settled (by omega)
    have e : hstep hv M = ({ hv with next := 7 }, M.cas 6 (wordM (K j)) (if out j = 1 then newM j else oldM j)) := by
      unfold hstep; rw [if_neg (by omega), if_neg (by omega), if_neg (by omega), if_neg (by omega), if_neg (by omega), if_neg (by omega), if_pos hx, o.place (by omega), o.at_, q1, o.wd (by omega)]
    rw [e]
    by_cases hw : w = wordM (K j)
    · simp only [(casM_t (x := if out j = 1 then newM j else oldM j) in6 (by rw [k.at6, hw])).2]
      obtain ⟨a, b⟩ := k.swing hj hn hp h0 hw
      exact ⟨out, _, a.hloc ⟨o.pl, o.at_, by simp, fun _ => o.g (by omega), by simp, fun _ => h0, fun _ => o.told (by omega), fun _ => o.place (by omega), fun _ => o.wd (by omega)⟩, b⟩
    · simp only [(casM_f (x := if out j = 1 then newM j else oldM j) in6 (by rw [k.at6]; exact hw)).2]
      exact ⟨out, w, k.acc.hloc ⟨o.pl, o.at_, by simp, fun _ => o.g (by omega), by simp, fun _ => h0, fun _ => o.told (by omega), fun _ => o.place (by omega), fun _ => o.wd (by omega)⟩, k.same j⟩
  · have e : hstep hv M = (hv, M) := by
      unfold hstep; rw [if_neg (by omega), if_neg (by omega), if_neg (by omega), if_neg (by omega), if_neg (by omega), if_neg (by omega), if_neg (by omega)]
    rw [e]
    simp only
    rw [upd_eq h j _ ho]
    exact ⟨out, w, k, k.same j⟩
/-- A helper may begin. -/
theorem hnew_DI (k : DI M D h K out w) {j : Nat} (hj : j < 5) (hn : (D j).next ≠ 0) (hw : w = wordM (K j)) : DI M D (upd h j (some ⟨0, (D j).record, 0, 0, 0, 0⟩)) K out w := by
  have oj := k.one j hj
  have hm := made_le D
  have rj := oj.rec_ hn
  have hp : placed (D j) := by
    by_cases hp : placed (D j)
    · exact hp
    · exact absurd hw (oj.np hn hp).2
  exact k.hloc ⟨⟨hn, hp⟩, rj.1, by simp, by simp, by simp, by simp, by simp, by simp, by simp⟩
end
end Go.Proofs.Ytpenlcigickkbaa.Fun
