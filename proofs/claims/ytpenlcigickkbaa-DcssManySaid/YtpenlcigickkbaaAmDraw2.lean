/-
A region whose order is drawn, gone through: the theorem.
-/
import Derived.Test.YtpenlcigickkbaaAmDraw
namespace Go.Proofs.YtpenlcigickkbaaA.Am
open Go.RowKit (Below)
variable {P : Program} {μ : Mu} {H H' : Heap} {w : World} {B : Nat}

section
variable (ops : Array Oper) (S : Nat → Env × Heap) (val : Nat → Value) (L : Nat → Bool)
def dstOf (k : Nat) : Option Nat := (ops[k]?).bind (·.dst)
/-- What the slots hold when just the operations of L are done. -/
def fenv : Nat → Nat → Value
  | 0, t => (S 0).1.get t
  | k + 1, t => if L k = true ∧ dstOf ops k = some t then val k else fenv k t
/-- Operation k writes or calls, and is wanted. -/
def effW (k : Nat) : Bool := match ops[k]? with
  | some o => decide (cls o.op = .eff) && (awant ops o (S k).1 == some true)
  | none => false
def hOf : Nat → Heap
  | 0 => (S 0).2
  | k + 1 => if L k = true ∧ effW ops S k = true then (S (k + 1)).2 else hOf k
def cntU : Nat → Nat
  | 0 => 0
  | k + 1 => cntU k + if L k then 0 else 1
end

variable {ops : Array Oper} {S : Nat → Env × Heap} {val : Nat → Value} {L L' : Nat → Bool} {C : Oracle}

theorem fenv_eq {i t : Nat} (hst : ∀ k o, ops[k]? = some o → step1 P C ops o (S k) (S (k + 1)) (val k)) (hn : i ≤ ops.size) (h : ∀ k, k < i → dstOf ops k = some t → L k = true) :
    fenv ops S val L i t = (S i).1.get t := by
  induction i with
  | zero => rfl
  | succ k ih =>
    have hk : k < ops.size := by omega
    have ho : ops[k]? = some ops[k] := Array.getElem?_eq_getElem hk
    have h1 := (hst k _ ho).1
    rw [h1, Env.get_put, fenv]
    have hd : dstOf ops k = ops[k].dst := by simp [dstOf, ho]
    by_cases e : dstOf ops k = some t
    · rw [if_pos ⟨h k (by omega) e, e⟩, if_pos (by rw [← hd]; exact e)]
    · rw [if_neg (fun x => e x.2), if_neg (by rw [← hd]; exact e)]
      exact ih (by omega) (fun j hj => h j (by omega))
theorem fenv_cut {i n t : Nat} (hin : i ≤ n) (h : ∀ k, i ≤ k → k < n → dstOf ops k = some t → L k = false) : fenv ops S val L n t = fenv ops S val L i t := by
  induction n with
  | zero => have : i = 0 := by omega
            subst this; rfl
  | succ k ih =>
    by_cases e : i = k + 1
    · subst e; rfl
    · rw [fenv, if_neg]
      · exact ih (by omega) (fun j h1 h2 => h j h1 (by omega))
      · rintro ⟨h1, h2⟩
        rw [h k (by omega) (by omega) h2] at h1; cases h1
theorem fenv_up {i n t : Nat} (hin : i < n) (hi : L' i = true) (hne : ∀ k, k ≠ i → L' k = L k) (h : dstOf ops i = some t → ∀ k, i < k → k < n → dstOf ops k = some t → L k = false) :
    fenv ops S val L' n t = if dstOf ops i = some t then val i else fenv ops S val L n t := by
  induction n with
  | zero => omega
  | succ k ih =>
    by_cases e : i = k
    · subst e
      rw [fenv, fenv]
      have hlow : ∀ m, m ≤ i → fenv ops S val L' m t = fenv ops S val L m t := by
        intro m hm
        induction m with
        | zero => rfl
        | succ j ihj => rw [fenv, fenv, hne j (by omega), ihj (by omega)]
      by_cases hd : dstOf ops i = some t
      · rw [if_pos ⟨hi, hd⟩, if_pos hd]
      · rw [if_neg (fun x => hd x.2), if_neg hd, if_neg (fun x => hd x.2)]; exact hlow i (Nat.le_refl _)
    · rw [fenv, fenv, hne k (by omega), ih (by omega) (fun a b c d => h a b c (by omega))]
      by_cases hd : dstOf ops i = some t
      · rw [if_pos hd]
        by_cases hk : L k = true ∧ dstOf ops k = some t
        · rw [h hd k (by omega) (by omega) hk.2] at hk; cases hk.1
        · rw [if_neg hk, if_pos hd]
      · rw [if_neg hd, if_neg hd]

theorem heap_same {k : Nat} {o : Oper} (hst : step1 P C ops o (S k) (S (k + 1)) (val k)) (ho : ops[k]? = some o) (hb : cls o.op ≠ .bad) (h : effW ops S k = false) : (S (k + 1)).2 = (S k).2 := by
  rcases hst.2 with ⟨hw, hx⟩ | ⟨hw, _, hx⟩
  · have hc : cls o.op ≠ .eff := by
      intro e
      simp [effW, ho, e, hw] at h
    rw [← aexecF_get] at hx
    unfold aexecF at hx
    split at hx
    · rename_i e
      rw [e] at hc; exact absurd rfl hc
    · exact aop_quiet hc hb hx
  · exact hx

theorem hOf_eq {i : Nat} (hsame : ∀ k, k < i → effW ops S k = false → (S (k + 1)).2 = (S k).2) (h : ∀ k, k < i → effW ops S k = true → L k = true) : hOf ops S L i = (S i).2 := by
  induction i with
  | zero => rfl
  | succ k ih =>
    rw [hOf]
    by_cases e : effW ops S k = true
    · rw [if_pos ⟨h k (by omega) e, e⟩]
    · rw [if_neg (fun x => e x.2), ih (fun j hj => hsame j (by omega)) (fun j hj => h j (by omega)), hsame k (by omega) (by simpa using e)]
theorem hOf_cut {i n : Nat} (hin : i ≤ n) (h : ∀ k, i ≤ k → k < n → effW ops S k = true → L k = false) : hOf ops S L n = hOf ops S L i := by
  induction n with
  | zero => have : i = 0 := by omega
            subst this; rfl
  | succ k ih =>
    by_cases e : i = k + 1
    · subst e; rfl
    · rw [hOf, if_neg]
      · exact ih (by omega) (fun j h1 h2 => h j h1 (by omega))
      · rintro ⟨h1, h2⟩
        rw [h k (by omega) (by omega) h2] at h1; cases h1
theorem hOf_same {n : Nat} (h : ∀ k, k < n → effW ops S k = true → L' k = L k) : hOf ops S L' n = hOf ops S L n := by
  induction n with
  | zero => rfl
  | succ k ih =>
    rw [hOf, hOf, ih (fun j hj => h j (by omega))]
    by_cases e : effW ops S k = true
    · rw [h k (by omega) e]
    · rw [if_neg (fun x => e x.2), if_neg (fun x => e x.2)]
theorem hOf_last (n : Nat) : (∃ p, p < n ∧ L p = true ∧ effW ops S p = true ∧ (∀ q, p < q → q < n → effW ops S q = true → L q = false) ∧ hOf ops S L n = (S (p + 1)).2) ∨
    ((∀ q, q < n → effW ops S q = true → L q = false) ∧ hOf ops S L n = (S 0).2) := by
  induction n with
  | zero => exact .inr ⟨fun q hq => by omega, rfl⟩
  | succ k ih =>
    by_cases e : L k = true ∧ effW ops S k = true
    · left
      exact ⟨k, by omega, e.1, e.2, fun q h1 h2 => by omega, by rw [hOf, if_pos e]⟩
    · rw [hOf, if_neg e]
      have hk : effW ops S k = true → L k = false := by
        intro h
        cases hl : L k with
        | true => exact absurd ⟨hl, h⟩ e
        | false => rfl
      rcases ih with ⟨p, hp, h1, h2, h3, h4⟩ | ⟨h1, h2⟩
      · refine .inl ⟨p, by omega, h1, h2, fun q hq hq2 hw => ?_, h4⟩
        by_cases e2 : q = k
        · subst e2; exact hk hw
        · exact h3 q hq (by omega) hw
      · refine .inr ⟨fun q hq hw => ?_, h2⟩
        by_cases e2 : q = k
        · subst e2; exact hk hw
        · exact h1 q (by omega) hw

theorem cnt_up {i n : Nat} (hin : i < n) (h0 : L i = false) (h1 : L' i = true) (hne : ∀ k, k ≠ i → L' k = L k) : cntU L' n + 1 = cntU L n := by
  induction n with
  | zero => omega
  | succ k ih =>
    have hlow : ∀ m, m ≤ i → cntU L' m = cntU L m := by
      intro m hm
      induction m with
      | zero => rfl
      | succ j ihj => rw [cntU, cntU, hne j (by omega), ihj (by omega)]
    by_cases e : i = k
    · subst e; rw [cntU, cntU, h0, h1, hlow i (Nat.le_refl _)]; simp
    · rw [cntU, cntU, hne k (by omega)]; have := ih (by omega); omega
theorem cnt_zero {n : Nat} (h : cntU L n = 0) : ∀ k, k < n → L k = true := by
  induction n with
  | zero => intro k hk; omega
  | succ m ih =>
    rw [cntU] at h
    intro k hk
    by_cases e : k = m
    · subst e
      cases hl : L k with
      | true => rfl
      | false => rw [hl] at h; simp at h
    · exact ih (by omega) k (by omega)

/-- What a read tells does not hang on what is done beside it. -/
theorem read_at {i : Nat} {v : Value} {f : Heap → Option Value} (hf : f (S i).2 = some v) (hsame : ∀ k, k < i → effW ops S k = false → (S (k + 1)).2 = (S k).2) :
    ∀ m, m ≤ i → (∀ q, m ≤ q → q < i → effW ops S q = true → f (S q).2 = some v) → f (S m).2 = some v := by
  intro m hm
  induction hd : i - m generalizing m with
  | zero => have : m = i := by omega
            subst this; intro _; exact hf
  | succ d ih =>
    intro h
    by_cases e : effW ops S m = true
    · exact h m (Nat.le_refl _) (by omega) e
    · have := ih (m + 1) (by omega) (by omega) (fun q h1 h2 h3 => h q (by omega) h2 h3)
      rw [hsame m (by omega) (by simpa using e)] at this
      exact this

theorem eqV1_sound {a b : Value} (h : eqV1 a b = true) : a = b := by
  unfold eqV1 at h
  split at h
  · simpa using h
  · simp only [Bool.and_eq_true, decide_eq_true_eq, beq_iff_eq] at h; rw [h.1, h.2]
  · simpa using h
  · simpa using h
  · simp only [Bool.and_eq_true, decide_eq_true_eq, beq_iff_eq] at h; rw [h.1.1, h.1.2, h.2]
  · simpa using h
  · rfl
  · rfl
  · cases h
theorem eqList_sound : ∀ {a b : List Value}, eqList eqV1 a b = true → a = b
  | [], [], _ => rfl
  | a :: x, b :: y, h => by
    simp only [eqList, Bool.and_eq_true] at h
    rw [eqV1_sound h.1, eqList_sound h.2]
  | [], _ :: _, h => by simp [eqList] at h
  | _ :: _, [], h => by simp [eqList] at h
theorem eqV_sound {a b : Value} (h : eqV a b = true) : a = b := by
  unfold eqV at h
  split at h
  · have := eqList_sound h
    rw [Array.toList_inj] at this; rw [this]
  · exact eqV1_sound h

theorem confs_mem {r e : Nat} {x y : Oper} (hx : ops[r]? = some x) (hy : ops[e]? = some y) (h1 : cls x.op = .read) (h2 : cls y.op = .eff) (h3 : bef (Region.before ops) r e = false) (h4 : bef (Region.before ops) e r = false) : (r, e) ∈ confs ops := by
  unfold confs
  rw [List.mem_flatMap]
  refine ⟨r, List.mem_range.2 (Array.getElem?_eq_some_iff.1 hx).1, ?_⟩
  rw [List.mem_filterMap]
  refine ⟨e, List.mem_range.2 (Array.getElem?_eq_some_iff.1 hy).1, ?_⟩
  simp [hx, hy, h1, h2, h3, h4]

/-- What is known of a region that may be gone through in the text's order. -/
structure Plan (P : Program) (C : Oracle) (ops : Array Oper) (S : Nat → Env × Heap) (val : Nat → Value) : Prop where
  st : ∀ (k : Nat) (o : Oper), ops[k]? = some o → step1 P C ops o (S k) (S (k + 1)) (val k)
  edges : edgesOk ops = true
  good : ∀ (k : Nat) (o : Oper), ops[k]? = some o → cls o.op ≠ .bad
  pair : ∀ (i j : Nat), i < j → j < ops.size → pairOk (Region.before ops) ops i j = true
  conf : ∀ (r e : Nat) (x y : Oper), ops[r]? = some x → ops[e]? = some y → cls x.op = .read → cls y.op = .eff → bef (Region.before ops) r e = false → bef (Region.before ops) e r = false →
    awant ops x (S r).1 = some true → effW ops S e = true → (aop P (aeval (S r).1) (S r).2 x.op).map Prod.fst = (aop P (aeval (S r).1) (S e).2 x.op).map Prod.fst ∧
      (aop P (aeval (S r).1) (S r).2 x.op).map Prod.fst = (aop P (aeval (S r).1) (S (e + 1)).2 x.op).map Prod.fst

theorem Plan.of {E E' : Env} (hok : drawOk ops = true) (hrun : runRegion P C ops true E H = some (E', H')) :
    ∃ S val, Plan P C ops S val ∧ S 0 = (E, H) ∧ S ops.size = (E', H') := by
  unfold runRegion at hrun
  simp only [if_true] at hrun
  have hboth : runOps P C ops ops.toList E H = some (E', H') ∧ (confs ops).all (confOk P ops (trace P C ops ops.toList E H)) = true := by
    split at hrun
    · rename_i hc; exact ⟨hrun, by rw [hc]; rfl⟩
    · rename_i cs hc
      split at hrun
      · rename_i hall; exact ⟨hrun, hall⟩
      · cases hrun
  obtain ⟨hr, hconf⟩ := hboth
  obtain ⟨S, val, h0, hl, hst, htr⟩ := run_states ops.toList E H _ hr
  simp only [drawOk, Bool.and_eq_true, List.all_eq_true, List.mem_range, decide_eq_true_eq] at hok
  obtain ⟨⟨hedge, hbad⟩, hpair⟩ := hok
  refine ⟨S, val, ⟨fun k o ho => hst k o (by simpa using ho), hedge, ?_, fun i j hij hj => hpair j hj i hij, ?_⟩, h0, by simpa using hl⟩
  · intro k o ho
    exact hbad o (by simpa using Array.mem_of_getElem? ho)
  · intro r e x y hx hy hread heff h1 h2 hw hew
    have hm := confs_mem (ops := ops) hx hy hread heff h1 h2
    have hc := List.all_eq_true.1 hconf _ hm
    have hrs : r < ops.size := (Array.getElem?_eq_some_iff.1 hx).1
    have hes : e < ops.size := (Array.getElem?_eq_some_iff.1 hy).1
    have t1 := htr r (by simp; omega)
    have t2 := htr e (by simp; omega)
    have t3 := htr (e + 1) (by simp; omega)
    unfold confOk at hc
    simp only [t1, t2, t3, hx, hy] at hc
    have hwe : awant ops y (S e).1 = some true := by simpa [effW, hy, heff] using hew
    simp only [hw, hwe] at hc
    split at hc
    · rename_i u _ u1 _ u2 _ e1 e2 e3
      simp only [Bool.and_eq_true] at hc
      rw [e1, e2, e3]
      simp only [Option.map_some]
      rw [← eqV_sound hc.1, ← eqV_sound hc.2]
      exact ⟨rfl, rfl⟩
    · cases hc

theorem Plan.same (h : Plan P C ops S val) : ∀ k, k < ops.size → effW ops S k = false → (S (k + 1)).2 = (S k).2 := by
  intro k hk he
  have ho : ops[k]? = some ops[k] := Array.getElem?_eq_getElem hk
  exact heap_same (h.st k _ ho) ho (h.good k _ ho) he

/-- Operation i comes up: all that it looks at is as in the text's order. -/
theorem Plan.comes (h : Plan P C ops S val) {i : Nat} {o : Oper} (ho : ops[i]? = some o) (hi : L i = false)
    (hlow : ∀ k, k < i → L k = false → bef (Region.before ops) k i = false) (hhigh : ∀ k, L k = true → bef (Region.before ops) i k = false) :
    (∀ t ∈ o.looksAt ops, fenv ops S val L ops.size t = (S i).1.get t) ∧ (∀ t, o.dst = some t → ∀ k, i < k → k < ops.size → dstOf ops k = some t → L k = false) ∧
    (awant ops o (S i).1 = some true → aexecF P C (S i).1.get (hOf ops S L ops.size) o = some (val i, if effW ops S i = true then (S (i + 1)).2 else hOf ops S L ops.size)) ∧
    (effW ops S i = true → ∀ k, i < k → k < ops.size → effW ops S k = true → L k = false) := by
  have hin : i < ops.size := (Array.getElem?_eq_some_iff.1 ho).1
  -- pairs
  have low : ∀ (k : Nat) (x : Oper), k < i → ops[k]? = some x → L k = false → x.apart ops o = true ∧ ¬ (cls x.op = .eff ∧ cls o.op = .eff) := by
    intro k x hk hx hl
    have hp := h.pair k i hk hin
    unfold pairOk at hp
    rw [hx, ho] at hp
    simp only [hlow k hk hl, Bool.false_or, Bool.and_eq_true, Bool.not_eq_true', Bool.and_eq_false_iff, decide_eq_false_iff_not] at hp
    obtain ⟨h1, h2⟩ := hp
    exact ⟨h1, fun e => by rcases h2 with h2 | h2 <;> simp [e.1, e.2] at h2⟩
  have high : ∀ (k : Nat) (y : Oper), i < k → ops[k]? = some y → L k = true → o.apart ops y = true ∧ ¬ (cls o.op = .eff ∧ cls y.op = .eff) := by
    intro k y hk hy hl
    have hkn : k < ops.size := (Array.getElem?_eq_some_iff.1 hy).1
    have hp := h.pair i k hk hkn
    unfold pairOk at hp
    rw [hy, ho] at hp
    simp only [hhigh k hl, Bool.false_or, Bool.and_eq_true, Bool.not_eq_true', Bool.and_eq_false_iff, decide_eq_false_iff_not] at hp
    obtain ⟨h1, h2⟩ := hp
    exact ⟨h1, fun e => by rcases h2 with h2 | h2 <;> simp [e.1, e.2] at h2⟩
  have effOf : ∀ (k : Nat), effW ops S k = true → ∃ x, ops[k]? = some x ∧ cls x.op = .eff ∧ awant ops x (S k).1 = some true := by
    intro k hk
    unfold effW at hk
    split at hk
    · rename_i x hx
      simp only [Bool.and_eq_true, decide_eq_true_eq, beq_iff_eq] at hk
      exact ⟨x, hx, hk.1, hk.2⟩
    · cases hk
  refine ⟨?_, ?_, ?_, ?_⟩
  · intro t ht
    rw [fenv_cut (i := i) (by omega), fenv_eq (P := P) (C := C) h.st (by omega)]
    · intro k hk hd
      cases hl : L k with
      | true => rfl
      | false =>
        have hkn : k < ops.size := by omega
        have hx : ops[k]? = some ops[k] := Array.getElem?_eq_getElem hkn
        obtain ⟨h1, _, _⟩ := Oper.apart_spec (low k _ hk hx hl).1
        exact absurd ht (h1 t (by simpa [dstOf, hx] using hd))
    · intro k hk hkn hd
      by_cases e : k = i
      · subst e; exact hi
      · cases hl : L k with
        | false => rfl
        | true =>
          have hy : ops[k]? = some ops[k] := Array.getElem?_eq_getElem hkn
          obtain ⟨_, _, h3⟩ := Oper.apart_spec (high k _ (by omega) hy hl).1
          exact absurd ht (h3 t (by simpa [dstOf, hy] using hd))
  · intro t ht k hk hkn hd
    cases hl : L k with
    | false => rfl
    | true =>
      have hy : ops[k]? = some ops[k] := Array.getElem?_eq_getElem hkn
      obtain ⟨_, h2, _⟩ := Oper.apart_spec (high k _ hk hy hl).1
      exact absurd (by simpa [dstOf, hy] using hd) (h2 t ht)
  · intro hw
    have hst := h.st i o ho
    have hx : aexec P C (S i).1 (S i).2 o = some (val i, (S (i + 1)).2) := by
      rcases hst.2 with ⟨_, hx⟩ | ⟨hw2, _, _⟩
      · exact hx
      · rw [hw] at hw2; cases hw2
    have hx' := hx
    rw [← aexecF_get] at hx'
    by_cases heff : cls o.op = .eff
    · have hew : effW ops S i = true := by simp [effW, ho, heff, hw]
      rw [if_pos hew]
      have hh : hOf ops S L ops.size = (S i).2 := by
        rw [hOf_cut (i := i) (by omega), hOf_eq (fun k hk => h.same k (by omega))]
        · intro k hk he
          obtain ⟨x, hx1, hx2, _⟩ := effOf k he
          cases hl : L k with
          | true => rfl
          | false => exact absurd ⟨hx2, heff⟩ (low k x hk hx1 hl).2
        · intro k hk hkn he
          obtain ⟨x, hx1, hx2, _⟩ := effOf k he
          by_cases e : k = i
          · subst e; exact hi
          · cases hl : L k with
            | false => rfl
            | true => exact absurd ⟨heff, hx2⟩ (high k x (by omega) hx1 hl).2
      rw [hh]; exact hx'
    · have hew : effW ops S i = false := by simp [effW, ho, heff]
      have hsame := h.same i hin hew
      rw [if_neg (by rw [hew]; simp)]
      -- no call: the operation itself
      have hop : ∀ H2, aexecF P C (S i).1.get H2 o = aop P (aevalF (S i).1.get) H2 o.op := by
        intro H2
        unfold aexecF
        split
        · rename_i e; rw [e] at heff; exact absurd rfl heff
        · rfl
      rw [hop] at hx' ⊢
      have hbad := h.good i o ho
      cases hcl : cls o.op with
      | eff => exact absurd hcl heff
      | bad => exact absurd hcl hbad
      | pure => exact aop_pure hcl hx' _
      | read =>
        -- what it reads
        have hu : (aop P (aeval (S i).1) (S i).2 o.op).map Prod.fst = some (val i) := by rw [← aevalF_get, hx']; rfl
        have hfin : ∀ H2, (aop P (aeval (S i).1) H2 o.op).map Prod.fst = some (val i) → aop P (aevalF (S i).1.get) H2 o.op = some (val i, H2) := by
          intro H2 h2
          rw [Option.map_eq_some_iff] at h2
          obtain ⟨⟨u, H3⟩, h3, e⟩ := h2
          cases e
          rw [aevalF_get, h3]
          rw [aop_quiet (P := P) (by rw [hcl]; simp) (by rw [hcl]; simp) h3]
        refine hfin _ ?_
        have cf : ∀ (e : Nat) (y : Oper), ops[e]? = some y → effW ops S e = true → bef (Region.before ops) i e = false → bef (Region.before ops) e i = false →
            (aop P (aeval (S i).1) (S e).2 o.op).map Prod.fst = some (val i) ∧ (aop P (aeval (S i).1) (S (e + 1)).2 o.op).map Prod.fst = some (val i) := by
          intro e y hy hew2 h1 h2
          obtain ⟨x, hx1, hx2, hx3⟩ := effOf e hew2
          rw [hy] at hx1; cases hx1
          obtain ⟨c1, c2⟩ := h.conf i e o y ho hy hcl hx2 h1 h2 hw hew2
          rw [hu] at c1 c2
          exact ⟨c1.symm, c2.symm⟩
        have nolow : ∀ q, i ≤ q → bef (Region.before ops) q i = false := by
          intro q hq
          cases hb : bef (Region.before ops) q i with
          | false => rfl
          | true => have := bef_lt h.edges i q hb; omega
        have nohigh : ∀ q, q ≤ i → bef (Region.before ops) i q = false := by
          intro q hq
          cases hb : bef (Region.before ops) i q with
          | false => rfl
          | true => have := bef_lt h.edges q i hb; omega
        rcases hOf_last (ops := ops) (S := S) (L := L) ops.size with ⟨p, hp, hLp, hep, hlast, hh⟩ | ⟨hnone, hh⟩
        · rw [hh]
          have hyp : ops[p]? = some ops[p] := Array.getElem?_eq_getElem hp
          by_cases hpi : p < i
          · refine read_at (f := fun H => (aop P (aeval (S i).1) H o.op).map Prod.fst) hu (fun k hk => h.same k (by omega)) (p + 1) (by omega) ?_
            intro q h1 h2 h3
            have hq : q < ops.size := by omega
            have hLq := hlast q (by omega) hq h3
            exact (cf q _ (Array.getElem?_eq_getElem hq) h3 (nohigh q (by omega)) (hlow q h2 hLq)).1
          · have hne : p ≠ i := fun e => by subst e; rw [hi] at hLp; cases hLp
            exact (cf p _ hyp hep (hhigh p hLp) (nolow p (by omega))).2
        · rw [hh]
          refine read_at (f := fun H => (aop P (aeval (S i).1) H o.op).map Prod.fst) hu (fun k hk => h.same k (by omega)) 0 (by omega) ?_
          intro q h1 h2 h3
          have hq : q < ops.size := by omega
          have hLq := hnone q hq h3
          exact (cf q _ (Array.getElem?_eq_getElem hq) h3 (nohigh q (by omega)) (hlow q h2 hLq)).1
  · intro hew k hk hkn he
    obtain ⟨x, hx1, hx2, _⟩ := effOf k he
    obtain ⟨x', hx1', hx2', _⟩ := effOf i hew
    rw [ho] at hx1'; cases hx1'
    cases hl : L k with
    | false => rfl
    | true => exact absurd ⟨hx2', hx2⟩ (high k x hk hx1 hl).2

/-- What holds while a drawn region runs: L, the operations that are done. -/
structure Inv (P : Program) (ops : Array Oper) (S : Nat → Env × Heap) (val : Nat → Value) (N B : Nat) (a0 : Act) (w0 : World) (μ0 : Mu) (listed : Array Bool) (a : Act) (w : World) (μ : Mu) : Prop where
  size : listed.size = ops.size
  shut : ∀ (j : Nat) (o : Oper), ops[j]? = some o → listed.getD j false = true → ∀ e ∈ o.after, Region.binds .any e = true → listed.getD e.on false = true
  env : EnvR μ (fenv ops S val (fun k => listed.getD k false) ops.size) a.tmps
  sim : Sim μ (hOf ops S (fun k => listed.getD k false) ops.size) w B
  tmps : N ≤ a.tmps.size
  tsize : a.tmps.size = a0.tmps.size
  defers : a.defers = a0.defers
  below : Below B w0 w
  le : μ0.le μ

theorem ready_mem {listed : Array Bool} {i : Nat} (hi : i ∈ Region.ready .any ops listed) (hs : listed.size = ops.size) :
    ∃ o, ops[i]? = some o ∧ listed.getD i false = false ∧ ∀ e ∈ o.after, Region.binds .any e = true → listed.getD e.on false = true := by
  unfold Region.ready at hi
  rw [List.mem_filter] at hi
  obtain ⟨h1, h2⟩ := hi
  have hin := List.mem_range.1 h1
  simp only [Bool.and_eq_true, Bool.not_eq_true'] at h2
  refine ⟨ops[i], Array.getElem?_eq_getElem hin, ?_, ?_⟩
  · have := h2.1
    rw [Array.getD_eq_getD_getElem?, Array.getElem?_eq_getElem (by omega)] at this ⊢
    exact this
  · intro e he hb
    have h3 := h2.2
    rw [Array.getElem?_eq_getElem hin] at h3
    simp only [Option.map_some, Option.getD_some] at h3
    have := Array.all_eq_true_iff_forall_mem.1 h3 e he
    simpa [hb] using this

theorem ready_nil {listed : Array Bool} (he : edgesOk ops = true) (hs : listed.size = ops.size) (h : Region.ready .any ops listed = []) : ∀ k, k < ops.size → listed.getD k false = true := by
  intro k
  induction k using Nat.strongRecOn with
  | _ k ih =>
    intro hk
    cases hl : listed.getD k false with
    | true => rfl
    | false =>
      exfalso
      have hm : k ∈ Region.ready .any ops listed := by
        unfold Region.ready
        rw [List.mem_filter]
        refine ⟨List.mem_range.2 hk, ?_⟩
        simp only [Bool.and_eq_true, Bool.not_eq_true']
        constructor
        · rw [Array.getD_eq_getD_getElem?, Array.getElem?_eq_getElem (by omega)] at hl ⊢
          exact hl
        · rw [Array.getElem?_eq_getElem hk]
          simp only [Option.map_some, Option.getD_some]
          rw [Array.all_eq_true_iff_forall_mem]
          intro e hem
          have h1 := List.all_eq_true.1 he k (List.mem_range.2 hk)
          rw [Array.getElem?_eq_getElem hk] at h1
          have h2 := Array.all_eq_true_iff_forall_mem.1 h1 e hem
          cases hb : Region.binds .any e with
          | false => rfl
          | true =>
            have h3 : e.on < k := by simpa [hb] using h2
            rw [ih e.on h3 (by omega)]; rfl
      rw [h] at hm; cases hm

theorem any_sound {N : Nat} {Q : Exit → Act → World → Prop} {a0 : Act} {w0 : World} {μ0 : Mu} (hC : OrOk P B C) (hp : Plan P C ops S val) (hd : ∀ o ∈ ops.toList, ∀ d, o.dst = some d → d < N)
    (hQ : ∀ a w μ, μ0.le μ → EnvR μ (S ops.size).1.get a.tmps → a.defers = a0.defers → a.tmps.size = a0.tmps.size → Sim μ (S ops.size).2 w B → Below B w0 w → Q .normal a w) :
    ∀ (fuel : Nat) (listed : Array Bool) (a : Act) (w : World) (μ : Mu), cntU (fun k => listed.getD k false) ops.size ≤ fuel → Inv P ops S val N B a0 w0 μ0 listed a w μ → wpAny P .any ops Q fuel listed a w := by
  have fin : ∀ (listed : Array Bool) (a : Act) (w : World) (μ : Mu), (∀ k, k < ops.size → listed.getD k false = true) → Inv P ops S val N B a0 w0 μ0 listed a w μ → Q .normal a w := by
    intro listed a w μ hall h
    refine hQ a w μ h.le ?_ h.defers h.tsize ?_ h.below
    · intro t
      have := h.env t
      rw [fenv_eq (P := P) (C := C) hp.st (Nat.le_refl _) (fun k hk _ => hall k hk)] at this
      exact this
    · have := h.sim
      rw [hOf_eq (fun k hk => hp.same k hk) (fun k hk _ => hall k hk)] at this
      exact this
  intro fuel
  induction fuel with
  | zero =>
    intro listed a w μ hc h
    have hall := cnt_zero (Nat.le_zero.1 hc)
    refine ⟨?_, fin listed a w μ hall h⟩
    cases hr : Region.ready .any ops listed with
    | nil => rfl
    | cons i r =>
      exfalso
      obtain ⟨o, ho, hl, _⟩ := ready_mem (ops := ops) (i := i) (by rw [hr]; simp) h.size
      rw [hall i (Array.getElem?_eq_some_iff.1 ho).1] at hl; cases hl
  | succ fuel ih =>
    intro listed a w μ hc h
    refine ⟨fun hr => fin listed a w μ (ready_nil hp.edges h.size hr) h, ?_⟩
    intro i hi
    obtain ⟨o, ho, hl, hpre⟩ := ready_mem hi h.size
    have hin : i < ops.size := (Array.getElem?_eq_some_iff.1 ho).1
    have hilt : i < listed.size := by rw [h.size]; exact hin
    -- the set with i
    have hset : ∀ k, (listed.setIfInBounds i true).getD k false = if k = i then true else listed.getD k false := by
      intro k
      rw [Array.getD_eq_getD_getElem?, Array.getElem?_setIfInBounds]
      by_cases e : i = k
      · subst e; simp [hilt]
      · rw [if_neg e, if_neg (Ne.symm e), Array.getD_eq_getD_getElem?]
    have hshut : ∀ (j : Nat) (o' : Oper), ops[j]? = some o' → (listed.setIfInBounds i true).getD j false = true → ∀ e ∈ o'.after, Region.binds .any e = true → (listed.setIfInBounds i true).getD e.on false = true := by
      intro j o' ho' hj e he hb
      rw [hset] at hj ⊢
      by_cases e1 : e.on = i
      · rw [if_pos e1]
      · rw [if_neg e1]
        by_cases e2 : j = i
        · subst e2; rw [ho] at ho'; cases ho'; exact hpre e he hb
        · rw [if_neg e2] at hj; exact h.shut j o' ho' hj e he hb
    have hlow : ∀ k, k < i → listed.getD k false = false → bef (Region.before ops) k i = false := by
      intro k hk hlk
      cases hb : bef (Region.before ops) k i with
      | false => rfl
      | true =>
        have := bef_closed (L := fun k => (listed.setIfInBounds i true).getD k false) hshut i (by show (listed.setIfInBounds i true).getD i false = true; rw [hset, if_pos rfl]) k hb
        simp only [hset, if_neg (show k ≠ i by omega), hlk] at this
        cases this
    have hhigh : ∀ k, listed.getD k false = true → bef (Region.before ops) i k = false := by
      intro k hk
      cases hb : bef (Region.before ops) i k with
      | false => rfl
      | true =>
        have := bef_closed (L := fun k => listed.getD k false) h.shut k hk i hb
        simp only [hl] at this; cases this
    obtain ⟨c1, c2, c3, c4⟩ := hp.comes (L := fun k => listed.getD k false) ho hl hlow hhigh
    have hdst : ∀ t, o.dst = some t → t < a.tmps.size := fun t ht => Nat.lt_of_lt_of_le (hd o (by simpa using Array.mem_of_getElem? ho) t ht) h.tmps
    have hdo : dstOf ops i = o.dst := by simp [dstOf, ho]
    have hcnt : cntU (fun k => (listed.setIfInBounds i true).getD k false) ops.size ≤ fuel := by
      have := cnt_up (L := fun k => listed.getD k false) (L' := fun k => (listed.setIfInBounds i true).getD k false) hin hl (by simp [hset]) (fun k hk => by simp [hset, hk])
      omega
    -- the environment behind it
    have hfe : ∀ t, fenv ops S val (fun k => (listed.setIfInBounds i true).getD k false) ops.size t = if o.dst = some t then val i else fenv ops S val (fun k => listed.getD k false) ops.size t := by
      intro t
      rw [fenv_up (L := fun k => listed.getD k false) (L' := fun k => (listed.setIfInBounds i true).getD k false) hin (by simp [hset]) (fun k hk => by simp [hset, hk]) (fun e k h1 h2 h3 => c2 t (by rw [← hdo]; exact e) k h1 h2 h3), hdo]
    have hst := hp.st i o ho
    have haw : awantF ops o (fenv ops S val (fun k => listed.getD k false) ops.size) = awant ops o (S i).1 := by
      rw [← awantF_get]; exact awantF_congr c1
    have next : ∀ (v' : Value) (μ' : Mu) (w' : World), μ.le μ' → VR μ' (val i) v' → Sim μ' (hOf ops S (fun k => (listed.setIfInBounds i true).getD k false) ops.size) w' B → Below B w w' →
        wpAny P .any ops Q fuel (listed.setIfInBounds i true) (a.put o.dst v') w' := by
      intro v' μ' w' hle hv hS' hB
      refine ih _ _ _ μ' hcnt ⟨by simp [h.size], hshut, ?_, hS', by rw [put_size]; exact h.tmps, by rw [put_size]; exact h.tsize, by rw [put_defers]; exact h.defers, h.below.trans hB, Mu.le_trans h.le hle⟩
      have := EnvR.put (h.env.mono hle) hv o.dst hdst
      intro t
      rw [hfe]; exact this t
    unfold wpOp
    rw [ho]
    simp only
    rcases hst.2 with ⟨hw, _⟩ | ⟨hw, hval, _⟩
    · rw [awant_sound h.env (by rw [haw]; exact hw), if_pos rfl]
      left
      have hx := c3 hw
      rw [← aexecF_congr c1] at hx
      refine aexec_sound hC h.sim h.env hx ?_
      intro v' μ' w' hle hv hS' hB
      refine next v' μ' w' hle hv ?_ hB
      by_cases hew : effW ops S i = true
      · rw [if_pos hew] at hS'
        have : hOf ops S (fun k => (listed.setIfInBounds i true).getD k false) ops.size = (S (i + 1)).2 := by
          rw [hOf_cut (i := i + 1) (by omega), hOf, if_pos ⟨by simp [hset], hew⟩]
          intro k h1 h2 h3
          simp only [hset, if_neg (show k ≠ i by omega)]
          exact c4 hew k (by omega) h2 h3
        rw [this]; exact hS'
      · rw [if_neg hew] at hS'
        have : hOf ops S (fun k => (listed.setIfInBounds i true).getD k false) ops.size = hOf ops S (fun k => listed.getD k false) ops.size := by
          refine hOf_same fun k hk he => ?_
          by_cases e : k = i
          · subst e; exact absurd he hew
          · simp [hset, e]
        rw [this]; exact hS'
    · rw [awant_sound h.env (by rw [haw]; exact hw)]
      simp only [Bool.false_eq_true, if_false]
      have hew : effW ops S i = false := by simp [effW, ho, hw]
      refine next undef μ w μ.le_refl (by rw [hval]; exact VRs.tuple (c := #[]) (c' := #[]) .nil) ?_ (Below.refl _ _)
      have : hOf ops S (fun k => (listed.setIfInBounds i true).getD k false) ops.size = hOf ops S (fun k => listed.getD k false) ops.size := by
        refine hOf_same fun k hk he => ?_
        by_cases e : k = i
        · subst e; rw [hew] at he; cases he
        · simp [hset, e]
      rw [this]; exact h.sim

theorem draw_sound {N id : Nat} {E E' : Env} {Q : Exit → Act → World → Prop} {a : Act} (hC : OrOk P B C) (hm : P.follows .mixedOrders = true) (hok : okRegion N ops true = true) (hrun : runRegion P C ops true E H = some (E', H'))
    (hN : N ≤ a.tmps.size) (hS : Sim μ H w B) (hE : EnvR μ E.get a.tmps)
    (hQ : ∀ a' w' μ', μ.le μ' → EnvR μ' E'.get a'.tmps → a'.defers = a.defers → a'.tmps.size = a.tmps.size → Sim μ' H' w' B → Below B w w' → Q .normal a' w') : (Code.region id ops true).wp P Q a w := by
  simp only [okRegion, Bool.and_eq_true, Bool.not_true, Bool.false_or, List.all_eq_true] at hok
  obtain ⟨hdst, hdraw⟩ := hok
  obtain ⟨S, val, hp, h0, hn⟩ := Plan.of (P := P) (C := C) hdraw hrun
  refine wp_region_any hm ?_
  have hlist : ∀ k, (Array.replicate ops.size false).getD k false = false := by
    intro k
    rw [Array.getD_eq_getD_getElem?, Array.getElem?_replicate]
    split <;> rfl
  have hbelow : Below B w { w with drawn := w.drawn + 1 } := (Below.refl B w).drew
  refine any_sound (a0 := a) (w0 := w) (μ0 := μ) hC hp (N := N) ?_ ?_ ops.size _ a _ μ ?_ ⟨by simp, ?_, ?_, ?_, hN, rfl, rfl, hbelow, μ.le_refl⟩
  · intro o ho d hd
    have := hdst o ho
    rw [hd] at this
    simpa using this
  · intro a' w' μ' h1 h2 h3 h4 h5 h6
    rw [hn] at h2 h5
    exact hQ a' w' μ' h1 h2 h3 h4 h5 h6
  · have : ∀ m, cntU (fun k => (Array.replicate ops.size false).getD k false) m ≤ m := by
      intro m
      induction m with
      | zero => exact Nat.le_refl _
      | succ m ih => rw [cntU]; split <;> omega
    exact this _
  · intro j o _ hj
    rw [hlist] at hj; cases hj
  · intro t
    rw [fenv_cut (i := 0) (by omega) (fun k _ _ _ => hlist k)]
    show VR μ ((S 0).1.get t) _
    rw [h0]; exact hE t
  · rw [hOf_cut (i := 0) (by omega) (fun k _ _ _ => hlist k)]
    show Sim μ (S 0).2 _ B
    rw [h0]; exact hS.heap rfl

end Go.Proofs.YtpenlcigickkbaaA.Am
