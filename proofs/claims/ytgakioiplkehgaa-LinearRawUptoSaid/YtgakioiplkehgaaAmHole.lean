/-
A number that is kept free: what is done without its block is done with it alike, and leaves the block as it is.
-/
import Derived.Test.YtgakioiplkehgaaAmRel
namespace Go.Proofs.YtgakioiplkehgaaA.Am
variable {P : Program} {H H' : Heap} {i : Nat} {b : Blk}

/-- Number i is free. -/
def Free (H : Heap) (i : Nat) : Prop := H[i]? = some .hole
/-- .. and its block laid. -/
def Heap.lay (H : Heap) (i : Nat) (b : Blk) : Heap := H.set i (.blk b)
theorem Free.lt (h : Free H i) : i < H.length := (List.getElem?_eq_some_iff.1 h).1
theorem Free.get (h : Free H i) : H.get i = none := by unfold Heap.get; rw [h]
theorem Free.oth (h : Free H i) : H.oth i = none := by unfold Heap.oth; rw [h]
@[simp] theorem lay_len : (H.lay i b).length = H.length := by simp [Heap.lay]
theorem get_lay (hf : Free H i) {j : Nat} {c : Blk} (h : H.get j = some c) : (H.lay i b).get j = some c := by
  have e : j ≠ i := by rintro rfl; rw [hf.get] at h; cases h
  rw [← h]; exact Heap.get_congr (List.getElem?_set_ne (Ne.symm e))
theorem oth_lay (hf : Free H i) {j : Nat} {o : Other} (h : H.oth j = some o) : (H.lay i b).oth j = some o := by
  have e : j ≠ i := by rintro rfl; rw [hf.oth] at h; cases h
  rw [← h]; exact Heap.oth_congr (List.getElem?_set_ne (Ne.symm e))
theorem Free.ne_get (hf : Free H i) {j : Nat} {c : Blk} (h : H.get j = some c) : j ≠ i := by rintro rfl; rw [hf.get] at h; cases h
theorem Free.ne_oth (hf : Free H i) {j : Nat} {c : Other} (h : H.oth j = some c) : j ≠ i := by rintro rfl; rw [hf.oth] at h; cases h
theorem Free.set (hf : Free H i) {j : Nat} (h : j ≠ i) (s : Slot) : Free (H.set j s) i := by
  unfold Free; rw [List.getElem?_set_ne h]; exact hf
theorem Free.new (hf : Free H i) (c : Blk) : Free (H.new c) i := by
  unfold Free Heap.new; rw [List.getElem?_append_left hf.lt]; exact hf
theorem Free.newO (hf : Free H i) (c : Other) : Free (H.newO c) i := by
  unfold Free Heap.newO; rw [List.getElem?_append_left hf.lt]; exact hf
theorem Free.app (hf : Free H i) (T : Heap) : Free (H ++ T) i := by
  unfold Free; rw [List.getElem?_append_left hf.lt]; exact hf
theorem lay_new (hf : Free H i) (c : Blk) : (H.lay i b).new c = (H.new c).lay i b := by
  unfold Heap.lay Heap.new; rw [List.set_append_left _ _ hf.lt]
theorem lay_newO (hf : Free H i) (c : Other) : (H.lay i b).newO c = (H.newO c).lay i b := by
  unfold Heap.lay Heap.newO; rw [List.set_append_left _ _ hf.lt]
theorem lay_app (hf : Free H i) (T : Heap) : (H.lay i b) ++ T = Heap.lay (H ++ T) i b := by
  unfold Heap.lay; rw [List.set_append_left _ _ hf.lt]
theorem lay_set {j : Nat} (h : j ≠ i) (s : Slot) : (H.lay i b).set j s = Heap.lay (H.set j s) i b := by
  unfold Heap.lay; rw [List.set_comm _ _ (Ne.symm h)]
theorem lay_put {j : Nat} (h : j ≠ i) (c : Blk) : (H.lay i b).put j c = (H.put j c).lay i b := lay_set h _
theorem lay_putO {j : Nat} (h : j ≠ i) (c : Other) : (H.lay i b).putO j c = (H.putO j c).lay i b := lay_set h _
theorem lay_kill {j : Nat} (h : j ≠ i) : (H.lay i b).kill j = (H.kill j).lay i b := lay_set h _

/-- What is told with the number free is told with its block. -/
def Up (i : Nat) (b : Blk) (H : Heap) (x y : Option (Value × Heap)) : Prop :=
  Free H i → ∀ v H', x = some (v, H') → Free H' i ∧ y = some (v, H'.lay i b)
theorem Up.same {x : Option Value} {y : Option Value} (h : Free H i → ∀ v, x = some v → y = some v) : Up i b H (x.map (·, H)) (y.map (·, H.lay i b)) := by
  intro hf v H' e
  rw [Option.map_eq_some_iff] at e
  obtain ⟨u, hu, e⟩ := e
  cases e
  exact ⟨hf, by rw [h hf _ hu]; rfl⟩

theorem ldCells_lay (hf : Free H i) {j off n : Nat} {vs : List Value} (h : ldCells H j off n = some vs) : ldCells (H.lay i b) j off n = some vs := by
  unfold ldCells at h ⊢
  split at h
  · rename_i c hc; rw [get_lay hf hc]; exact h
  · cases h
theorem stCells_lay (hf : Free H i) {j off : Nat} {vs : List Value} (h : stCells H j off vs = some H') : Free H' i ∧ stCells (H.lay i b) j off vs = some (H'.lay i b) := by
  unfold stCells at h ⊢
  split at h
  · rename_i c hc
    rw [get_lay hf hc]
    split at h
    · rename_i hcond
      cases h
      simp only [hcond, if_true]
      exact ⟨hf.set (hf.ne_get hc) _, by rw [lay_put (hf.ne_get hc)]⟩
    · cases h
  · cases h
theorem ldVar_lay (hf : Free H i) {t : TypeId} {p v : Value} (h : ldVar P t p H = some v) : ldVar P t p (H.lay i b) = some v := by
  unfold ldVar at h ⊢
  split at h
  · split at h
    · split at h
      · split at h
        · rename_i vs hv; rw [ldCells_lay hf hv]; exact h
        · cases h
      · cases h
    · split at h
      · rename_i c hc; rw [get_lay hf hc]; exact h
      · cases h
    · cases h
  · cases h
theorem stVar_lay (hf : Free H i) {t : TypeId} {p v : Value} (h : stVar P t p v H = some H') : Free H' i ∧ stVar P t p v (H.lay i b) = some (H'.lay i b) := by
  unfold stVar at h ⊢
  split at h
  · split at h
    · split at h
      · rename_i hc; simp only [hc, and_self, if_true]; exact stCells_lay hf h
      · cases h
    · cases h
  · cases h
theorem srcCells_lay (hf : Free H i) {size n : Nat} {x : Value} {cs : List Value} (h : srcCells H size n x = some cs) : srcCells (H.lay i b) size n x = some cs := by
  unfold srcCells at h ⊢
  split at h
  · split at h
    · rename_i h0; rw [if_pos h0]; exact h
    · rename_i h0; rw [if_neg h0]; exact ldCells_lay hf h
  · exact h
  · cases h
theorem agot_lay (hf : Free H i) {t : TypeId} {size bytes : Nat} {z x : Value} {r : Nat × List Value} (h : agot P H t size bytes z x = some r) : agot P (H.lay i b) t size bytes z x = some r := by
  unfold agot at h ⊢
  split at h
  · exact h
  · rw [Option.map_eq_some_iff] at h
    obtain ⟨cs, h1, h2⟩ := h
    rw [srcCells_lay hf h1]; simp [h2]
  · cases h
theorem aappend_lay {ts : Array TypeId} {s x : Value} : Up i b H (aappend P ts s x H) (aappend P ts s x (H.lay i b)) := by
  intro hf v H' h
  unfold aappend at h ⊢
  split at h
  case h_2 => cases h
  split at h
  case h_2 => cases h
  split at h
  case h_2 => cases h
  split at h
  case h_2 => cases h
  rename_i r n new hg
  rw [agot_lay hf hg]
  simp only at h ⊢
  split at h
  · rename_i hle
    rw [if_pos hle]
    split at h
    · cases h; exact ⟨hf, rfl⟩
    · split at h
      · rename_i h0; cases h; rw [if_pos h0]; exact ⟨hf, rfl⟩
      · rename_i h0
        rw [if_neg h0]
        split at h
        · rename_i c hc
          rw [get_lay hf hc]
          simp only
          split at h
          · rename_i he
            rw [if_pos he]
            rw [Option.map_eq_some_iff] at h
            obtain ⟨H2, h1, h2⟩ := h
            cases h2
            obtain ⟨k1, k2⟩ := stCells_lay (b := b) hf h1
            exact ⟨k1, by rw [k2]; rfl⟩
          · cases h
        · cases h
    · cases h
  · rename_i hle
    rw [if_neg hle]
    split at h
    · rename_i hb
      rw [if_pos hb]
      split at h
      · split at h
        · rename_i h0; cases h; rw [if_pos h0]; exact ⟨hf.new _, by rw [lay_new hf, lay_len]⟩
        · cases h
      · split at h
        · rename_i c hc
          rw [get_lay hf hc]
          simp only
          split at h
          · rename_i he
            rw [if_pos he]
            split at h
            · rename_i old hold
              cases h
              rw [ldCells_lay hf hold]
              simp only
              have hk : Free (H.kill _) i := hf.set (hf.ne_get hc) _
              refine ⟨hk.new _, ?_⟩
              rw [lay_kill (hf.ne_get hc), lay_new hk, lay_len]
            · cases h
          · cases h
        · cases h
      · cases h
    · cases h
theorem acopy_lay {ts : Array TypeId} {d s : Value} : Up i b H (acopy P ts d s H) (acopy P ts d s (H.lay i b)) := by
  intro hf v H' h
  unfold acopy at h ⊢
  split at h
  case h_2 => cases h
  split at h
  case h_2 => cases h
  split at h
  case h_2 => cases h
  simp only at h ⊢
  split at h
  case h_2 => cases h
  rename_i cs hcs
  rw [srcCells_lay hf hcs]
  simp only
  split at h
  · cases h; exact ⟨hf, rfl⟩
  · split at h
    · rename_i h0; cases h; rw [if_pos h0]; exact ⟨hf, rfl⟩
    · rename_i h0
      rw [if_neg h0]
      rw [Option.map_eq_some_iff] at h
      obtain ⟨H2, h1, h2⟩ := h
      cases h2
      obtain ⟨k1, k2⟩ := stCells_lay (b := b) hf h1
      exact ⟨k1, by rw [k2]; rfl⟩
  · cases h
theorem aclear_lay {ts : Array TypeId} {x : Value} : Up i b H (aclear P ts x H) (aclear P ts x (H.lay i b)) := by
  intro hf v H' h
  unfold aclear at h ⊢
  split at h
  case h_2 => cases h
  split at h
  case h_2 => cases h
  split at h
  · cases h; exact ⟨hf, rfl⟩
  · split at h
    · rename_i h0; cases h; rw [if_pos h0]; exact ⟨hf, rfl⟩
    · rename_i h0
      rw [if_neg h0]
      rw [Option.map_eq_some_iff] at h
      obtain ⟨H2, h1, h2⟩ := h
      cases h2
      obtain ⟨k1, k2⟩ := stCells_lay (b := b) hf h1
      exact ⟨k1, by rw [k2]; rfl⟩
  · cases h
theorem aslice_lay (hf : Free H i) {t : TypeId} {x v : Value} {lo hi : Option Value} (h : aslice P H t x lo hi = some v) : aslice P (H.lay i b) t x lo hi = some v := by
  unfold aslice at h ⊢
  split at h
  case h_2 => cases h
  split at h
  case h_2 => cases h
  split at h
  case h_2 => cases h
  split at h
  case isFalse => cases h
  rename_i hc
  rw [if_pos hc]
  split at h
  · exact h
  · split at h
    · rename_i c hc; rw [get_lay hf hc]; exact h
    · split at h
      case isFalse => cases h
      rename_i hl0 hh0 hx0 hc0
      cases h
      obtain ⟨g1, g2, g3, g4⟩ := hc
      subst hc0
      split
      · split
        · simp only [Option.some.injEq, Value.slice.injEq, Addr.mk.injEq]
          refine ⟨⟨trivial, ?_, trivial⟩, ?_, ?_⟩
          all_goals first | omega | (rw [show Int.toNat _ = 0 by omega]; omega)
        · rfl
      · rfl
  · cases h
theorem aslice3_lay (hf : Free H i) {t : TypeId} {x v m : Value} {lo hi : Option Value} (h : aslice3 P H t x lo hi m = some v) : aslice3 P (H.lay i b) t x lo hi m = some v := by
  unfold aslice3 at h ⊢
  split at h
  · split at h
    · rename_i hc; rw [if_pos hc]; exact aslice_lay hf h
    · cases h
  · cases h
theorem mlook_lay (hf : Free H i) {q : IntKind} {z m x v : Value} {ok : Bool} (h : mlook q z ok m x H = some v) : mlook q z ok m x (H.lay i b) = some v := by
  unfold mlook at h ⊢
  split at h
  · split at h
    · rename_i hc; rw [oth_lay hf hc]; exact h
    · cases h
  · cases h
theorem alookup_lay (hf : Free H i) {t : TypeId} {m x v : Value} {ok : Bool} (h : alookup P t m x ok H = some v) : alookup P t m x ok (H.lay i b) = some v := by
  unfold alookup at h ⊢
  split at h
  · exact mlook_lay hf h
  · cases h
theorem mlen_lay (hf : Free H i) {m v : Value} (h : mlen m H = some v) : mlen m (H.lay i b) = some v := by
  unfold mlen at h ⊢
  split at h
  · split at h
    · rename_i hc; rw [oth_lay hf hc]; exact h
    · cases h
  · cases h
theorem alen_lay (hf : Free H i) {ts : Array TypeId} {x v : Value} (h : alen P H ts x = some v) : alen P (H.lay i b) ts x = some v := by
  unfold alen at h ⊢
  split at h
  · split at h
    · exact mlen_lay hf h
    · exact h
    · exact h
    · exact h
    · cases h
  · cases h
theorem mput_lay {q : IntKind} {m x u : Value} : Up i b H (mput q m x u H) (mput q m x u (H.lay i b)) := by
  intro hf v H' h
  unfold mput at h ⊢
  split at h
  · split at h
    · rename_i hc
      rw [oth_lay hf hc]
      simp only
      split at h
      · rename_i hq
        cases h
        rw [if_pos hq]
        exact ⟨hf.set (hf.ne_oth hc) _, by rw [lay_putO (hf.ne_oth hc)]⟩
      · cases h
    · cases h
  · cases h
theorem mdel_lay {q : IntKind} {m x : Value} : Up i b H (mdel q m x H) (mdel q m x (H.lay i b)) := by
  intro hf v H' h
  unfold mdel at h ⊢
  split at h
  · split at h
    · rename_i hc
      rw [oth_lay hf hc]
      simp only
      split at h
      · rename_i hq
        cases h
        rw [if_pos hq]
        exact ⟨hf.set (hf.ne_oth hc) _, by rw [lay_putO (hf.ne_oth hc)]⟩
      · cases h
    · cases h
  · cases h
theorem abuiltin_lay {c : Builtin} {ts : Array TypeId} {as : List Value} : Up i b H (abuiltin P c ts as H) (abuiltin P c ts as (H.lay i b)) := by
  intro hf v H' h
  unfold abuiltin at h ⊢
  split at h
  · exact aappend_lay hf v H' h
  · exact acopy_lay hf v H' h
  · exact Up.same (fun hf v h => alen_lay hf h) hf v H' h
  · exact aclear_lay hf v H' h
  · unfold adelete at h ⊢
    split at h
    · exact mdel_lay hf v H' h
    · cases h
  · split at h
    · cases h; exact ⟨hf, rfl⟩
    · cases h
  · split at h
    · rename_i hk; cases h; rw [if_pos hk]; exact ⟨hf, rfl⟩
    · cases h
  · split at h
    · rename_i hk; cases h; rw [if_pos hk]; exact ⟨hf, rfl⟩
    · cases h
  · cases h
theorem abuildSlice_lay {t : TypeId} {n : Nat} {ps : List (Nat × Value)} : Up i b H (abuildSlice P t n ps H) (abuildSlice P t n ps (H.lay i b)) := by
  intro hf v H' h
  unfold abuildSlice at h ⊢
  split at h
  · cases h
  · rename_i h1
    rw [if_neg h1]
    split at h
    · split at h
      · split at h
        · rename_i h2
          rw [if_pos h2]
          split at h
          · cases h; exact ⟨hf.new _, by rw [lay_new hf, lay_len]⟩
          · cases h
        · cases h
      · cases h
    · cases h
theorem amakeSlice_lay {t : TypeId} {l c : Value} : Up i b H (amakeSlice P t l c H) (amakeSlice P t l c (H.lay i b)) := by
  intro hf v H' h
  unfold amakeSlice at h ⊢
  split at h
  · split at h
    · split at h
      · rename_i h2
        rw [if_pos h2]
        cases h; exact ⟨hf.new _, by rw [lay_new hf, lay_len]⟩
      · cases h
    · cases h
  · cases h
theorem newBlk_lay {t : TypeId} {es : Nat} {cs : List Value} : Up i b H (some (newBlk H t es cs)) (some (newBlk (H.lay i b) t es cs)) := by
  intro hf v H' h
  unfold newBlk at h ⊢
  cases h; exact ⟨hf.new _, by rw [lay_new hf, lay_len]⟩
theorem aop_lay {ρ : Operand → Value} {op : Op} : Up i b H (aop P ρ H op) (aop P ρ (H.lay i b) op) := by
  intro hf v H' h
  unfold aop at h ⊢
  split at h <;> try (simp only)
  · cases h; exact ⟨hf, rfl⟩
  · cases h; exact ⟨hf, rfl⟩
  · split at h
    · cases h; exact ⟨hf, rfl⟩
    · cases h
  · split at h
    · exact newBlk_lay hf v H' h
    · cases h
  · split at h
    · rename_i h1; rw [if_pos h1]; exact newBlk_lay hf v H' h
    · cases h
  · exact Up.same (fun _ _ h => h) hf v H' h
  · exact abuildSlice_lay hf v H' h
  · exact Up.same (fun hf _ h => ldVar_lay hf h) hf v H' h
  · rw [Option.map_eq_some_iff] at h
    obtain ⟨H2, h1, h2⟩ := h
    cases h2
    obtain ⟨k1, k2⟩ := stVar_lay (b := b) hf h1
    exact ⟨k1, by rw [k2]; rfl⟩
  · split at h
    · cases h; exact ⟨hf, rfl⟩
    · cases h; exact ⟨hf, rfl⟩
    · cases h
  · exact Up.same (fun _ _ h => h) hf v H' h
  · exact Up.same (fun _ _ h => h) hf v H' h
  · split at h
    · cases h; exact ⟨hf, rfl⟩
    · cases h
  · cases h; exact ⟨hf, rfl⟩
  · exact amakeSlice_lay hf v H' h
  · exact Up.same (fun hf _ h => aslice_lay hf h) hf v H' h
  · exact Up.same (fun hf _ h => aslice3_lay hf h) hf v H' h
  · unfold amakeMap at h ⊢
    split at h
    · unfold mmk at h ⊢
      cases h; exact ⟨hf.newO _, by rw [lay_newO hf, lay_len]⟩
    · cases h
  · exact Up.same (fun hf _ h => alookup_lay hf h) hf v H' h
  · unfold amapUpdate at h ⊢
    split at h
    · exact mput_lay hf v H' h
    · cases h
  · repeat' split at h
    all_goals first | (cases h; exact ⟨hf, rfl⟩) | cases h
  · repeat' split at h
    all_goals first | (exact Up.same (fun _ _ h => h) hf v H' h) | cases h
  · repeat' split at h
    all_goals first | (rename_i hb; cases h; rw [if_pos hb]; exact ⟨hf, rfl⟩) | cases h
  · split at h
    · split at h
      · split at h
        · rename_i hb; rw [if_pos hb]; exact Up.same (fun _ _ h => h) hf v H' h
        · cases h
      · cases h
    · split at h
      · rename_i hb
        rw [if_pos hb]
        rw [Option.map_eq_some_iff] at h
        obtain ⟨u, hu, e⟩ := h
        cases e
        exact ⟨hf, by rw [hu]; rfl⟩
      · cases h
    · cases h
  · repeat' split at h
    all_goals first | (exact Up.same (fun _ _ h => h) hf v H' h) | cases h
  · exact abuiltin_lay hf v H' h
  · cases h

/-- An oracle that does so. -/
def HoleOk (C : Oracle) : Prop := ∀ f args H i b, Up i b H (C f args H) (C f args (H.lay i b))
theorem aexec_lay {C : Oracle} (hC : HoleOk C) {E : Env} {o : Oper} : Up i b H (aexec P C E H o) (aexec P C E (H.lay i b) o) := by
  intro hf v H' h
  unfold aexec at h ⊢
  split at h
  · split at h
    · split at h
      · rename_i h1; rw [if_pos h1]; exact hC _ _ _ _ _ hf v H' h
      · cases h
    · exact hC _ _ _ _ _ hf v H' h
    · cases h
  · exact aop_lay hf v H' h
theorem afill_lay {ρ : Operand → Value} {op : Op} {j : Nat} (hj : j ≠ i) : Up i b H (afill P ρ j H op) (afill P ρ j (H.lay i b) op) := by
  intro hf v H' h
  unfold afill at h ⊢
  have e : (H.lay i b)[j]? = H[j]? := List.getElem?_set_ne (Ne.symm hj)
  rw [e]
  split at h
  · split at h
    · rename_i hb
      cases h
      exact ⟨hf.set hj _, by simp only [lay_set hj]⟩
    · cases h
  · cases h
theorem aexecI_lay {C : Oracle} (hC : HoleOk C) {F : List Nat} {base k : Nat} (hb : i < base) {E : Env} {o : Oper} : Up i b H (aexecI P C F base k E H o) (aexecI P C F base k E (H.lay i b) o) := by
  intro hf v H' h
  unfold aexecI at h ⊢
  split at h
  · rename_i h1; rw [if_pos h1]; exact afill_lay (by omega) hf v H' h
  · rename_i h1; rw [if_neg h1]; exact aexec_lay hC hf v H' h

theorem runOps_lay {C : Oracle} (hC : HoleOk C) {ops : Array Oper} : ∀ (l : List Oper) (E E' : Env) (H H' : Heap), Free H i → runOps P C ops l E H = some (E', H') →
    Free H' i ∧ runOps P C ops l E (H.lay i b) = some (E', H'.lay i b) ∧ trace P C ops l E (H.lay i b) = (trace P C ops l E H).map fun p => (p.1, p.2.lay i b) := by
  intro l
  induction l with
  | nil => intro E E' H H' hf h; simp only [runOps] at h; cases h; exact ⟨hf, rfl, rfl⟩
  | cons o r ih =>
    intro E E' H H' hf h
    simp only [runOps] at h
    split at h
    · rename_i hw
      cases hx : aexec P C E H o with
      | none => rw [hx] at h; cases h
      | some q =>
        obtain ⟨v, H1⟩ := q
        rw [hx] at h
        obtain ⟨f1, e1⟩ := aexec_lay (b := b) hC hf v H1 hx
        obtain ⟨f2, e2, e3⟩ := ih _ _ _ _ f1 h
        exact ⟨f2, by simp only [runOps, hw, e1, e2], by simp only [trace, hw, e1, hx, e3, List.map_cons]⟩
    · rename_i hw
      obtain ⟨f2, e2, e3⟩ := ih _ _ _ _ hf h
      exact ⟨f2, by simp only [runOps, hw, e2], by simp only [trace, hw, e3, List.map_cons]⟩
    · cases h
theorem runOpsI_lay {C : Oracle} (hC : HoleOk C) {F : List Nat} {base : Nat} (hb : i < base) {ops : Array Oper} : ∀ (l : List Oper) (k : Nat) (E E' : Env) (H H' : Heap), Free H i → runOpsI P C F base ops l k E H = some (E', H') →
    Free H' i ∧ runOpsI P C F base ops l k E (H.lay i b) = some (E', H'.lay i b) ∧ traceI P C F base ops l k E (H.lay i b) = (traceI P C F base ops l k E H).map fun p => (p.1, p.2.lay i b) := by
  intro l
  induction l with
  | nil => intro k E E' H H' hf h; simp only [runOpsI] at h; cases h; exact ⟨hf, rfl, rfl⟩
  | cons o r ih =>
    intro k E E' H H' hf h
    simp only [runOpsI] at h
    split at h
    · rename_i hw
      cases hx : aexecI P C F base k E H o with
      | none => rw [hx] at h; cases h
      | some q =>
        obtain ⟨v, H1⟩ := q
        rw [hx] at h
        obtain ⟨f1, e1⟩ := aexecI_lay (b := b) hC hb hf v H1 hx
        obtain ⟨f2, e2, e3⟩ := ih _ _ _ _ _ f1 h
        exact ⟨f2, by simp only [runOpsI, hw, e1, e2], by simp only [traceI, hw, e1, hx, e3, List.map_cons]⟩
    · rename_i hw
      obtain ⟨f2, e2, e3⟩ := ih _ _ _ _ _ hf h
      exact ⟨f2, by simp only [runOpsI, hw, e2], by simp only [traceI, hw, e3, List.map_cons]⟩
    · cases h
/-- All heaps of a run have the number free. -/
theorem trace_free {C : Oracle} (hC : HoleOk C) {ops : Array Oper} : ∀ (l : List Oper) (E E' : Env) (H H' : Heap), Free H i → runOps P C ops l E H = some (E', H') → ∀ p ∈ trace P C ops l E H, Free p.2 i := by
  intro l
  induction l with
  | nil => intro E E' H H' hf _ p hp; simp only [trace, List.mem_singleton] at hp; subst hp; exact hf
  | cons o r ih =>
    intro E E' H H' hf h p hp
    simp only [runOps] at h
    split at h
    · rename_i hw
      cases hx : aexec P C E H o with
      | none => rw [hx] at h; cases h
      | some q =>
        obtain ⟨v, H1⟩ := q
        rw [hx] at h
        obtain ⟨f1, _⟩ := aexec_lay (b := default) hC hf v H1 hx
        simp only [trace, hw, hx] at hp
        rcases List.mem_cons.1 hp with rfl | hp
        · exact hf
        · exact ih _ _ _ _ f1 h p hp
    · rename_i hw
      simp only [trace, hw] at hp
      rcases List.mem_cons.1 hp with rfl | hp
      · exact hf
      · exact ih _ _ _ _ hf h p hp
    · cases h
theorem traceI_free {C : Oracle} (hC : HoleOk C) {F : List Nat} {base : Nat} (hb : i < base) {ops : Array Oper} : ∀ (l : List Oper) (k : Nat) (E E' : Env) (H H' : Heap), Free H i → runOpsI P C F base ops l k E H = some (E', H') → ∀ p ∈ traceI P C F base ops l k E H, Free p.2 i := by
  intro l
  induction l with
  | nil => intro k E E' H H' hf _ p hp; simp only [traceI, List.mem_singleton] at hp; subst hp; exact hf
  | cons o r ih =>
    intro k E E' H H' hf h p hp
    simp only [runOpsI] at h
    split at h
    · rename_i hw
      cases hx : aexecI P C F base k E H o with
      | none => rw [hx] at h; cases h
      | some q =>
        obtain ⟨v, H1⟩ := q
        rw [hx] at h
        obtain ⟨f1, _⟩ := aexecI_lay (b := default) hC hb hf v H1 hx
        simp only [traceI, hw, hx] at hp
        rcases List.mem_cons.1 hp with rfl | hp
        · exact hf
        · exact ih _ _ _ _ _ f1 h p hp
    · rename_i hw
      simp only [traceI, hw] at hp
      rcases List.mem_cons.1 hp with rfl | hp
      · exact hf
      · exact ih _ _ _ _ _ hf h p hp
    · cases h
theorem confOk_lay {ops : Array Oper} {T : List (Env × Heap)} {c : Nat × Nat} (hT : ∀ p ∈ T, Free p.2 i) (h : confOk P ops T c = true) : confOk P ops (T.map fun p => (p.1, p.2.lay i b)) c = true := by
  unfold confOk at h ⊢
  simp only [List.getElem?_map]
  cases h1 : T[c.1]? with
  | none => rw [h1] at h; cases h
  | some p1 =>
    cases h2 : T[c.2]? with
    | none => rw [h1, h2] at h; cases h
    | some p2 =>
      cases h3 : T[c.2 + 1]? with
      | none => rw [h1, h2, h3] at h; cases h
      | some p3 =>
        rw [h1, h2, h3] at h
        obtain ⟨E1, H1⟩ := p1
        obtain ⟨E2, H2⟩ := p2
        obtain ⟨E3, H3⟩ := p3
        simp only [Option.map_some] at h ⊢
        cases h4 : ops[c.1]? with
        | none => rw [h4] at h; cases h
        | some x =>
          cases h5 : ops[c.2]? with
          | none => rw [h4, h5] at h; cases h
          | some y =>
            rw [h4, h5] at h
            simp only at h ⊢
            split at h
            · have f1 := hT _ (List.mem_of_getElem? h1)
              have f2 := hT _ (List.mem_of_getElem? h2)
              have f3 := hT _ (List.mem_of_getElem? h3)
              split at h
              · rename_i u K1 u1 K2 u2 K3 e1 e2 e3
                rw [(aop_lay (b := b) f1 _ _ e1).2, (aop_lay (b := b) f2 _ _ e2).2, (aop_lay (b := b) f3 _ _ e3).2]
                exact h
              · cases h
            · exact h
            · cases h
theorem runRegion_lay {C : Oracle} (hC : HoleOk C) {ops : Array Oper} {draw : Bool} {E E' : Env} (hf : Free H i) (h : runRegion P C ops draw E H = some (E', H')) : Free H' i ∧ runRegion P C ops draw E (H.lay i b) = some (E', H'.lay i b) := by
  unfold runRegion at h ⊢
  cases draw with
  | false =>
    simp only [Bool.false_eq_true, if_false] at h ⊢
    obtain ⟨h1, h2, _⟩ := runOps_lay (b := b) hC _ _ _ _ _ hf h
    exact ⟨h1, h2⟩
  | true =>
    simp only [if_true] at h ⊢
    cases hF : fills P ops with
    | nil =>
      rw [hF] at h
      simp only at h ⊢
      cases hc : confs P ops with
      | nil =>
        rw [hc] at h
        obtain ⟨h1, h2, _⟩ := runOps_lay (b := b) hC _ _ _ _ _ hf h
        exact ⟨h1, h2⟩
      | cons c cs =>
        rw [hc] at h
        simp only at h ⊢
        split at h
        · rename_i hall
          obtain ⟨h1, h2, h3⟩ := runOps_lay (b := b) hC _ _ _ _ _ hf h
          refine ⟨h1, ?_⟩
          rw [if_pos, h2]
          rw [h3]
          rw [List.all_eq_true] at hall ⊢
          exact fun x hx => confOk_lay (trace_free hC _ _ _ _ _ hf h) (hall x hx)
        · cases h
    | cons f F =>
      rw [hF] at h
      have hf' : Free (H.holes (f :: F).length) i := hf.app _
      have e : (H.lay i b).holes (f :: F).length = (H.holes (f :: F).length).lay i b := lay_app hf _
      simp only [lay_len] at h ⊢
      rw [e]
      cases hc : confs P ops with
      | nil =>
        rw [hc] at h
        obtain ⟨h1, h2, _⟩ := runOpsI_lay (b := b) hC hf.lt _ _ _ _ _ _ hf' h
        exact ⟨h1, h2⟩
      | cons c cs =>
        rw [hc] at h
        simp only at h ⊢
        split at h
        · rename_i hall
          obtain ⟨h1, h2, h3⟩ := runOpsI_lay (b := b) hC hf.lt _ _ _ _ _ _ hf' h
          refine ⟨h1, ?_⟩
          rw [if_pos, h2]
          rw [h3]
          rw [List.all_eq_true] at hall ⊢
          exact fun x hx => confOk_lay (traceI_free hC hf.lt _ _ _ _ _ _ hf' h) (hall x hx)
        · cases h

theorem ev_lay {C : Oracle} (hC : HoleOk C) {keep : List Nat} {n : Nat} : ∀ (c : Code) (vs : List Value) (H : Heap) (r : AExit × List Value × Heap), Free H i → ev P C keep n c vs H = some r →
    Free r.2.2 i ∧ ev P C keep n c vs (H.lay i b) = some (r.1, r.2.1, r.2.2.lay i b) := by
  intro c
  induction c with
  | skip => intro vs H r hf h; simp only [ev] at h; cases h; exact ⟨hf, rfl⟩
  | label l => intro vs H r hf h; simp only [ev] at h; cases h; exact ⟨hf, rfl⟩
  | exit id => intro vs H r hf h; simp only [ev] at h; cases h; exact ⟨hf, rfl⟩
  | ret => intro vs H r hf h; simp only [ev] at h; cases h; exact ⟨hf, rfl⟩
  | goto l => intro vs H r hf h; simp only [ev] at h; cases h
  | refuse s => intro vs H r hf h; simp only [ev] at h; cases h
  | rangeFunc g ps x y _ _ =>
    intro vs H r hf h
    simp only [ev] at h ⊢
    split at h
    case h_2 => cases h
    split at h
    case isFalse => cases h
    rename_i hlt
    rw [if_pos hlt, lay_len, lay_newO hf]
    split at h
    · rename_i u H2 hx
      obtain ⟨f1, e1⟩ := hC _ _ _ i b (hf.newO _) _ _ hx
      rw [e1]
      simp only
      cases ho : H2.oth H.length with
      | none => rw [ho] at h; simp [endL] at h
      | some o =>
        have hne : H.length ≠ i := by have := hf.lt; omega
        rw [oth_lay f1 ho, lay_kill hne]
        rw [ho] at h
        have fk : Free (H2.kill H.length) i := f1.set hne _
        unfold endL at h ⊢
        cases o with
        | tab _ _ => cases h
        | loop L s => cases s <;> simp only at h <;> cases h <;> exact ⟨fk, rfl⟩
    · cases h
  | region id ops draw =>
    intro vs H r hf h
    simp only [ev] at h ⊢
    split at h
    · rename_i E H1 hr
      cases h
      obtain ⟨f1, e1⟩ := runRegion_lay (b := b) hC hf hr
      rw [e1]; exact ⟨f1, rfl⟩
    · cases h
  | seq x y ihx ihy =>
    intro vs H r hf h
    simp only [ev] at h ⊢
    cases hx : ev P C keep n x vs H with
    | none => rw [hx] at h; cases h
    | some q =>
      obtain ⟨e1, vs1, H1⟩ := q
      obtain ⟨f1, k1⟩ := ihx _ _ _ hf hx
      rw [hx] at h
      rw [k1]
      cases e1 with
      | normal => exact ihy _ _ _ f1 h
      | exit id => cases h; exact ⟨f1, rfl⟩
      | ret => cases h; exact ⟨f1, rfl⟩
  | cond c x y ihx ihy =>
    intro vs H r hf h
    simp only [ev] at h ⊢
    split at h
    · rename_i t _
      cases t with
      | true => exact ihx _ _ _ hf h
      | false => exact ihy _ _ _ hf h
    · cases h
  | block id c ih =>
    intro vs H r hf h
    simp only [ev] at h ⊢
    cases hx : ev P C keep n c vs H with
    | none => rw [hx] at h; cases h
    | some q =>
      obtain ⟨e1, vs1, H1⟩ := q
      obtain ⟨f1, k1⟩ := ih _ _ _ hf hx
      rw [hx] at h
      rw [k1]
      cases e1 with
      | normal => cases h; exact ⟨f1, rfl⟩
      | ret => cases h; exact ⟨f1, rfl⟩
      | exit id' =>
        simp only at h ⊢
        split at h <;> (rename_i hid; cases h; first | rw [if_pos hid] | rw [if_neg hid]) <;> exact ⟨f1, rfl⟩
  | scope c ih => intro vs H r hf h; simp only [ev] at h ⊢; exact ih _ _ _ hf h
  | loop c ih =>
    intro vs H r hf h
    simp only [ev] at h ⊢
    have key : ∀ k vs H, Free H i → iter k (ev P C keep n c) vs H = some r → Free r.2.2 i ∧ iter k (ev P C keep n c) vs (H.lay i b) = some (r.1, r.2.1, r.2.2.lay i b) := by
      intro k
      induction k with
      | zero => intro vs H _ h; simp only [iter] at h; cases h
      | succ k ihk =>
        intro vs H hf h
        simp only [iter] at h ⊢
        cases hx : ev P C keep n c vs H with
        | none => rw [hx] at h; cases h
        | some q =>
          obtain ⟨e1, vs1, H1⟩ := q
          obtain ⟨f1, k1⟩ := ih _ _ _ hf hx
          rw [hx] at h
          rw [k1]
          cases e1 with
          | normal => exact ihk _ _ f1 h
          | exit id => cases h; exact ⟨f1, rfl⟩
          | ret => cases h; exact ⟨f1, rfl⟩
    exact key n vs H hf h

theorem around_lay {C : Oracle} (hC : HoleOk C) {n j : Nat} {args : List Value} : Up i b H (around P C n j args H) (around P C n j args (H.lay i b)) := by
  intro hf v H' h
  unfold around at h ⊢
  split at h
  case h_2 => cases h
  rename_i L ho
  rw [oth_lay hf ho]
  simp only
  split at h
  case isFalse => cases h
  rename_i hl
  rw [if_pos hl]
  split at h
  case h_2 => cases h
  rename_i vs H1 hx
  obtain ⟨f1, e1⟩ := ev_lay (b := b) hC _ _ _ _ hf hx
  rw [e1]
  simp only
  split at h
  case h_2 => cases h
  rename_i L1 ho1
  rw [oth_lay f1 ho1]
  simp only
  have hne : j ≠ i := f1.ne_oth ho1
  rw [lay_putO hne]
  split at h
  case h_2 => cases h
  rename_i e vs2 H2 hy
  obtain ⟨f2, e2⟩ := ev_lay (b := b) hC _ _ _ _ (f1.set hne (.oth (.loop L1 .busy))) hy
  have e2' : ev P C L.keep n L.body vs ((H1.putO j (.loop L1 .busy)).lay i b) = some (e, vs2, H2.lay i b) := e2
  rw [e2']
  simp only
  unfold endR at h ⊢
  split at h
  case h_2 => cases h
  rename_i L2 ho2
  rw [oth_lay f2 ho2]
  simp only
  cases h
  exact ⟨f2.set hne _, by rw [lay_putO hne]⟩
theorem acall_lay {bad : List FuncId} {G : Oracle} (hG : HoleOk G) : ∀ n, HoleOk (acall P bad G n) := by
  intro n
  induction n with
  | zero => intro f args H i b hf v H' h; simp only [acall] at h; cases h
  | succ n ih =>
    intro f args H i b hf v H' h
    simp only [acall] at h ⊢
    split at h
    · rename_i hb; rw [if_pos hb]; exact hG _ _ _ _ _ hf v H' h
    · rename_i hb
      rw [if_neg hb]
      have res : ∀ (fn : Func) (E : Env) (H2 : Heap) (u : Value), Free H2 i → ares P fn E H2 = some u → ares P fn E (H2.lay i b) = some u := by
        intro fn E H2 u hf h
        unfold ares at h ⊢
        rw [Option.map_eq_some_iff] at h ⊢
        obtain ⟨vs, h1, h2⟩ := h
        refine ⟨vs, ?_, h2⟩
        revert vs
        induction fn.results.toList with
        | nil => intro vs h1 _; exact h1
        | cons r l ihl =>
          intro vs h1 h2
          rw [List.mapM_cons] at h1 ⊢
          simp only [Option.bind_eq_bind, Option.bind_eq_some_iff] at h1 ⊢
          obtain ⟨x, hx, ys, hys, e⟩ := h1
          refine ⟨x, ?_, ys, ?_, e⟩
          · cases r with
            | tmp t => exact hx
            | cell a t => exact ldVar_lay hf hx
          · have : ∀ vs, List.mapM (fun (r : ResultVar) => match r with | .tmp t => some (E.get t) | .cell a t => ldVar P t (E.get a) H2) l = some vs → List.mapM (fun (r : ResultVar) => match r with | .tmp t => some (E.get t) | .cell a t => ldVar P t (E.get a) (H2.lay i b)) l = some vs := by
              clear hys ihl h2 e hx x ys vs
              induction l with
              | nil => intro vs h; exact h
              | cons r l ihl =>
                intro vs h1
                rw [List.mapM_cons] at h1 ⊢
                simp only [Option.bind_eq_bind, Option.bind_eq_some_iff] at h1 ⊢
                obtain ⟨x, hx, ys, hys, e⟩ := h1
                refine ⟨x, ?_, ys, ihl _ hys, e⟩
                cases r with
                | tmp t => exact hx
                | cell a t => exact ldVar_lay hf hx
            exact this _ hys
      split at h
      · split at h
        · rename_i fn hfn c hc
          split at h
          · rename_i vs H2 hev
            obtain ⟨f1, e1⟩ := ev_lay (b := b) ih _ _ _ _ hf hev
            rw [e1]
            simp only
            rw [Option.map_eq_some_iff] at h
            obtain ⟨u, hu, e⟩ := h
            cases e
            exact ⟨f1, by rw [res _ _ _ _ f1 hu]; rfl⟩
          · rename_i vs H2 hev
            obtain ⟨f1, e1⟩ := ev_lay (b := b) ih _ _ _ _ hf hev
            rw [e1]
            simp only
            rw [Option.map_eq_some_iff] at h
            obtain ⟨u, hu, e⟩ := h
            cases e
            exact ⟨f1, by rw [res _ _ _ _ f1 hu]; rfl⟩
          · cases h
        · cases h
      · exact around_lay ih hf v H' h
end Go.Proofs.YtgakioiplkehgaaA.Am
