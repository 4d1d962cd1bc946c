/-
A closed function that answers true, told by an oracle: it answers true on every heap, and leaves it as it was.
-/
import Derived.Test.YtgakioiplkehgaaAmSound
open Go.RowKit
namespace Go.Proofs.YtgakioiplkehgaaA.Am

variable {P : Program} {μ : Mu} {H H' : Heap} {w : World} {B : Nat}

theorem Sim.below {w' : World} (h : Sim P μ H w B) (b : Below w.heap.size w w') : Sim P μ H w' B :=
  ⟨Nat.le_trans h.base b.size, fun i c hi => by
    obtain ⟨l, hl, hb⟩ := h.ok i c hi
    exact ⟨l, hl, hb.heap (b.block _ hb.lt)⟩, h.dom, h.inj, h.own, h.oth.keep μ.le_refl (fun _ _ h => h) (fun k x hk _ => (b.block _ (Array.getElem?_eq_some_iff.1 hk).1).trans hk), h.hol⟩

theorem closed_told {bad : List FuncId} {m : Nat} {k : FuncId} {Hk : Heap} (hok : okProg P bad = true) (hk : acall P bad noG m k [] [] = some (.bool true, Hk)) (B : Nat) (H : Heap) :
    (∃ fn, P.funcs[k]? = some fn ∧ fn.body.isSome = true ∧ (fn.name == "runtime.NumGoroutine") = false) ∧ Comes' P B k [] H (.bool true) H := by
  have hlt : k < P.funcs.size := acall_lt (Sim.empty default) (fun _ h => by simp [noG] at h) hk
  refine ⟨(((acall_sound (B := 0) hok (G := noG) noG_hole (fun f args H v H' _ h => by simp [noG] at h) m).told k [] [] _ Hk hk).1 hlt).1, ?_⟩
  intro μ w args' hS ha
  have hs := acall_sound (B := w.heap.size) hok (G := noG) noG_hole (fun f args H v H' _ h => by simp [noG] at h) m |>.told k [] [] _ Hk hk
  have ha0 : args' = [] := by
    have := ha.1
    simpa using this.symm
  subst ha0
  refine ((hs.1 hlt).2 _ w [] (Sim.empty w) .nil).mono ?_
  rintro e w' ⟨v', μ', rfl, _, hv, _, hb⟩
  rw [hv.bool]
  exact ⟨_, μ, rfl, μ.le_refl, .plain _ rfl, hS.below hb.below, ⟨hb.below.mono hS.base, hb.loops, hb.dfr, hb.size⟩⟩

def knownG (ks : List FuncId) : Oracle := fun f args H => if ks.contains f = true ∧ args.isEmpty = true then some (.bool true, H) else none

theorem knownG_hole {ks : List FuncId} : HoleOk (knownG ks) := fun f args H i b hf v H' h => by
  unfold knownG at h ⊢
  split at h
  · rename_i hc; cases h; rw [if_pos hc]; exact ⟨hf, rfl⟩
  · cases h
/-- A law that asks closed functions 'known': they may be told. -/
theorem law_true_known {bad ks : List FuncId} {m n : Nat} {f : FuncId} {args args' : List Value} (hok : okProg P bad = true) (hok' : okProg P (ks ++ bad) = true)
    (hk : (ks.all fun k => (acall P bad noG m k [] []).any fun r => eqV r.1 (.bool true)) = true) (h : acall P (ks ++ bad) (knownG ks) n f args H = some (.bool true, H')) (hS : Sim P μ H w w.heap.size) (ha : VRs μ args args') :
    Calls P f args'.toArray w fun e w' => e = .returned (.bool true) ∧ Below w.heap.size w w' := by
  have hG : ∀ f1 args1 H1 v1 H1', (ks ++ bad).contains f1 = true → knownG ks f1 args1 H1 = some (v1, H1') →
      (∃ fn, P.funcs[f1]? = some fn ∧ fn.body.isSome = true ∧ (fn.name == "runtime.NumGoroutine") = false) ∧ Comes' P w.heap.size f1 args1 H1 v1 H1' := fun f1 args1 H1 v1 H1' _ h1 => by
    unfold knownG at h1
    split at h1
    · rename_i h2
      obtain ⟨h3, h2⟩ := h2
      have h2 : args1 = [] := by simpa using h2
      subst h2
      cases h1
      have hm := List.all_eq_true.1 hk f1 (by simpa using h3)
      cases hr : acall P bad noG m f1 [] [] with
      | none => rw [hr] at hm; simp at hm
      | some r =>
        obtain ⟨v, Hk⟩ := r
        rw [hr] at hm
        have hv : v = .bool true := by
          simp only [Option.any_some, eqV] at hm
          cases v <;> simp_all [eqV1]
        subst hv
        exact closed_told hok hr _ _
    · cases h1
  have hs := (acall_sound (B := w.heap.size) hok' knownG_hole hG n).told f args H _ H' h
  have hlt : f < P.funcs.size := acall_lt hS (fun hb h => by
    obtain ⟨⟨fn, hfn, _⟩, _⟩ := hG _ _ _ _ _ hb h
    exact (Array.getElem?_eq_some_iff.1 hfn).1) h
  refine ((hs.1 hlt).2 μ w args' hS ha).mono ?_
  rintro e w' ⟨v', μ', rfl, _, hv, _, hb⟩
  exact ⟨by rw [hv.bool], hb.below⟩


/-- A row that came in, as a block that is only read. -/
theorem Sim.ro (h : Sim P μ H w B) (hall : ∀ i b, H.get i = some b → b.ro = true) {a o : Nat} {arr : Array Value} {ty : TypeId} {fz : Nat × Nat} (hrow : w.heap[a]? = some (.cells arr ty fz))
    (cs : List Value) (t : TypeId) (h1c : cs.all oneCell = true) (hle : o + cs.length ≤ arr.size) (hv : VRs μ cs ((arr.toList.drop o).take cs.length)) :
    μ.le (μ.up H.length ⟨a, o, arr.size, 1⟩) ∧ Sim P (μ.up H.length ⟨a, o, arr.size, 1⟩) (H.new ⟨cs, t, 1, true⟩) w B ∧ (∀ i b, (H.new ⟨cs, t, 1, true⟩).get i = some b → b.ro = true) := by
  have hle' := Mu.le_up (l := ⟨a, o, arr.size, 1⟩) (h.dom H.length (Nat.le_refl _))
  have hall' : ∀ i b, (H.new ⟨cs, t, 1, true⟩).get i = some b → b.ro = true := by
    intro i b hb
    rcases Heap.get_new hb with ⟨rfl, rfl⟩ | ⟨hi, hb⟩
    · rfl
    · exact hall i b hb
  refine ⟨hle', ⟨h.base, ?_, ?_, ?_, ?_, h.oth.keep hle' (fun _ _ => Heap.oth_new) (fun _ _ h _ => h), fun k hk => by obtain ⟨h1, h2⟩ := Heap.hole_new hk; rw [Mu.up_ne (by omega)]; exact h.hol k h1⟩, hall'⟩
  · intro i b hb
    rcases Heap.get_new hb with ⟨rfl, rfl⟩ | ⟨hi, hb⟩
    · have h0 : (true = false → fz = (0, 0)) := fun e => by cases e
      exact ⟨_, Mu.up_self, rfl, h1c, (fun e => by cases e), arr, ty, fz, hrow, rfl, h0, hle, hv.mono hle'⟩
    · obtain ⟨l, h1, h2⟩ := h.ok i b hb
      exact ⟨l, hle' _ _ h1, h2.mono hle'⟩
  · intro i hi
    rw [Heap.length_new] at hi
    rw [Mu.up_ne (by omega)]; exact h.dom i (by omega)
  · intro i j b c l m hb hc hl hm hij hro
    rw [hall' i b hb] at hro; cases hro
  · intro i b l hb hro hl
    rw [hall' i b hb] at hro; cases hro


theorem ints_row {k : IntKind} {b off : Nat} {zs : List Int} (h : ∀ j, j < zs.length → w.cell? ⟨b, off + j, none⟩ = some (.int k (zs.getD j 0))) (hp : 0 < zs.length) :
    ∃ arr ty fz, w.heap[b]? = some (.cells arr ty fz) ∧ off + zs.length ≤ arr.size ∧ ∀ j, j < zs.length → arr[off + j]? = some (.int k (zs.getD j 0)) := by
  have h0 := h 0 hp
  simp only [World.cell?] at h0
  cases hb : w.heap[b]? with
  | none => rw [hb] at h0; simp at h0
  | some ob =>
    cases ob with
    | cells arr ty fz =>
      have hall : ∀ j, j < zs.length → arr[off + j]? = some (.int k (zs.getD j 0)) := by
        intro j hj
        have := h j hj
        simp only [World.cell?, hb] at this
        simpa using this
      refine ⟨arr, ty, fz, rfl, ?_, hall⟩
      have := hall (zs.length - 1) (by omega)
      have := (Array.getElem?_eq_some_iff.1 this).1
      omega
    | _ => rw [hb] at h0; simp at h0
theorem VRs.ints {k : IntKind} {arr : Array Value} {off : Nat} {zs : List Int} (h : ∀ j, j < zs.length → arr[off + j]? = some (.int k (zs.getD j 0))) (n : Nat) (hn : n ≤ zs.length) :
    VRs μ ((zs.take n).map (.int k)) ((arr.toList.drop off).take ((zs.take n).map (Value.int k)).length) := by
  have hl : ((zs.take n).map (Value.int k)).length = n := by simp; omega
  rw [hl]
  have e : (arr.toList.drop off).take n = (zs.take n).map (Value.int k) := by
    apply List.ext_getElem?
    intro j
    by_cases hj : j < n
    · rw [List.getElem?_take, if_pos hj, List.getElem?_drop, List.getElem?_map, List.getElem?_take, if_pos hj]
      have := h j (by omega)
      rw [Array.getElem?_toList, this]
      rw [List.getElem?_eq_getElem (by omega)]
      simp [List.getD_eq_getElem?_getD, List.getElem?_eq_getElem (show j < zs.length by omega)]
    · rw [List.getElem?_take, if_neg hj, List.getElem?_map, List.getElem?_take, if_neg hj]; rfl
  rw [e]
  exact ⟨rfl, fun j u hj => ⟨u, hj, .plain _ (by
    rw [List.getElem?_map] at hj
    cases hx : (zs.take n)[j]? with
    | none => rw [hx] at hj; cases hj
    | some x => rw [hx] at hj; cases hj; rfl)⟩⟩


/-- A slice of ints that came in: its block, if it has a cell; what it is to the abstract machine. -/
theorem Sim.ints (h : Sim P μ H w B) (hall : ∀ i b, H.get i = some b → b.ro = true) {k : IntKind} {b off len cap : Nat} {zs : List Int} (hle : len ≤ zs.length) (hcap : zs.length = cap) (hp : 0 < cap)
    (hc : ∀ j, j < zs.length → w.cell? ⟨b, off + j, none⟩ = some (.int k (zs.getD j 0))) (t : TypeId) :
    ∃ μ', μ.le μ' ∧ Sim P μ' (H.new ⟨(zs.take len).map (.int k), t, 1, true⟩) w B ∧ (∀ i c, (H.new ⟨(zs.take len).map (.int k), t, 1, true⟩).get i = some c → c.ro = true) ∧
      VR μ' (.slice (some ⟨H.length, 0, none⟩) len len) (.slice (some ⟨b, off, none⟩) len cap) := by
  obtain ⟨arr, ty, fz, hrow, hsz, hall2⟩ := ints_row hc (by omega)
  have hl : ((zs.take len).map (Value.int k)).length = len := by simp; omega
  obtain ⟨h1, h2, h3⟩ := h.ro hall hrow ((zs.take len).map (.int k)) t (List.all_eq_true.2 fun v hv => by obtain ⟨x, _, rfl⟩ := List.mem_map.1 hv; rfl) (by rw [hl]; omega) (VRs.ints hall2 len hle)
  refine ⟨_, h1, h2, h3, ?_⟩
  have := VR.slice (μ := μ.up H.length ⟨b, off, arr.size, 1⟩) H.length 0 len len cap ⟨b, off, arr.size, 1⟩ Mu.up_self (Nat.le_refl _) (by omega) (by simp; omega)
  simpa using this


theorem get_none {i : Nat} : Heap.get (H ++ [.dead]) i = H.get i := by
  unfold Heap.get
  by_cases h : i < H.length
  · rw [List.getElem?_append_left h]
  · rw [List.getElem?_append_right (by omega), List.getElem?_eq_none (show H.length ≤ i by omega)]
    by_cases h2 : i - H.length = 0
    · rw [h2]; rfl
    · rw [List.getElem?_eq_none (by simp; omega)]
theorem oth_none {i : Nat} : Heap.oth (H ++ [.dead]) i = H.oth i := by
  unfold Heap.oth
  by_cases h : i < H.length
  · rw [List.getElem?_append_left h]
  · rw [List.getElem?_append_right (by omega), List.getElem?_eq_none (show H.length ≤ i by omega)]
    by_cases h2 : i - H.length = 0
    · rw [h2]; rfl
    · rw [List.getElem?_eq_none (by simp; omega)]
/-- A slice without a cell that came in. -/
theorem Sim.none (h : Sim P μ H w B) (hall : ∀ i b, H.get i = some b → b.ro = true) (a : Addr) :
    Sim P μ (H ++ [.dead]) w B ∧ (∀ i b, Heap.get (H ++ [.dead]) i = some b → b.ro = true) ∧ VR μ (.slice (some ⟨H.length, 0, none⟩) 0 0) (.slice (some a) 0 0) := by
  refine ⟨⟨h.base, fun i b hb => h.ok i b (by rwa [get_none] at hb), fun i hi => h.dom i (by simp at hi; omega), fun i j b c l m hb hc => ?_, fun i b l hb => ?_, h.oth.keep μ.le_refl (fun i o hi => by rwa [oth_none] at hi) (fun _ _ h _ => h), fun k hk => h.hol k (by
    by_cases e : k < H.length
    · rwa [List.getElem?_append_left e] at hk
    · have hl := (List.getElem?_eq_some_iff.1 hk).1
      have : k = H.length := by simp at hl; omega
      subst this; simp at hk)⟩, fun i b hb => hall i b (by rwa [get_none] at hb), .slice0 _ _ _⟩
  · rw [get_none] at hb hc; exact h.inj i j b c l m hb hc
  · rw [get_none] at hb; exact h.own i b l hb

end Go.Proofs.YtgakioiplkehgaaA.Am
