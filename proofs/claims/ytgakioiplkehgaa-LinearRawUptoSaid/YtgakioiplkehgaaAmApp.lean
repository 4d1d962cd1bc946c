/-
append, copy, len and their kin.
-/
import Derived.Test.YtgakioiplkehgaaAmMake
namespace Go.Proofs.YtgakioiplkehgaaA.Am
open Go.RowKit (Below)
variable {P : Program} {μ : Mu} {H H' : Heap} {w : World} {B : Nat}

theorem Sim.kill {i : Nat} (h : Sim P μ H w B) : Sim P μ (H.kill i) w B := by
  have old : ∀ {j : Nat} {c : Blk}, (H.kill i).get j = some c → H.get j = some c := by
    intro j c hc
    by_cases e : j = i
    · subst e; rw [Heap.get_kill_self] at hc; cases hc
    · rw [Heap.get_kill_ne e] at hc; exact hc
  exact ⟨h.base, fun j c hc => h.ok j c (old hc), fun j hj => h.dom j (by rw [Heap.length_kill] at hj; exact hj),
    fun j k c d l m hc hd => h.inj j k c d l m (old hc) (old hd), fun j c l hc => h.own j c l (old hc), h.oth.keep μ.le_refl (fun _ _ => Heap.oth_kill) (fun _ _ h _ => h), fun k hk => h.hol k (Heap.hole_kill hk).1⟩

theorem growBy_le (newLen : Nat) : ∀ (r c : Nat), c ≤ newLen → Builtin.growBy newLen r c ≤ 2 * newLen + 192
  | 0, c, h => by simp only [Builtin.growBy]; omega
  | r + 1, c, h => by
    simp only [Builtin.growBy]
    split
    · omega
    · by_cases hc : c + (c + 768) / 4 ≤ newLen
      · exact growBy_le newLen r _ hc
      · cases r with
        | zero => simp only [Builtin.growBy]; omega
        | succ r => simp only [Builtin.growBy]; rw [if_pos (by omega)]; omega
theorem nextcap_le {need c : Nat} (h : c < need) : Builtin.nextslicecap need c ≤ 2 * need + 192 := by
  unfold Builtin.nextslicecap
  split
  · omega
  · split
    · omega
    · exact growBy_le need 4 c (by omega)

theorem srcCells_sound {size n c : Nat} {a : Option Addr} {x' : Value} {cs : List Value} (hS : Sim P μ H w B) (hx : VR μ (.slice a n c) x') {m : Nat} (hm : m ≤ n) (h : srcCells H size m (.slice a n c) = some cs) :
    cs.length = m * size ∧ cs.all oneCell = true ∧ ∃ cs', VRs μ cs cs' ∧ ∀ w2, w2.heap = w.heap → (Builtin.firstCells size m x').run P w2 = .ok cs'.toArray w2 := by
  unfold srcCells at h
  split at h
  · rename_i i off _ _ e
    cases e
    by_cases hm0 : m = 0
    · subst hm0
      rw [if_pos rfl] at h
      cases h
      rcases hx.slice_some with ⟨i', off', cap', l, e, hl, g1, g2, g3, rfl⟩ | ⟨i', off', a', e, rfl, rfl, rfl⟩
      · exact ⟨by simp, by simp, [], .nil, fun w2 _ => by simp [Builtin.firstCells, loadCells, loadCellsFrom]⟩
      · exact ⟨by simp, by simp, [], .nil, fun w2 _ => by simp [Builtin.firstCells, loadCells, loadCellsFrom]⟩
    rw [if_neg hm0] at h
    rcases hx.slice_some with ⟨i', off', cap', l, e, hl, g1, g2, g3, rfl⟩ | ⟨i', off', a', e, rfl, rfl, rfl⟩
    · cases e
      obtain ⟨hlen, cs', hv, hc⟩ := hS.ldCells hl h
      refine ⟨hlen, hS.ldOne h, cs', hv, fun w2 he => ?_⟩
      have hr := run_loadCells_list (P := P) w2 ⟨l.b, l.o + off, none⟩ cs' (fun j v hj => by rw [← hc j v hj]; simp [World.cell?, he])
      rw [← hv.1, hlen] at hr
      exact hr
    · omega
  · rename_i e
    cases e
    obtain ⟨rfl, rfl, rfl⟩ := hx.slice_nil
    have hm0 : m = 0 := by omega
    subst hm0
    simp only [if_true] at h
    cases h
    exact ⟨by simp, by simp, [], .nil, fun w2 _ => by simp [Builtin.firstCells]⟩
  · cases h

/-- What is appended: its number, its cells. -/
theorem agot_sound {sType xType elem ty : TypeId} {size bytes n sLen sCap : Nat} {i : TypeInfo} {z x x' : Value} {new : List Value} (hS : Sim P μ H w B) (hx : VR μ x x')
    (hu : P.underlying sType = some (.slice elem)) (hs : szOf P elem = some size) (hi : P.info? elem = some i) (hib : i.bytes = bytes) (hz : zeroOf P elem = some z)
    (h : agot P H xType size bytes z x = some (n, new)) (base : Option Addr) :
    new.length = n * size ∧ new.all oneCell = true ∧ ∃ new', VRs μ new new' ∧
      (sLen + n ≤ sCap → (Builtin.append_ #[sType, xType] ty #[.slice base sLen sCap, x']).run P w =
        ((match base with | some a => storeCells (a.add (sLen * size)) new' | none => pure () : Sem Unit).run P w).andThen fun _ w => .ok (.slice base (sLen + n) sCap) w) ∧
      (¬ sLen + n ≤ sCap → sLen + n ≤ 4294967296 → bytes ≤ 4096 → ∀ old' : List Value, (∀ w2, w2.heap = w.heap → (Builtin.firstCells size sLen (.slice base sLen sCap)).run P w2 = .ok old'.toArray w2) →
        ∃ newCap, sLen + n ≤ newCap ∧ (Builtin.append_ #[sType, xType] ty #[.slice base sLen sCap, x']).run P w =
          .ok (.slice (some ⟨w.heap.size, 0, none⟩) (sLen + n) newCap) (w.drew.alloc (.cells (old'.toArray ++ (new'.toArray ++ Builtin.zeroCells z.cells (newCap - (sLen + n)))) elem))) := by
  obtain ⟨hzr, hzc, m, hm, hzn⟩ := run_zero hz w
  rw [hs] at hm; cases hm
  have hmany : ¬ sLen + n ≤ sCap → sLen + n ≤ 4294967296 → bytes ≤ 4096 → ¬ 281474976710656 < Builtin.nextslicecap (sLen + n) sCap * i.bytes := by
    intro h1 h2 h3
    have h4 := nextcap_le (need := sLen + n) (c := sCap) (by omega)
    have h5 : Builtin.nextslicecap (sLen + n) sCap * i.bytes ≤ (2 * (sLen + n) + 192) * 4096 := Nat.mul_le_mul h4 (by omega)
    omega
  unfold agot at h
  split at h
  · rename_i k l hxu
    split at h
    · rename_i hc
      obtain ⟨h0, h1, hby⟩ := hc
      cases h
      obtain rfl := hx.int
      have hw : IntKind.i64.wrap l = l := by rw [IntKind.wrap_i64]; omega
      have hl0 : ¬ l < 0 := by omega
      have hbig : ¬ 281474976710656 < l * (i.bytes : Int) := by
        have h2 : (i.bytes : Int) ≤ 4096 := by omega
        have : l * (i.bytes : Int) ≤ l * 4096 := Int.mul_le_mul_of_nonneg_left h2 h0
        omega
      have hz0 : l.toNat * size = 0 → zeros z.cells.toList l.toNat = [] := fun he => List.eq_nil_of_length_eq_zero (by rw [zeros_length]; simp [hzn, he])
      have hz1 : ¬ l.toNat * size = 0 → Builtin.zeroCells z.cells l.toNat = (zeros z.cells.toList l.toNat).toArray := by
        intro he
        have hne : z.cells.size ≠ 0 := by rw [hzn]; intro e; rw [e] at he; simp at he
        rw [← zeroCells_arr _ _ hne]
      refine ⟨by rw [zeros_length]; simp [hzn], zeros_one hzc _, _, zeros_rel hzc _, ?_, ?_⟩
      · intro hfit
        simp [Builtin.append_, run_underlying hu, run_underlying hxu, run_sz hs, hfit, run_info hi, asInt, asIntOf, hw, hl0, hbig]
        by_cases he : l.toNat * size = 0
        · rw [if_pos he, hz0 he]
          cases base <;> simp
        · rw [if_neg he]
          simp only [(run_zero hz _).1, Result.andThen_ok, hz1 he]
          cases base <;> simp
      · intro hfit hmax hbytes old' hold
        refine ⟨(Question.appendCap (sLen + l.toNat) sCap elem).cut (w.tape w.drawn (Question.appendCap (sLen + l.toNat) sCap elem)), ?_, ?_⟩
        · simp [Question.cut]
        · simp [Builtin.append_, run_underlying hu, run_underlying hxu, run_sz hs, hfit, run_info hi, asInt, asIntOf, hw, hl0, hbig, (run_zero hz _).1, Question.forced]
          rw [if_neg (by omega), if_neg (hmany hfit hmax hbytes)]
          simp [hold w.drew rfl]
          by_cases he : l.toNat * size = 0
          · rw [if_pos he, hz0 he]
            simp [newRow]
            try rfl
          · rw [if_neg he, hz1 he]
            simp [newRow]
            try rfl
    · cases h
  · rename_i e2 a c hxu
    rw [Option.map_eq_some_iff] at h
    obtain ⟨cs, hcs, e⟩ := h
    cases e
    obtain ⟨hle, a', c', rfl, _, _⟩ := hx.slice_any
    obtain ⟨hlen, hnew1, cs', hv, hrun⟩ := srcCells_sound (P := P) hS hx (Nat.le_refl _) hcs
    refine ⟨hlen, hnew1, cs', hv, ?_, ?_⟩
    · intro hfit
      simp [Builtin.append_, run_underlying hu, run_underlying hxu, run_sz hs, Builtin.lenOf, hfit, hrun w rfl]
      cases base <;> simp
    · intro hfit hmax hbytes old' hold
      refine ⟨(Question.appendCap (sLen + n) sCap elem).cut (w.tape w.drawn (Question.appendCap (sLen + n) sCap elem)), ?_, ?_⟩
      · simp [Question.cut]
      · simp [Builtin.append_, run_underlying hu, run_underlying hxu, run_sz hs, Builtin.lenOf, hfit, run_info hi, (run_zero hz _).1, Question.forced]
        rw [if_neg (by omega), if_neg (hmany hfit hmax hbytes)]
        simp [hold w.drew rfl, hrun w.drew rfl]
        rfl
  · cases h

theorem zeroCells_plain {z v : Value} (hz : closedV z = true) {m k : Nat} (h : (Builtin.zeroCells z.cells m)[k]? = some v) : plainV v = true := by
  have hmem := Array.mem_of_getElem? h
  have hz' : ∀ x ∈ z.cells.toList, plainV x = true := by
    intro x hx
    cases z with
    | agg cs =>
      simp only [closedV, List.all_eq_true] at hz
      exact hz x (by simpa [Value.cells] using hx)
    | _ => simp only [Value.cells, List.mem_singleton] at hx; subst hx; exact hz
  unfold Builtin.zeroCells at hmem
  obtain ⟨i, hi, rfl⟩ := Array.mem_map.1 hmem
  have hi' := Array.mem_range.1 hi
  have hpos : 0 < z.cells.size := by
    rcases Nat.eq_zero_or_pos z.cells.size with h0 | h0
    · rw [h0] at hi'; simp at hi'
    · exact h0
  have hlt : i % z.cells.size < z.cells.size := Nat.mod_lt _ hpos
  rw [getElem!_pos z.cells _ hlt]
  exact hz' _ (by simp)
theorem grow_new {old new old' new' : List Value} {z : Value} {size sLen n newCap : Nat} {elem : TypeId} (hS : Sim P μ H w B) (ho : VRs μ old old') (hn : VRs μ new new') (h1 : old.all oneCell = true) (h2 : new.all oneCell = true) (hol : old.length = sLen * size) (hnl : new.length = n * size)
    (hz : z.cells.size = size) (hzp : closedV z = true) (hs0 : size ≠ 0) (hcap : sLen + n ≤ newCap) :
    Told P μ (.slice (some ⟨H.length, 0, none⟩) (sLen + n) (sLen + n)) (H.new ⟨old ++ new, elem, size, false⟩) w B
      (.ok (.slice (some ⟨w.heap.size, 0, none⟩) (sLen + n) newCap) (w.drew.alloc (.cells (old'.toArray ++ (new'.toArray ++ Builtin.zeroCells z.cells (newCap - (sLen + n)))) elem))) := by
  have hzl : (Builtin.zeroCells z.cells (newCap - (sLen + n))).size = (newCap - (sLen + n)) * size := by
    have := congrArg List.length (zeroCells_arr z.cells (newCap - (sLen + n)) (by omega))
    rw [zeros_length] at this; simp at this; rw [this, hz]
  have hsz : (old'.toArray ++ (new'.toArray ++ Builtin.zeroCells z.cells (newCap - (sLen + n)))).size = newCap * size := by
    have h1 := ho.1
    have h2 := hn.1
    have h3 : (sLen + n) * size = sLen * size + n * size := Nat.add_mul _ _ _
    have h4 : newCap * size = (sLen + n) * size + (newCap - (sLen + n)) * size := by rw [← Nat.add_mul]; congr 1; omega
    simp [hzl]; omega
  have hSd : Sim P μ H w.drew B := hS.heap rfl
  obtain ⟨g1, g2⟩ := hSd.alloc (old ++ new) elem elem size (old'.toArray ++ (new'.toArray ++ Builtin.zeroCells z.cells (newCap - (sLen + n)))) (newCap * size) hsz.symm (by rw [List.all_append, h1, h2]; rfl)
    (by have h1 := ho.1; have h2 := hn.1; simp; omega)
    (by
      have e : (old'.toArray ++ (new'.toArray ++ Builtin.zeroCells z.cells (newCap - (sLen + n)))).toList = (old' ++ new') ++ (Builtin.zeroCells z.cells (newCap - (sLen + n))).toList := by simp
      rw [e, List.take_append_of_le_length (by have h1 := ho.1; have h2 := hn.1; simp; omega), List.take_of_length_le (by have h1 := ho.1; have h2 := hn.1; simp; omega)]
      exact ho.append hn)
    (by
      intro k v hk hv2
      have h1 := ho.1
      have h2 := hn.1
      rw [Array.getElem?_append_right (by simp at hk ⊢; omega), Array.getElem?_append_right (by simp at hk ⊢; omega)] at hv2
      exact zeroCells_plain hzp hv2)
  refine ⟨_, _, _, rfl, g1, ?_, g2, ((Bel.refl _ _).drew).alloc hSd.base _⟩
  have := VR.slice (μ := μ.up H.length ⟨w.drew.heap.size, 0, newCap * size, size⟩) H.length 0 (sLen + n) (sLen + n) newCap _ Mu.up_self (Nat.le_refl _) hcap (by simp)
  simpa using this

theorem aappend_sound {argTypes : Array TypeId} {ty : TypeId} {s s' x x' v : Value} (hS : Sim P μ H w B) (hs : VR μ s s') (hx : VR μ x x') (h : aappend P argTypes s x H = some (v, H')) :
    Told P μ v H' w B ((Builtin.append_ argTypes ty #[s', x']).run P w) := by
  unfold aappend at h
  split at h
  · rename_i sType xType hs0 hx0
    have hargs : (Builtin.append_ argTypes ty #[s', x']) = (Builtin.append_ #[sType, xType] ty #[s', x']) := by
      unfold Builtin.append_
      simp only [hs0, hx0]
      rfl
    rw [hargs]
    split at h
    · rename_i elem base sLen sCap hu
      split at h
      · rename_i size bytes z hsz hbt hz
        obtain ⟨i, hi, hib⟩ := bytes_info hbt
        obtain ⟨_, hzc, m, hm, hzn⟩ := run_zero hz w
        rw [hsz] at hm; cases hm
        split at h
        · rename_i n new hg
          obtain ⟨hslc, base', sCap', rfl, hnil, hcc⟩ := hs.slice_any
          obtain ⟨hlen, hnew1, new', hnew, hfit, hgrow⟩ := agot_sound (ty := ty) (sLen := sLen) (sCap := sCap') hS hx hu hsz hi hib hz hg base'
          have hlen' : new'.length = n * size := by rw [← hnew.1]; exact hlen
          simp only at h
          split at h
          · -- it fits
            rename_i hle
            rw [hfit (by omega)]
            cases base with
            | none =>
              obtain ⟨rfl, rfl, e⟩ := hs.slice_nil
              cases e
              simp only at h; cases h
              have hn0 : n = 0 := by omega
              subst hn0
              exact Told.same hS hs
            | some ad =>
              obtain ⟨i', off, spot⟩ := ad
              cases spot with
              | some _ => cases h
              | none =>
                simp only at h
                split at h
                · rename_i hn0
                  cases h
                  subst hn0
                  have : new' = [] := List.eq_nil_of_length_eq_zero (by rw [hlen']; simp)
                  subst this
                  rcases hs.slice_some with ⟨i2, off2, cap2, l, e, hl, g1, g2, g3, e2⟩ | ⟨i2, off2, a2, e, rfl, rfl, e2⟩
                  · cases e2
                    simp only [storeCells, Sem.run_pure, Result.andThen_ok]
                    exact Told.same hS hs
                  · cases e2
                    simp only [storeCells, Sem.run_pure, Result.andThen_ok]
                    exact Told.same hS hs
                · rename_i hn0
                  cases hb : H.get i' with
                  | none => rw [hb] at h; cases h
                  | some b =>
                    rw [hb] at h
                    simp only at h
                    split at h
                    · rename_i hes
                      rw [Option.map_eq_some_iff] at h
                      obtain ⟨H2, hst, e⟩ := h
                      cases e
                      rcases hs.slice_some with ⟨i2, off2, cap2, l, e, hl, g1, g2, g3, e2⟩ | ⟨i2, off2, a2, e, rfl, rfl, e2⟩
                      · cases e; cases e2
                        obtain ⟨w', hr, hS', hB⟩ := hS.st hl hst hnew
                        rw [← Nat.add_assoc, ← addr_add (l.b) (l.o + off) (sLen * size)] at hr
                        simp only [hr, Result.andThen_ok]
                        exact ⟨_, μ, w', rfl, μ.le_refl, .slice i' off (sLen + n) sCap sCap' l hl hle hcc g3, hS', hB⟩
                      · omega
                    · cases h
          · rename_i hle
            split at h
            · rename_i hcond
              simp only [Bool.and_eq_true, decide_eq_true_eq, ne_eq] at hcond
              obtain ⟨⟨hmax, hby⟩, hsz0⟩ := hcond
              have hsz0 : size ≠ 0 := by simpa using hsz0
              cases base with
              | none =>
                obtain ⟨rfl, rfl, e⟩ := hs.slice_nil
                cases e
                simp only [if_true] at h; cases h
                obtain ⟨newCap, hcap, hrun⟩ := hgrow hle hmax hby [] (fun w2 _ => by simp [Builtin.firstCells])
                rw [hrun]
                have := grow_new (elem := elem) (old := []) (old' := []) (sLen := 0) hS .nil hnew rfl hnew1 (by simp) hlen hzn hzc hsz0 hcap
                simpa using this
              | some ad =>
                obtain ⟨i', off, spot⟩ := ad
                cases spot with
                | some _ => cases h
                | none =>
                  simp only at h
                  cases hb : H.get i' with
                  | none => rw [hb] at h; cases h
                  | some b =>
                    rw [hb] at h
                    simp only at h
                    split at h
                    · rename_i hok
                      simp only [Bool.and_eq_true, Bool.not_eq_true', beq_iff_eq] at hok
                      obtain ⟨⟨hro, hes⟩, hend⟩ := hok
                      cases hld : ldCells H i' off (sLen * size) with
                      | none => rw [hld] at h; cases h
                      | some old =>
                        rw [hld] at h
                        simp only at h; cases h
                        rcases hs.slice_some with ⟨i2, off2, cap2, l, e, hl, g1, g2, g3, e2⟩ | ⟨i2, off2, a2, e, rfl, rfl, e2⟩
                        · cases e; cases e2
                          obtain ⟨holen, old', hold, hcell⟩ := hS.ldCells hl hld
                          by_cases hfit' : sLen + n ≤ sCap'
                          · -- in the spare room of its row
                            obtain ⟨m, hm, k⟩ := hS.ok i' b hb
                            rw [hl] at hm; cases hm
                            obtain ⟨cs, ty2, fz, r1, r2, r3, r4, r5⟩ := k.row
                            obtain rfl := r3 hro
                            have hes' : l.es = size := k.es.trans hes
                            rw [hes'] at g3
                            have hmul : (sLen + n) * size ≤ sCap' * size := Nat.mul_le_mul_right _ hfit'
                            have hadd : (sLen + n) * size = sLen * size + n * size := Nat.add_mul _ _ _
                            have hone : ∀ v ∈ new', v.oneCell' = true := hnew.oneCells hnew1
                            have hrow := run_storeCells_at (P := P) l.b (l.o + off + sLen * size) ty2 new' 0 cs w r1 (by omega) hone
                            rw [hfit hfit']
                            simp only [addr_add, hrow, Result.andThen_ok]
                            have hcells : VRs μ (old ++ new) (((cs.toList.take (l.o + off + sLen * size + 0) ++ new' ++ cs.toList.drop (l.o + off + sLen * size + 0 + new'.length)).toArray.toList.drop (l.o + off)).take (old ++ new).length) := by
                              have hcs : cs.toList.length = cs.size := by simp
                              have hol : old'.length = sLen * size := by rw [← hold.1]; exact holen
                              have e : (((cs.toList.take (l.o + off + sLen * size + 0) ++ new' ++ cs.toList.drop (l.o + off + sLen * size + 0 + new'.length)).toArray.toList.drop (l.o + off)).take (old ++ new).length) = old' ++ new' := by
                                apply List.ext_getElem?
                                intro j
                                simp only [Nat.add_zero, List.getElem?_take, List.getElem?_drop, List.getElem?_append, List.length_append, List.length_take, hcs, holen, hlen]
                                by_cases hj : j < old'.length
                                · rw [if_pos (by omega), if_pos (by omega), if_pos (by omega), if_pos (by omega), if_pos hj]
                                  have := hcell j old'[j] (List.getElem?_eq_getElem hj)
                                  rw [addr_add] at this
                                  simp only [World.cell?, r1] at this
                                  rw [List.getElem?_eq_getElem hj, ← this]
                                  simp
                                · rw [if_neg hj]
                                  by_cases hj2 : j < sLen * size + n * size
                                  · rw [if_pos hj2, if_pos (by omega), if_neg (by omega)]
                                    congr 1; omega
                                  · rw [if_neg hj2, List.getElem?_eq_none (by omega)]
                              rw [e]
                              exact hold.append hnew
                            have hspare : ∀ (cs2 : Array Value) ty3 fz2, (w.setRow l.b (cs.toList.take (l.o + off + sLen * size + 0) ++ new' ++ cs.toList.drop (l.o + off + sLen * size + 0 + new'.length)).toArray).heap[l.b]? = some (.cells cs2 ty3 fz2) → ∀ (k : Nat) (v : Value), l.o + off + (old ++ new).length ≤ k → cs2[k]? = some v → plainV v = true := by
                              intro cs2 ty3 fz2 g2 j v hj hv2
                              rw [setRow_heap w l.b cs _ ty2 (0, 0) r1] at g2; cases g2
                              have hcs : cs.toList.length = cs.size := by simp
                              simp only [List.length_append, holen, hlen] at hj
                              refine (hS.ok i' b hb).elim fun l0 hl0 => ?_
                              obtain ⟨e0, k0⟩ := hl0
                              rw [hl] at e0; cases e0
                              have q3 : (sLen + n) * size = sLen * size + n * size := Nat.add_mul _ _ _
                              have q4 : sCap * size ≤ (sLen + n) * size := Nat.mul_le_mul_right _ (by omega)
                              refine k0.spare hro cs ty2 (0, 0) r1 j v (by omega) ?_
                              rw [← hv2]
                              simp only [Nat.add_zero, List.getElem?_toArray, List.getElem?_append, List.length_append, List.length_take, hcs, List.getElem?_drop]
                              rw [if_neg (by omega), ← Array.getElem?_toList]
                              congr 1; omega
                            obtain ⟨q1, q2⟩ := hS.move (b' := ⟨old ++ new, elem, size, false⟩) (l' := ⟨l.b, l.o + off, l.sz, size⟩) hb hro hl rfl (fun k hk => setRow_other w l.b k _ hk) (setRow_size _ _ _)
                              ⟨rfl, by show (old ++ new).all oneCell = true; rw [List.all_append, hS.ldOne hld, hnew1]; rfl, fun _ => hspare, _, ty2, (0, 0), setRow_heap w l.b cs _ ty2 (0, 0) r1, by simp; omega, fun _ => rfl, by simp; omega, hcells⟩
                            refine ⟨_, _, _, rfl, q1, ?_, q2, setRow_below (hS.own i' b l hb hro hl) (fun o ho => by rw [r1] at ho; cases ho; rfl)⟩
                            have := VR.slice (μ := μ.up H.length ⟨l.b, l.o + off, l.sz, size⟩) H.length 0 (sLen + n) (sLen + n) sCap' _ Mu.up_self (Nat.le_refl _) hfit' (by simpa using g3)
                            simpa using this
                          · obtain ⟨newCap, hcap, hrun⟩ := hgrow hfit' hmax hby old' (fun w2 he => by
                              have hr := run_loadCells_list (P := P) w2 ⟨l.b, l.o + off, none⟩ old' (fun j v hj => by rw [← hcell j v hj]; simp [World.cell?, he])
                              rw [← hold.1, holen] at hr
                              exact hr)
                            rw [hrun]
                            have := grow_new (elem := elem) (hS.kill (i := i')) hold hnew (hS.ldOne hld) hnew1 holen hlen hzn hzc hsz0 hcap
                            rw [Heap.length_kill] at this
                            exact this
                        · cases e; cases e2
                          obtain ⟨newCap, hcap, hrun⟩ := hgrow (by omega) hmax hby [] (fun w2 he => by simp [Builtin.firstCells, loadCells, loadCellsFrom])
                          rw [hrun]
                          have hold0 : old = [] := List.eq_nil_of_length_eq_zero (by
                            unfold ldCells at hld
                            rw [hb] at hld
                            simp only at hld
                            split at hld
                            · cases hld; simp
                            · cases hld)
                          subst hold0
                          have := grow_new (elem := elem) (old := []) (old' := []) (sLen := 0) (hS.kill (i := i')) .nil hnew rfl hnew1 (by simp) hlen hzn hzc hsz0 hcap
                          rw [Heap.length_kill] at this
                          exact this
                    · cases h
            · cases h
        · cases h
      · cases h
    · cases h
  · cases h

end Go.Proofs.YtgakioiplkehgaaA.Am
