/-
How the model's loads, stores, makes and appends go along with the abstract heap's.
-/
import Derived.Test.YtgakioiplkehgaaAmRel
import Derived.Laws.CopyRow
import Derived.Laws.Cells
import Derived.Laws.World
import Derived.Laws.Entries
import Derived.Laws.Tables
import Derived.ChangeKeysEq
import Derived.RangeFuncOwn
import Derived.RangeFuncCalls
namespace Go.Proofs.YtgakioiplkehgaaA.Am
open Go.RowKit (Below)

/-- What a piece of work leaves: all below B; loops over functions are such; where no call is put off none is. -/
structure Bel (B : Nat) (w w' : World) : Prop where
  below : Below B w w'
  loops : ∀ (b : Nat) (r : Loop), w.heap[b]? = some (.loop r) → ∃ r', w'.heap[b]? = some (.loop r') ∧ r'.defers = r.defers
  dfr : ∀ (b : Nat), w.heap[b]? = some (.deferred (some [])) → w'.heap[b]? = some (.deferred (some []))
  size : w.heap.size ≤ w'.heap.size
theorem Bel.of_keeps {B : Nat} {w w' : World} (h : Below B w w') (k : KeepsOthers w w') : Bel B w w' :=
  ⟨h, fun _ r hb => ⟨r, k.same _ _ hb rfl, rfl⟩, fun _ hb => k.same _ _ hb rfl, k.size⟩
theorem Bel.refl (B : Nat) (w : World) : Bel B w w := .of_keeps (Below.refl _ _) (KeepsOthers.refl _)
theorem Bel.trans {B : Nat} {w w1 w2 : World} (h : Bel B w w1) (k : Bel B w1 w2) : Bel B w w2 :=
  ⟨h.below.trans k.below, fun b r hb => by
    obtain ⟨r1, h1, e1⟩ := h.loops b r hb
    obtain ⟨r2, h2, e2⟩ := k.loops b r1 h1
    exact ⟨r2, h2, e2.trans e1⟩, fun b hb => k.dfr b (h.dfr b hb), Nat.le_trans h.size k.size⟩
theorem Bel.drew {B : Nat} {w w1 : World} (h : Bel B w w1) : Bel B w w1.drew := h.trans (.of_keeps ((Below.refl _ _).drew) (KeepsOthers.drew _))
theorem Bel.alloc {B : Nat} {w w1 : World} (h : Bel B w w1) (hB : B ≤ w1.heap.size) (o : Obj) : Bel B w (w1.alloc o) := h.trans (.of_keeps ((Below.refl _ _).alloc hB o) (KeepsOthers.alloc _ _))

theorem addr_add (b o j : Nat) : (⟨b, o, none⟩ : Addr).add j = ⟨b, o + j, none⟩ := by unfold Addr.add; split <;> simp_all

theorem Sim.ld {P : Program} {μ : Mu} {H : Heap} {w : World} {B i off : Nat} {b : Blk} {l : Loc} {v : Value} (h : Sim P μ H w B) (hb : H.get i = some b) (hl : μ i = some l)
    (hv : b.cells[off]? = some v) : ∃ v', w.cell? ⟨l.b, l.o + off, none⟩ = some v' ∧ VR μ v v' := by
  obtain ⟨l', e, k⟩ := h.ok i b hb
  rw [hl] at e; cases e
  obtain ⟨cs, ty, fz, h1, h2, h3, h4, h5⟩ := k.row
  obtain ⟨v', e, r⟩ := h5.2 off v hv
  refine ⟨v', ?_, r⟩
  have hlt : off < b.cells.length := (List.getElem?_eq_some_iff.1 hv).1
  rw [List.getElem?_take, if_pos hlt, List.getElem?_drop] at e
  simp only [World.cell?, h1]
  simpa using e

theorem Sim.ldCells {P : Program} {μ : Mu} {H : Heap} {w : World} {B i off n : Nat} {l : Loc} {vs : List Value} (h : Sim P μ H w B) (hl : μ i = some l)
    (hv : Am.ldCells H i off n = some vs) : vs.length = n ∧ ∃ vs', VRs μ vs vs' ∧ ∀ (j : Nat) (v : Value), vs'[j]? = some v → w.cell? ((⟨l.b, l.o + off, none⟩ : Addr).add j) = some v := by
  unfold Am.ldCells at hv
  cases hb : H.get i with
  | none => rw [hb] at hv; cases hv
  | some b =>
    rw [hb] at hv
    simp only at hv
    split at hv
    · rename_i hle
      cases hv
      obtain ⟨l', e, k⟩ := h.ok i b hb
      rw [hl] at e; cases e
      obtain ⟨cs, ty, fz, h1, h2, h3, h4, h5⟩ := k.row
      refine ⟨by simp; omega, _, (h5.drop off).take n, fun j v hj => ?_⟩
      rw [addr_add]
      rw [List.getElem?_take] at hj
      split at hj
      · rename_i hjn
        rw [List.getElem?_drop, List.getElem?_take] at hj
        split at hj
        · rw [List.getElem?_drop] at hj
          simp only [World.cell?, h1]
          simpa [Nat.add_assoc] using hj
        · cases hj
      · cases hj
    · cases hv

theorem Sim.ldOne {P : Program} {μ : Mu} {H : Heap} {w : World} {B i off n : Nat} {vs : List Value} (h : Sim P μ H w B) (hv : Am.ldCells H i off n = some vs) : vs.all oneCell = true := by
  unfold Am.ldCells at hv
  cases hb : H.get i with
  | none => rw [hb] at hv; cases hv
  | some b =>
    rw [hb] at hv
    simp only at hv
    split at hv
    · cases hv
      obtain ⟨l, _, k⟩ := h.ok i b hb
      have := k.one
      rw [List.all_eq_true] at this ⊢
      intro x hx
      exact this x (List.mem_of_mem_drop (List.mem_of_mem_take hx))
    · cases hv

theorem splice_eq : ∀ (vs cs : List Value) (off : Nat), off + vs.length ≤ cs.length → splice cs off vs = cs.take off ++ vs ++ cs.drop (off + vs.length)
  | [], cs, off, _ => by simp [splice]
  | v :: r, cs, off, h => by
    simp only [List.length_cons] at h
    rw [splice, splice_eq r (cs.set off v) (off + 1) (by simp; omega)]
    have e1 : (cs.set off v).take (off + 1) = cs.take off ++ [v] := by
      rw [List.take_set, List.take_succ_eq_append_getElem (by omega)]
      rw [List.set_append_right _ _ (by simp; omega)]
      simp [Nat.min_eq_left (show off ≤ cs.length by omega)]
    have e2 : (cs.set off v).drop (off + 1 + r.length) = cs.drop (off + (v :: r).length) := by
      rw [List.drop_set_of_lt (by omega)]
      congr 1; simp; omega
    rw [e1, e2]; simp
theorem splice_all {f : Value → Bool} : ∀ (vs cs : List Value) (off : Nat), cs.all f = true → vs.all f = true → (splice cs off vs).all f = true
  | [], cs, off, h, _ => h
  | v :: r, cs, off, h, k => by
    rw [splice]
    simp only [List.all_cons, Bool.and_eq_true] at k
    refine splice_all r _ _ ?_ k.2
    rw [List.all_eq_true] at h ⊢
    intro x hx
    rcases List.mem_or_eq_of_mem_set hx with hx | rfl
    · exact h x hx
    · exact k.1
theorem splice_length {vs cs : List Value} {off : Nat} (h : off + vs.length ≤ cs.length) : (splice cs off vs).length = cs.length := by
  rw [splice_eq _ _ _ h]; simp; omega

theorem keeps_of {P : Program} {μ : Mu} {H : Heap} {w w' : World} {B i : Nat} {b : Blk} {l : Loc} (hb : H.get i = some b) (hl : μ i = some l) (h : Sim P μ H w B)
    (hw : ∀ k, k ≠ l.b → w'.heap[k]? = w.heap[k]?) (k : Nat) (x : Obj) (hk : w.heap[k]? = some x) (hx : x.isCells = false) : w'.heap[k]? = some x := by
  rw [hw k ?_]; exact hk
  rintro rfl
  obtain ⟨l', e, ko⟩ := h.ok i b hb
  rw [hl] at e; cases e
  obtain ⟨cs, ty, fz, h1, _⟩ := ko.row
  rw [h1] at hk; cases hk; cases hx
/-- The world turns at one block of the program's own, and what the abstract heap says of it with it. -/
theorem Sim.put {P : Program} {μ : Mu} {H : Heap} {w w' : World} {B i : Nat} {b b' : Blk} {l : Loc} (h : Sim P μ H w B) (hb : H.get i = some b) (hro : b.ro = false) (hl : μ i = some l)
    (hw : ∀ k, k ≠ l.b → w'.heap[k]? = w.heap[k]?) (hs : w'.heap.size = w.heap.size) (_hro' : b'.ro = false) (hok : BlkOk μ w' b' l) : Sim P μ (H.put i b') w' B := by
  have hi := Heap.get_lt hb
  refine ⟨by rw [hs]; exact h.base, ?_, fun k hk => h.dom k (by rw [Heap.length_put] at hk; exact hk), ?_, ?_, h.oth.keep μ.le_refl (fun _ _ => Heap.oth_put hb) (keeps_of hb hl h hw), fun k hk => h.hol k (Heap.hole_put hk).1⟩
  · intro j c hc
    by_cases e : j = i
    · subst e; rw [Heap.get_put_self hi] at hc; cases hc; exact ⟨l, hl, hok⟩
    · rw [Heap.get_put_ne e] at hc
      obtain ⟨m, hm, k⟩ := h.ok j c hc
      exact ⟨m, hm, k.heap (hw _ (Ne.symm (h.inj i j b c l m hb hc hl hm (Ne.symm e) hro)))⟩
  · intro j k c d m n hc hd hm hn hjk hcro
    by_cases e : j = i
    · subst e
      rw [Heap.get_put_self hi] at hc; cases hc
      rw [Heap.get_put_ne (Ne.symm hjk)] at hd
      exact h.inj j k b d m n hb hd hm hn hjk hro
    · rw [Heap.get_put_ne e] at hc
      by_cases e2 : k = i
      · subst e2; exact h.inj j k c b m n hc hb hm hn hjk hcro
      · rw [Heap.get_put_ne e2] at hd; exact h.inj j k c d m n hc hd hm hn hjk hcro
  · intro j c m hc hcro hm
    by_cases e : j = i
    · subst e; exact h.own j b m hb hro hm
    · rw [Heap.get_put_ne e] at hc; exact h.own j c m hc hcro hm

/-- A block gives way to a new one that lies in the same row. -/
theorem Sim.move {P : Program} {μ : Mu} {H : Heap} {w w' : World} {B i : Nat} {b b' : Blk} {l l' : Loc} (h : Sim P μ H w B) (hb : H.get i = some b) (hro : b.ro = false) (hl : μ i = some l)
    (hlb : l'.b = l.b) (hw : ∀ k, k ≠ l.b → w'.heap[k]? = w.heap[k]?) (hs : w'.heap.size = w.heap.size) (hok : BlkOk μ w' b' l') :
    μ.le (μ.up H.length l') ∧ Sim P (μ.up H.length l') ((H.kill i).new b') w' B := by
  have hi := Heap.get_lt hb
  have hle := Mu.le_up (l := l') (h.dom H.length (Nat.le_refl _))
  have old : ∀ {j : Nat} {c : Blk}, ((H.kill i).new b').get j = some c → (j = H.length ∧ c = b') ∨ (j < H.length ∧ j ≠ i ∧ H.get j = some c) := by
    intro j c hc
    rcases Heap.get_new hc with ⟨e, e'⟩ | ⟨hj, hc⟩
    · rw [Heap.length_kill] at e; exact .inl ⟨e, e'⟩
    · rw [Heap.length_kill] at hj
      by_cases e : j = i
      · subst e; rw [Heap.get_kill_self] at hc; cases hc
      · rw [Heap.get_kill_ne e] at hc; exact .inr ⟨hj, e, hc⟩
  refine ⟨hle, by rw [hs]; exact h.base, ?_, ?_, ?_, ?_, h.oth.keep hle (fun _ _ hk => Heap.oth_kill (Heap.oth_new hk)) (keeps_of hb hl h hw), fun k hk => by obtain ⟨h1, h2⟩ := Heap.hole_new hk; rw [Heap.length_kill] at h2; rw [Mu.up_ne (by omega)]; exact h.hol k (Heap.hole_kill h1).1⟩
  · intro j c hc
    rcases old hc with ⟨rfl, rfl⟩ | ⟨hj, e, hc⟩
    · exact ⟨l', Mu.up_self, hok.mono hle⟩
    · obtain ⟨m, hm, k⟩ := h.ok j c hc
      exact ⟨m, hle _ _ hm, (k.heap (hw _ (Ne.symm (h.inj i j b c l m hb hc hl hm (Ne.symm e) hro)))).mono hle⟩
  · intro j hj
    rw [Heap.length_new, Heap.length_kill] at hj
    rw [Mu.up_ne (by omega)]; exact h.dom j (by omega)
  · intro j k c d m n hc hd hm hn hjk hcro
    rcases old hc with ⟨rfl, rfl⟩ | ⟨hj, e, hc1⟩ <;> rcases old hd with ⟨rfl, rfl⟩ | ⟨hk, e2, hd1⟩
    · exact absurd rfl hjk
    · rw [Mu.up_self] at hm; cases hm
      rw [Mu.up_ne (by omega)] at hn
      rw [hlb]; exact h.inj i k b d l n hb hd1 hl hn (Ne.symm e2) hro
    · rw [Mu.up_self] at hn; cases hn
      rw [Mu.up_ne (by omega)] at hm
      rw [hlb]; exact fun x => h.inj i j b c l m hb hc1 hl hm (Ne.symm e) hro x.symm
    · rw [Mu.up_ne (by omega)] at hm hn
      exact h.inj j k c d m n hc1 hd1 hm hn hjk hcro
  · intro j c m hc hcro hm
    rcases old hc with ⟨rfl, rfl⟩ | ⟨hj, e, hc⟩
    · rw [Mu.up_self] at hm; cases hm; rw [hlb]; exact h.own i b l hb hro hl
    · rw [Mu.up_ne (by omega)] at hm; exact h.own j c m hc hcro hm

theorem setRow_below {w : World} {g B : Nat} {cs : Array Value} (h : B ≤ g) (hg : ∀ o, w.heap[g]? = some o → o.isCells = true) : Bel B w (w.setRow g cs) :=
  .of_keeps ⟨rfl, rfl, rfl, by simp [World.setRow], fun k hk => setRow_other w g k cs (by omega)⟩ ⟨by simp [World.setRow], fun k o hk ho => by
    by_cases e : k = g
    · subst e; rw [hg o hk] at ho; cases ho
    · rw [setRow_other w g k cs e]; exact hk⟩
theorem setRow_size (w : World) (g : Nat) (cs : Array Value) : (w.setRow g cs).heap.size = w.heap.size := by simp [World.setRow]

/-- A row of cells is written into a block of the program's own. -/
theorem Sim.st {P : Program} {μ : Mu} {H H' : Heap} {w : World} {B i off : Nat} {l : Loc} {vs vs' : List Value} (h : Sim P μ H w B) (hl : μ i = some l)
    (hst : stCells H i off vs = some H') (hv : VRs μ vs vs') :
    ∃ w', (storeCells ⟨l.b, l.o + off, none⟩ vs').run P w = .ok () w' ∧ Sim P μ H' w' B ∧ Bel B w w' := by
  unfold stCells at hst
  cases hb : H.get i with
  | none => rw [hb] at hst; cases hst
  | some b =>
    rw [hb] at hst
    simp only at hst
    split at hst
    · rename_i hc
      cases hst
      simp only [Bool.and_eq_true, Bool.not_eq_true', decide_eq_true_eq] at hc
      obtain ⟨⟨hro, hle⟩, hone⟩ := hc
      obtain ⟨l', e, k⟩ := h.ok i b hb
      rw [hl] at e; cases e
      obtain ⟨cs, ty, fz, h1, h2, h3, h4, h5⟩ := k.row
      obtain rfl := h3 hro
      have hlen := hv.1
      have hrun := run_storeCells_at (P := P) l.b (l.o + off) ty vs' 0 cs w h1 (by omega) (hv.oneCells hone)
      refine ⟨_, hrun, ?_, setRow_below (h.own i b l hb hro hl) (fun o ho => by rw [h1] at ho; cases ho; rfl)⟩
      refine h.put hb hro hl (fun k hk => setRow_other w l.b k _ hk) (setRow_size _ _ _) hro ?_
      refine ⟨k.es, splice_all _ _ _ k.one hone, ?_, _, ty, (0, 0), setRow_heap w l.b cs _ ty (0, 0) h1, ?_, fun _ => rfl, ?_, ?_⟩
      · intro _ cs2 ty2 fz2 g2 j v hj hv2
        rw [setRow_heap w l.b cs _ ty (0, 0) h1] at g2; cases g2
        simp only [splice_length hle] at hj
        refine k.spare hro cs ty (0, 0) h1 j v hj ?_
        have hcs : cs.toList.length = cs.size := by simp
        rw [← hv2]
        simp only [Nat.add_zero, List.getElem?_toArray, List.getElem?_append, List.length_append, List.length_take, hcs, List.getElem?_drop]
        rw [if_neg (by omega), ← Array.getElem?_toList]
        congr 1; omega
      · simp; omega
      · simp only [splice_length hle]; simp; omega
      · simp only [splice_length hle]
        rw [splice_eq _ _ _ hle]
        have e : (((cs.toList.take (l.o + off + 0) ++ vs' ++ cs.toList.drop (l.o + off + 0 + vs'.length)).toArray.toList.drop l.o).take b.cells.length) =
            ((cs.toList.drop l.o).take b.cells.length).take off ++ vs' ++ ((cs.toList.drop l.o).take b.cells.length).drop (off + vs.length) := by
          apply List.ext_getElem?
          intro j
          have hcs : cs.toList.length = cs.size := by simp
          simp only [Nat.add_zero, List.getElem?_take, List.getElem?_drop, List.getElem?_append, List.length_append, List.length_take, List.length_drop, hcs]
          by_cases hj : j < b.cells.length
          · rw [if_pos hj]
            by_cases h1 : j < off
            · rw [if_pos (by omega), if_pos (by omega), if_pos (by omega), if_pos (by omega), if_pos (by omega), if_pos h1, if_pos hj]
            · by_cases h2 : j < off + vs'.length
              · rw [if_pos (by omega), if_neg (by omega), if_pos (by omega), if_neg (by omega)]
                congr 1; omega
              · rw [if_neg (by omega), if_neg (by omega), if_pos (by omega)]
                congr 1; omega
          · rw [if_neg hj, if_neg (by omega), if_neg (by omega)]
        rw [e]
        exact ((h5.take off).append hv).append (h5.drop (off + vs.length))
    · cases hst

end Go.Proofs.YtgakioiplkehgaaA.Am
