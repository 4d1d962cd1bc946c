/-
What the abstract machine's values and heap say of the model's: a relation under a map of blocks, and how each change of a heap keeps it.
-/
import Derived.Test.YtpenlcigickkbaaAmDef
namespace Go.Proofs.YtpenlcigickkbaaA.Am

structure Loc where
  b : Nat
  o : Nat
  sz : Nat
  es : Nat

abbrev Mu := Nat → Option Loc
def Mu.le (μ μ' : Mu) : Prop := ∀ i l, μ i = some l → μ' i = some l
theorem Mu.le_refl (μ : Mu) : μ.le μ := fun _ _ h => h
theorem Mu.le_trans {a b c : Mu} (h : a.le b) (k : b.le c) : a.le c := fun i l e => k i l (h i l e)
def Mu.up (μ : Mu) (i : Nat) (l : Loc) : Mu := fun j => if j = i then some l else μ j
theorem Mu.le_up {μ : Mu} {i : Nat} {l : Loc} (h : μ i = none) : μ.le (μ.up i l) := by
  intro j m hj
  unfold Mu.up
  by_cases e : j = i
  · subst e; rw [h] at hj; cases hj
  · rw [if_neg e]; exact hj
theorem Mu.up_self {μ : Mu} {i : Nat} {l : Loc} : μ.up i l i = some l := by simp [Mu.up]
theorem Mu.up_ne {μ : Mu} {i j : Nat} {l : Loc} (h : j ≠ i) : μ.up i l j = μ j := by simp [Mu.up, h]

inductive VR (μ : Mu) : Value → Value → Prop
  | unk (v : Value) : VR μ (.complex .f64 0 0) v
  | plain (v : Value) (h : plainV v = true) : VR μ v v
  | ptr (i off : Nat) (l : Loc) (h : μ i = some l) : VR μ (.pointer (some ⟨i, off, none⟩)) (.pointer (some ⟨l.b, l.o + off, none⟩))
  | slice (i off len cap cap' : Nat) (l : Loc) (h : μ i = some l) (h1 : len ≤ cap) (h2 : cap ≤ cap') (h3 : l.o + off + cap' * l.es ≤ l.sz) :
      VR μ (.slice (some ⟨i, off, none⟩) len cap) (.slice (some ⟨l.b, l.o + off, none⟩) len cap')
  | slice0 (i off : Nat) (a : Addr) : VR μ (.slice (some ⟨i, off, none⟩) 0 0) (.slice (some a) 0 0)
  | func (fn : Fn) (f f' c c' : Array Value) (hf : f.size = f'.size) (hc : c.size = c'.size)
      (h1 : ∀ j (h : j < f.size) (h' : j < f'.size), VR μ f[j] f'[j]) (h2 : ∀ j (h : j < c.size) (h' : j < c'.size), VR μ c[j] c'[j]) :
      VR μ (.func fn f c) (.func fn f' c')
  | agg (c c' : Array Value) (hc : c.size = c'.size) (h : ∀ j (h : j < c.size) (h' : j < c'.size), VR μ c[j] c'[j]) : VR μ (.agg c) (.agg c')
  | tuple (c c' : Array Value) (hc : c.size = c'.size) (h : ∀ j (h : j < c.size) (h' : j < c'.size), VR μ c[j] c'[j]) : VR μ (.tuple c) (.tuple c')

theorem VR.mono {μ μ' : Mu} (hm : μ.le μ') {v v' : Value} (h : VR μ v v') : VR μ' v v' := by
  induction h with
  | unk v => exact .unk v
  | plain v h => exact .plain v h
  | ptr i off l h => exact .ptr i off l (hm _ _ h)
  | slice i off len cap cap' l h h1 h2 h3 => exact .slice i off len cap cap' l (hm _ _ h) h1 h2 h3
  | slice0 i off a => exact .slice0 i off a
  | func fn f f' c c' hf hc _ _ i1 i2 => exact .func fn f f' c c' hf hc i1 i2
  | agg c c' hc _ ih => exact .agg c c' hc ih
  | tuple c c' hc _ ih => exact .tuple c c' hc ih

def VRs (μ : Mu) (l l' : List Value) : Prop := l.length = l'.length ∧ ∀ (j : Nat) (u : Value), l[j]? = some u → ∃ u' : Value, l'[j]? = some u' ∧ VR μ u u'

theorem VRs.mono {μ μ' : Mu} (hm : μ.le μ') {l l' : List Value} (h : VRs μ l l') : VRs μ' l l' :=
  ⟨h.1, fun j u hj => let ⟨u', a, b⟩ := h.2 j u hj; ⟨u', a, b.mono hm⟩⟩
theorem VRs.nil {μ : Mu} : VRs μ [] [] := ⟨rfl, fun j u h => by simp at h⟩
theorem VRs.cons {μ : Mu} {a b : Value} {x y : List Value} (h : VR μ a b) (k : VRs μ x y) : VRs μ (a :: x) (b :: y) := by
  refine ⟨by simp [k.1], fun j u hj => ?_⟩
  cases j with
  | zero => simp at hj; subst hj; exact ⟨b, rfl, h⟩
  | succ j => simp at hj ⊢; exact k.2 j u hj
theorem VRs.uncons {μ : Mu} {a : Value} {x l : List Value} (h : VRs μ (a :: x) l) : ∃ b y, l = b :: y ∧ VR μ a b ∧ VRs μ x y := by
  cases l with
  | nil => have := h.1; simp at this
  | cons b y =>
    obtain ⟨u', h1, h2⟩ := h.2 0 a rfl
    simp at h1; subst h1
    exact ⟨b, y, rfl, h2, by have := h.1; simpa using this, fun j u hj => by have := h.2 (j + 1) u (by simpa using hj); simpa using this⟩
theorem VRs.nil_inv {μ : Mu} {l : List Value} (h : VRs μ [] l) : l = [] := by
  exact List.eq_nil_of_length_eq_zero h.1.symm
theorem VRs.append {μ : Mu} {a b x y : List Value} (h : VRs μ a b) (k : VRs μ x y) : VRs μ (a ++ x) (b ++ y) := by
  induction a generalizing b with
  | nil => rw [VRs.nil_inv h]; exact k
  | cons v a ih => obtain ⟨c, z, rfl, h1, h2⟩ := h.uncons; exact .cons h1 (ih h2)
theorem VRs.drop {μ : Mu} {a b : List Value} (h : VRs μ a b) (n : Nat) : VRs μ (a.drop n) (b.drop n) := by
  refine ⟨by simp [h.1], fun j u hj => ?_⟩
  simp only [List.getElem?_drop] at hj ⊢
  exact h.2 _ _ hj
theorem VRs.take {μ : Mu} {a b : List Value} (h : VRs μ a b) (n : Nat) : VRs μ (a.take n) (b.take n) := by
  refine ⟨by simp [h.1], fun j u hj => ?_⟩
  simp only [List.getElem?_take] at hj ⊢
  split
  · rename_i hlt; rw [if_pos hlt] at hj; exact h.2 _ _ hj
  · rename_i hlt; rw [if_neg hlt] at hj; cases hj
theorem VRs.set {μ : Mu} {a b : List Value} (h : VRs μ a b) {u v : Value} (k : VR μ u v) (n : Nat) : VRs μ (a.set n u) (b.set n v) := by
  refine ⟨by simp [h.1], fun j x hj => ?_⟩
  rw [List.getElem?_set] at hj ⊢
  by_cases e : n = j
  · subst e
    rw [if_pos rfl] at hj ⊢
    by_cases hl : n < a.length
    · rw [if_pos hl] at hj; cases hj; exact ⟨v, by rw [if_pos (by rw [← h.1]; exact hl)], k⟩
    · rw [if_neg hl] at hj; cases hj
  · rw [if_neg e] at hj ⊢; exact h.2 _ _ hj
theorem VRs.of_arr {μ : Mu} {c c' : Array Value} (hc : c.size = c'.size) (h : ∀ j (h : j < c.size) (h' : j < c'.size), VR μ c[j] c'[j]) : VRs μ c.toList c'.toList := by
  refine ⟨by simpa using hc, fun j u hj => ?_⟩
  obtain ⟨hj1, rfl⟩ := List.getElem?_eq_some_iff.1 hj
  have h1 : j < c.size := by simpa using hj1
  have h2 : j < c'.size := by omega
  exact ⟨c'[j], by simp [h2], by simpa using h j h1 h2⟩
theorem VRs.arr {μ : Mu} {c c' : Array Value} (h : VRs μ c.toList c'.toList) : c.size = c'.size ∧ ∀ j (h : j < c.size) (h' : j < c'.size), VR μ c[j] c'[j] := by
  refine ⟨by simpa using h.1, fun j h1 h2 => ?_⟩
  obtain ⟨u', e, r⟩ := h.2 j c[j] (by simp [h1])
  simp [h2] at e
  subst e; exact r
theorem VRs.agg {μ : Mu} {c c' : Array Value} (h : VRs μ c.toList c'.toList) : VR μ (.agg c) (.agg c') := .agg c c' h.arr.1 h.arr.2
theorem VRs.tuple {μ : Mu} {c c' : Array Value} (h : VRs μ c.toList c'.toList) : VR μ (.tuple c) (.tuple c') := .tuple c c' h.arr.1 h.arr.2
theorem VRs.agg_list {μ : Mu} {c c' : List Value} (h : VRs μ c c') : VR μ (.agg c.toArray) (.agg c'.toArray) := VRs.agg (by simpa using h)

/-! inversion -/
theorem VR.bool {μ : Mu} {b : Bool} {v : Value} (h : VR μ (.bool b) v) : v = .bool b := by cases h; rfl
theorem VR.int {μ : Mu} {k : IntKind} {n : Int} {v : Value} (h : VR μ (.int k n) v) : v = .int k n := by cases h; rfl
theorem VR.string {μ : Mu} {s : ByteArray} {v : Value} (h : VR μ (.string s) v) : v = .string s := by cases h; rfl
theorem VR.pnil {μ : Mu} {v : Value} (h : VR μ (.pointer none) v) : v = .pointer none := by cases h; rfl
theorem VR.nilFunc {μ : Mu} {v : Value} (h : VR μ .nilFunc v) : v = .nilFunc := by cases h; rfl
theorem VR.ptr_inv {μ : Mu} {a : Addr} {v : Value} (h : VR μ (.pointer (some a)) v) : ∃ i off l, a = ⟨i, off, none⟩ ∧ μ i = some l ∧ v = .pointer (some ⟨l.b, l.o + off, none⟩) := by
  cases h with
  | plain _ h => simp [plainV] at h
  | ptr i off l h => exact ⟨i, off, l, rfl, h, rfl⟩
theorem VR.pointer_inv {μ : Mu} {a : Option Addr} {v : Value} (h : VR μ (.pointer a) v) : ∃ a', v = .pointer a' ∧ a'.isNone = a.isNone := by
  cases h with
  | plain _ h => exact ⟨_, rfl, rfl⟩
  | ptr i off l h => exact ⟨_, rfl, rfl⟩
theorem VR.slice_nil {μ : Mu} {n c : Nat} {v : Value} (h : VR μ (.slice none n c) v) : n = 0 ∧ c = 0 ∧ v = .slice none 0 0 := by
  cases h with
  | plain _ h =>
    cases n <;> cases c <;> simp [plainV] at h
    exact ⟨rfl, rfl, rfl⟩
theorem VR.slice_some {μ : Mu} {a : Addr} {n c : Nat} {v : Value} (h : VR μ (.slice (some a) n c) v) :
    (∃ i off cap' l, a = ⟨i, off, none⟩ ∧ μ i = some l ∧ n ≤ c ∧ c ≤ cap' ∧ l.o + off + cap' * l.es ≤ l.sz ∧ v = .slice (some ⟨l.b, l.o + off, none⟩) n cap') ∨
    (∃ i off a', a = ⟨i, off, none⟩ ∧ n = 0 ∧ c = 0 ∧ v = .slice (some a') 0 0) := by
  cases h with
  | plain _ h => simp [plainV] at h
  | slice i off len cap cap' l h h1 h2 h3 => exact .inl ⟨i, off, cap', l, rfl, h, h1, h2, h3, rfl⟩
  | slice0 i off a' => exact .inr ⟨i, off, a', rfl, rfl, rfl, rfl⟩
theorem VR.slice_any {μ : Mu} {a : Option Addr} {n c : Nat} {v : Value} (h : VR μ (.slice a n c) v) : n ≤ c ∧ ∃ a' c', v = .slice a' n c' ∧ a'.isNone = a.isNone ∧ c ≤ c' := by
  cases a with
  | none => obtain ⟨rfl, rfl, rfl⟩ := h.slice_nil; exact ⟨Nat.le_refl _, none, 0, rfl, rfl, Nat.le_refl _⟩
  | some a =>
    rcases h.slice_some with ⟨i, off, cap', l, _, _, h1, h2, _, rfl⟩ | ⟨i, off, a', _, rfl, rfl, rfl⟩
    · exact ⟨h1, _, _, rfl, rfl, h2⟩
    · exact ⟨Nat.le_refl _, _, _, rfl, rfl, Nat.le_refl _⟩
theorem VR.agg_inv {μ : Mu} {c : Array Value} {v : Value} (h : VR μ (.agg c) v) : ∃ c', v = .agg c' ∧ VRs μ c.toList c'.toList := by
  cases h with
  | plain _ h => simp [plainV] at h
  | agg _ c' hc h => exact ⟨c', rfl, VRs.of_arr hc h⟩
theorem VR.tuple_inv {μ : Mu} {c : Array Value} {v : Value} (h : VR μ (.tuple c) v) : ∃ c', v = .tuple c' ∧ VRs μ c.toList c'.toList := by
  cases h with
  | plain _ h => simp [plainV] at h
  | tuple _ c' hc h => exact ⟨c', rfl, VRs.of_arr hc h⟩
theorem VR.func_inv {μ : Mu} {fn : Fn} {f c : Array Value} {v : Value} (h : VR μ (.func fn f c) v) : ∃ f' c', v = .func fn f' c' ∧ VRs μ f.toList f'.toList ∧ VRs μ c.toList c'.toList := by
  cases h with
  | plain _ h => simp [plainV] at h
  | func _ _ f' _ c' hf hc h1 h2 => exact ⟨f', c', rfl, VRs.of_arr hf h1, VRs.of_arr hc h2⟩

theorem VR.closed {μ : Mu} {v : Value} (h : closedV v = true) : VR μ v v := by
  cases v with
  | agg cs =>
    simp only [closedV, List.all_eq_true] at h
    refine .agg cs cs rfl fun j h1 h2 => .plain _ (h _ ?_)
    simp
  | _ => exact .plain _ h
theorem VRs.cells {μ : Mu} {v v' : Value} (h : VR μ v v') (hk : known v = true) : VRs μ v.cells.toList v'.cells.toList := by
  cases h with
  | unk => simp [known] at hk
  | plain v h =>
    have : VR μ v v := .plain v h
    cases v <;> first | exact VRs.cons this .nil | (simp [plainV] at h)
  | ptr i off l h => exact VRs.cons (.ptr i off l h) .nil
  | slice i off len cap cap' l h h1 h2 h3 => exact VRs.cons (.slice i off len cap cap' l h h1 h2 h3) .nil
  | slice0 i off a => exact VRs.cons (.slice0 i off a) .nil
  | func fn f f' c c' hf hc h1 h2 => exact VRs.cons (.func fn f f' c c' hf hc h1 h2) .nil
  | agg c c' hc h => exact VRs.of_arr hc h
  | tuple c c' hc h => exact VRs.cons (.tuple c c' hc h) .nil
theorem VR.oneCell {μ : Mu} {v v' : Value} (h : VR μ v v') (hk : oneCell v = true) : v'.oneCell' = true := by
  cases h with
  | plain v h => cases v <;> first | rfl | (simp [plainV] at h)
  | _ => first | rfl | (simp [Am.oneCell] at hk)
theorem VRs.oneCells {μ : Mu} {l l' : List Value} (h : VRs μ l l') (hk : l.all oneCell = true) : ∀ v ∈ l', v.oneCell' = true := by
  intro v hv
  obtain ⟨j, hj, rfl⟩ := List.getElem_of_mem hv
  have hj' : j < l.length := by rw [h.1]; exact hj
  obtain ⟨u', e, r⟩ := h.2 j l[j] (List.getElem?_eq_getElem hj')
  rw [List.getElem?_eq_getElem hj] at e; cases e
  exact r.oneCell (List.all_eq_true.1 hk _ (List.getElem_mem hj'))

/-! the heap -/
structure BlkOk (μ : Mu) (w : World) (b : Blk) (l : Loc) : Prop where
  es : l.es = b.es
  one : b.cells.all oneCell = true
  row : ∃ cs ty fz, w.heap[l.b]? = some (.cells cs ty fz) ∧ cs.size = l.sz ∧ (b.ro = false → fz = (0, 0)) ∧ l.o + b.cells.length ≤ cs.size ∧
    VRs μ b.cells ((cs.toList.drop l.o).take b.cells.length)

structure Sim (μ : Mu) (H : Heap) (w : World) (B : Nat) : Prop where
  base : B ≤ w.heap.size
  ok : ∀ i b, H.get i = some b → ∃ l, μ i = some l ∧ BlkOk μ w b l
  dom : ∀ i, H.length ≤ i → μ i = none
  inj : ∀ i j b c l m, H.get i = some b → H.get j = some c → μ i = some l → μ j = some m → i ≠ j → b.ro = false → l.b ≠ m.b
  own : ∀ i b l, H.get i = some b → b.ro = false → μ i = some l → B ≤ l.b

theorem BlkOk.mono {μ μ' : Mu} (hm : μ.le μ') {w : World} {b : Blk} {l : Loc} (h : BlkOk μ w b l) : BlkOk μ' w b l :=
  ⟨h.es, h.one, let ⟨cs, ty, fz, h1, h2, h3, h4, h5⟩ := h.row; ⟨cs, ty, fz, h1, h2, h3, h4, h5.mono hm⟩⟩
theorem BlkOk.heap {μ : Mu} {w w' : World} {b : Blk} {l : Loc} (h : BlkOk μ w b l) (e : w'.heap[l.b]? = w.heap[l.b]?) : BlkOk μ w' b l :=
  ⟨h.es, h.one, let ⟨cs, ty, fz, h1, h2⟩ := h.row; ⟨cs, ty, fz, by rw [e]; exact h1, h2⟩⟩
theorem BlkOk.lt {μ : Mu} {w : World} {b : Blk} {l : Loc} (h : BlkOk μ w b l) : l.b < w.heap.size := by
  obtain ⟨cs, ty, fz, h1, _⟩ := h.row
  exact (Array.getElem?_eq_some_iff.1 h1).1

theorem Heap.get_lt {H : Heap} {i : Nat} {b : Blk} (h : H.get i = some b) : i < H.length := by
  unfold Heap.get at h
  by_cases hi : i < H.length
  · exact hi
  · rw [List.getElem?_eq_none (by omega)] at h; cases h
theorem Heap.get_new_old {H : Heap} {b : Blk} {i : Nat} (h : i < H.length) : (H.new b).get i = H.get i := by
  unfold Heap.get Heap.new; rw [List.getElem?_append_left h]
theorem Heap.get_new_self {H : Heap} {b : Blk} : (H.new b).get H.length = some b := by
  unfold Heap.get Heap.new; simp
theorem Heap.length_new {H : Heap} {b : Blk} : (H.new b).length = H.length + 1 := by simp [Heap.new]
theorem Heap.get_new {H : Heap} {b c : Blk} {i : Nat} (h : (H.new b).get i = some c) : (i = H.length ∧ c = b) ∨ (i < H.length ∧ H.get i = some c) := by
  have hl := Heap.get_lt h
  rw [Heap.length_new] at hl
  by_cases e : i = H.length
  · subst e; rw [Heap.get_new_self] at h; exact .inl ⟨rfl, by cases h; rfl⟩
  · right; rw [Heap.get_new_old (by omega)] at h; exact ⟨by omega, h⟩
theorem Heap.length_put {H : Heap} {b : Blk} {i : Nat} : (H.put i b).length = H.length := by simp [Heap.put]
theorem Heap.length_kill {H : Heap} {i : Nat} : (H.kill i).length = H.length := by simp [Heap.kill]
theorem Heap.get_put_self {H : Heap} {b : Blk} {i : Nat} (h : i < H.length) : (H.put i b).get i = some b := by
  unfold Heap.get Heap.put; simp [h]
theorem Heap.get_put_ne {H : Heap} {b : Blk} {i j : Nat} (h : j ≠ i) : (H.put i b).get j = H.get j := by
  unfold Heap.get Heap.put; rw [List.getElem?_set_ne (Ne.symm h)]
theorem Heap.get_kill_self {H : Heap} {i : Nat} : (H.kill i).get i = none := by
  unfold Heap.get Heap.kill
  by_cases h : i < H.length
  · simp [h]
  · rw [List.getElem?_eq_none (by simp; omega)]
theorem Heap.get_kill_ne {H : Heap} {i j : Nat} (h : j ≠ i) : (H.kill i).get j = H.get j := by
  unfold Heap.get Heap.kill; rw [List.getElem?_set_ne (Ne.symm h)]

theorem Sim.heap {μ : Mu} {H : Heap} {w w' : World} {B : Nat} (h : Sim μ H w B) (e : w'.heap = w.heap) : Sim μ H w' B :=
  ⟨by rw [e]; exact h.base, fun i b hb => let ⟨l, h1, h2⟩ := h.ok i b hb; ⟨l, h1, h2.heap (by rw [e])⟩, h.dom, h.inj, h.own⟩

/-- A block of its own is laid. -/
theorem Sim.alloc {μ : Mu} {H : Heap} {w : World} {B : Nat} (h : Sim μ H w B) (cs : List Value) (ty t : TypeId) (es : Nat) (cs' : Array Value) (n : Nat)
    (hn : n = cs'.size) (h1c : cs.all oneCell = true) (hle : cs.length ≤ cs'.size) (hv : VRs μ cs (cs'.toList.take cs.length)) :
    μ.le (μ.up H.length ⟨w.heap.size, 0, n, es⟩) ∧ Sim (μ.up H.length ⟨w.heap.size, 0, n, es⟩) (H.new ⟨cs, t, es, false⟩) (w.alloc (.cells cs' ty)) B := by
  subst hn
  have hle' := Mu.le_up (l := ⟨w.heap.size, 0, cs'.size, es⟩) (h.dom H.length (Nat.le_refl _))
  refine ⟨hle', by have := h.base; simp; omega, ?_, ?_, ?_, ?_⟩
  · intro i b hb
    rcases Heap.get_new hb with ⟨rfl, rfl⟩ | ⟨hi, hb⟩
    · refine ⟨_, Mu.up_self, rfl, h1c, cs', ty, (0, 0), ?_, rfl, fun _ => rfl, by simpa using hle, ?_⟩
      · show (w.heap.push _)[w.heap.size]? = _; simp
      · simpa using hv.mono hle'
    · obtain ⟨l, h1, h2⟩ := h.ok i b hb
      refine ⟨l, hle' _ _ h1, (h2.mono hle').heap ?_⟩
      exact Go.RowKit.Below.heap_alloc _ _ _ h2.lt
  · intro i hi
    rw [Heap.length_new] at hi
    rw [Mu.up_ne (by omega)]; exact h.dom i (by omega)
  · intro i j b c l m hb hc hl hm hij hro
    rcases Heap.get_new hb with ⟨rfl, rfl⟩ | ⟨hi, hb⟩ <;> rcases Heap.get_new hc with ⟨rfl, rfl⟩ | ⟨hj, hc⟩
    · exact absurd rfl hij
    · rw [Mu.up_self] at hl; cases hl
      rw [Mu.up_ne (by omega)] at hm
      obtain ⟨m', e, k⟩ := h.ok j c hc
      rw [hm] at e; cases e
      have := k.lt; show w.heap.size ≠ m.b; omega
    · rw [Mu.up_self] at hm; cases hm
      rw [Mu.up_ne (by omega)] at hl
      obtain ⟨l', e, k⟩ := h.ok i b hb
      rw [hl] at e; cases e
      have := k.lt; show l.b ≠ w.heap.size; omega
    · rw [Mu.up_ne (by omega)] at hl hm
      exact h.inj i j b c l m hb hc hl hm hij hro
  · intro i b l hb hro hl
    rcases Heap.get_new hb with ⟨rfl, rfl⟩ | ⟨hi, hb⟩
    · rw [Mu.up_self] at hl; cases hl; exact h.base
    · rw [Mu.up_ne (by omega)] at hl; exact h.own i b l hb hro hl

end Go.Proofs.YtpenlcigickkbaaA.Am
