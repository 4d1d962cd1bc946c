/-
What the abstract machine's values and heap say of the model's: a relation under a map of blocks, and how each change of a heap keeps it.
-/
import Derived.Test.YtgakioiplkehgaaAmDef
import Derived.RangeFuncOwn
namespace Go.Proofs.YtgakioiplkehgaaA.Am

structure Loc where
  b : Nat
  o : Nat
  sz : Nat
  es : Nat

abbrev Mu := Nat → Option Loc
def Mu.le (μ μ' : Mu) : Prop := ∀ i l, μ i = some l → μ' i = some l
theorem Mu.le_refl (μ : Mu) : μ.le μ := fun _ _ h => h
theorem Mu.le_trans {a b c : Mu} (h : a.le b) (k : b.le c) : a.le c := fun i l e => k i l (h i l e)
def Mu.up (μ : Mu) (i : Nat) (l : Loc) : Mu := fun j => if j = i then some l else μ j
theorem Mu.le_up {μ : Mu} {i : Nat} {l : Loc} (h : μ i = none) : μ.le (μ.up i l) := by
  intro j m hj
  unfold Mu.up
  by_cases e : j = i
  · subst e; rw [h] at hj; cases hj
  · rw [if_neg e]; exact hj
theorem Mu.up_self {μ : Mu} {i : Nat} {l : Loc} : μ.up i l i = some l := by simp [Mu.up]
theorem Mu.up_ne {μ : Mu} {i j : Nat} {l : Loc} (h : j ≠ i) : μ.up i l j = μ j := by simp [Mu.up, h]

/-- A round's yield. -/
def isY : Fn → Bool
  | .yield _ => true
  | _ => false
inductive VR (μ : Mu) : Value → Value → Prop
  | unk (v : Value) : VR μ (.complex .f64 0 0) v
  | plain (v : Value) (h : plainV v = true) : VR μ v v
  | ptr (i off : Nat) (l : Loc) (h : μ i = some l) : VR μ (.pointer (some ⟨i, off, none⟩)) (.pointer (some ⟨l.b, l.o + off, none⟩))
  | slice (i off len cap cap' : Nat) (l : Loc) (h : μ i = some l) (h1 : len ≤ cap) (h2 : cap ≤ cap') (h3 : l.o + off + cap' * l.es ≤ l.sz) :
      VR μ (.slice (some ⟨i, off, none⟩) len cap) (.slice (some ⟨l.b, l.o + off, none⟩) len cap')
  | slice0 (i off : Nat) (a : Addr) : VR μ (.slice (some ⟨i, off, none⟩) 0 0) (.slice (some a) 0 0)
  | mapp (i : Nat) (l : Loc) (h : μ i = some l) : VR μ (.map (some i)) (.map (some l.b))
  | yld (i : Nat) (l : Loc) (h : μ i = some l) : VR μ (.func (.yield i) #[] #[]) (.func (.yield l.b) #[] #[])
  | func (fn : Fn) (f f' c c' : Array Value) (hy : isY fn = false) (hf : f.size = f'.size) (hc : c.size = c'.size)
      (h1 : ∀ j (h : j < f.size) (h' : j < f'.size), VR μ f[j] f'[j]) (h2 : ∀ j (h : j < c.size) (h' : j < c'.size), VR μ c[j] c'[j]) :
      VR μ (.func fn f c) (.func fn f' c')
  | agg (c c' : Array Value) (hc : c.size = c'.size) (h : ∀ j (h : j < c.size) (h' : j < c'.size), VR μ c[j] c'[j]) : VR μ (.agg c) (.agg c')
  | tuple (c c' : Array Value) (hc : c.size = c'.size) (h : ∀ j (h : j < c.size) (h' : j < c'.size), VR μ c[j] c'[j]) : VR μ (.tuple c) (.tuple c')

theorem VR.mono {μ μ' : Mu} (hm : μ.le μ') {v v' : Value} (h : VR μ v v') : VR μ' v v' := by
  induction h with
  | unk v => exact .unk v
  | plain v h => exact .plain v h
  | ptr i off l h => exact .ptr i off l (hm _ _ h)
  | slice i off len cap cap' l h h1 h2 h3 => exact .slice i off len cap cap' l (hm _ _ h) h1 h2 h3
  | slice0 i off a => exact .slice0 i off a
  | mapp i l h => exact .mapp i l (hm _ _ h)
  | yld i l h => exact .yld i l (hm _ _ h)
  | func fn f f' c c' hy hf hc _ _ i1 i2 => exact .func fn f f' c c' hy hf hc i1 i2
  | agg c c' hc _ ih => exact .agg c c' hc ih
  | tuple c c' hc _ ih => exact .tuple c c' hc ih

def VRs (μ : Mu) (l l' : List Value) : Prop := l.length = l'.length ∧ ∀ (j : Nat) (u : Value), l[j]? = some u → ∃ u' : Value, l'[j]? = some u' ∧ VR μ u u'

theorem VRs.mono {μ μ' : Mu} (hm : μ.le μ') {l l' : List Value} (h : VRs μ l l') : VRs μ' l l' :=
  ⟨h.1, fun j u hj => let ⟨u', a, b⟩ := h.2 j u hj; ⟨u', a, b.mono hm⟩⟩
theorem VRs.nil {μ : Mu} : VRs μ [] [] := ⟨rfl, fun j u h => by simp at h⟩
theorem VRs.cons {μ : Mu} {a b : Value} {x y : List Value} (h : VR μ a b) (k : VRs μ x y) : VRs μ (a :: x) (b :: y) := by
  refine ⟨by simp [k.1], fun j u hj => ?_⟩
  cases j with
  | zero => simp at hj; subst hj; exact ⟨b, rfl, h⟩
  | succ j => simp at hj ⊢; exact k.2 j u hj
theorem VRs.uncons {μ : Mu} {a : Value} {x l : List Value} (h : VRs μ (a :: x) l) : ∃ b y, l = b :: y ∧ VR μ a b ∧ VRs μ x y := by
  cases l with
  | nil => have := h.1; simp at this
  | cons b y =>
    obtain ⟨u', h1, h2⟩ := h.2 0 a rfl
    simp at h1; subst h1
    exact ⟨b, y, rfl, h2, by have := h.1; simpa using this, fun j u hj => by have := h.2 (j + 1) u (by simpa using hj); simpa using this⟩
theorem VRs.nil_inv {μ : Mu} {l : List Value} (h : VRs μ [] l) : l = [] := by
  exact List.eq_nil_of_length_eq_zero h.1.symm
theorem VRs.append {μ : Mu} {a b x y : List Value} (h : VRs μ a b) (k : VRs μ x y) : VRs μ (a ++ x) (b ++ y) := by
  induction a generalizing b with
  | nil => rw [VRs.nil_inv h]; exact k
  | cons v a ih => obtain ⟨c, z, rfl, h1, h2⟩ := h.uncons; exact .cons h1 (ih h2)
theorem VRs.drop {μ : Mu} {a b : List Value} (h : VRs μ a b) (n : Nat) : VRs μ (a.drop n) (b.drop n) := by
  refine ⟨by simp [h.1], fun j u hj => ?_⟩
  simp only [List.getElem?_drop] at hj ⊢
  exact h.2 _ _ hj
theorem VRs.take {μ : Mu} {a b : List Value} (h : VRs μ a b) (n : Nat) : VRs μ (a.take n) (b.take n) := by
  refine ⟨by simp [h.1], fun j u hj => ?_⟩
  simp only [List.getElem?_take] at hj ⊢
  split
  · rename_i hlt; rw [if_pos hlt] at hj; exact h.2 _ _ hj
  · rename_i hlt; rw [if_neg hlt] at hj; cases hj
theorem VRs.set {μ : Mu} {a b : List Value} (h : VRs μ a b) {u v : Value} (k : VR μ u v) (n : Nat) : VRs μ (a.set n u) (b.set n v) := by
  refine ⟨by simp [h.1], fun j x hj => ?_⟩
  rw [List.getElem?_set] at hj ⊢
  by_cases e : n = j
  · subst e
    rw [if_pos rfl] at hj ⊢
    by_cases hl : n < a.length
    · rw [if_pos hl] at hj; cases hj; exact ⟨v, by rw [if_pos (by rw [← h.1]; exact hl)], k⟩
    · rw [if_neg hl] at hj; cases hj
  · rw [if_neg e] at hj ⊢; exact h.2 _ _ hj
theorem VRs.of_arr {μ : Mu} {c c' : Array Value} (hc : c.size = c'.size) (h : ∀ j (h : j < c.size) (h' : j < c'.size), VR μ c[j] c'[j]) : VRs μ c.toList c'.toList := by
  refine ⟨by simpa using hc, fun j u hj => ?_⟩
  obtain ⟨hj1, rfl⟩ := List.getElem?_eq_some_iff.1 hj
  have h1 : j < c.size := by simpa using hj1
  have h2 : j < c'.size := by omega
  exact ⟨c'[j], by simp [h2], by simpa using h j h1 h2⟩
theorem VRs.arr {μ : Mu} {c c' : Array Value} (h : VRs μ c.toList c'.toList) : c.size = c'.size ∧ ∀ j (h : j < c.size) (h' : j < c'.size), VR μ c[j] c'[j] := by
  refine ⟨by simpa using h.1, fun j h1 h2 => ?_⟩
  obtain ⟨u', e, r⟩ := h.2 j c[j] (by simp [h1])
  simp [h2] at e
  subst e; exact r
theorem VRs.agg {μ : Mu} {c c' : Array Value} (h : VRs μ c.toList c'.toList) : VR μ (.agg c) (.agg c') := .agg c c' h.arr.1 h.arr.2
theorem VRs.tuple {μ : Mu} {c c' : Array Value} (h : VRs μ c.toList c'.toList) : VR μ (.tuple c) (.tuple c') := .tuple c c' h.arr.1 h.arr.2
theorem VRs.agg_list {μ : Mu} {c c' : List Value} (h : VRs μ c c') : VR μ (.agg c.toArray) (.agg c'.toArray) := VRs.agg (by simpa using h)

/-! inversion -/
theorem VR.bool {μ : Mu} {b : Bool} {v : Value} (h : VR μ (.bool b) v) : v = .bool b := by cases h; rfl
theorem VR.int {μ : Mu} {k : IntKind} {n : Int} {v : Value} (h : VR μ (.int k n) v) : v = .int k n := by cases h; rfl
theorem VR.string {μ : Mu} {s : ByteArray} {v : Value} (h : VR μ (.string s) v) : v = .string s := by cases h; rfl
theorem VR.pnil {μ : Mu} {v : Value} (h : VR μ (.pointer none) v) : v = .pointer none := by cases h; rfl
theorem VR.nilFunc {μ : Mu} {v : Value} (h : VR μ .nilFunc v) : v = .nilFunc := by cases h; rfl
theorem VR.ptr_inv {μ : Mu} {a : Addr} {v : Value} (h : VR μ (.pointer (some a)) v) : ∃ i off l, a = ⟨i, off, none⟩ ∧ μ i = some l ∧ v = .pointer (some ⟨l.b, l.o + off, none⟩) := by
  cases h with
  | plain _ h => simp [plainV] at h
  | ptr i off l h => exact ⟨i, off, l, rfl, h, rfl⟩
theorem VR.pointer_inv {μ : Mu} {a : Option Addr} {v : Value} (h : VR μ (.pointer a) v) : ∃ a', v = .pointer a' ∧ a'.isNone = a.isNone := by
  cases h with
  | plain _ h => exact ⟨_, rfl, rfl⟩
  | ptr i off l h => exact ⟨_, rfl, rfl⟩
theorem VR.slice_nil {μ : Mu} {n c : Nat} {v : Value} (h : VR μ (.slice none n c) v) : n = 0 ∧ c = 0 ∧ v = .slice none 0 0 := by
  cases h with
  | plain _ h =>
    cases n <;> cases c <;> simp [plainV] at h
    exact ⟨rfl, rfl, rfl⟩
theorem VR.slice_some {μ : Mu} {a : Addr} {n c : Nat} {v : Value} (h : VR μ (.slice (some a) n c) v) :
    (∃ i off cap' l, a = ⟨i, off, none⟩ ∧ μ i = some l ∧ n ≤ c ∧ c ≤ cap' ∧ l.o + off + cap' * l.es ≤ l.sz ∧ v = .slice (some ⟨l.b, l.o + off, none⟩) n cap') ∨
    (∃ i off a', a = ⟨i, off, none⟩ ∧ n = 0 ∧ c = 0 ∧ v = .slice (some a') 0 0) := by
  cases h with
  | plain _ h => simp [plainV] at h
  | slice i off len cap cap' l h h1 h2 h3 => exact .inl ⟨i, off, cap', l, rfl, h, h1, h2, h3, rfl⟩
  | slice0 i off a' => exact .inr ⟨i, off, a', rfl, rfl, rfl, rfl⟩
theorem VR.slice_any {μ : Mu} {a : Option Addr} {n c : Nat} {v : Value} (h : VR μ (.slice a n c) v) : n ≤ c ∧ ∃ a' c', v = .slice a' n c' ∧ a'.isNone = a.isNone ∧ c ≤ c' := by
  cases a with
  | none => obtain ⟨rfl, rfl, rfl⟩ := h.slice_nil; exact ⟨Nat.le_refl _, none, 0, rfl, rfl, Nat.le_refl _⟩
  | some a =>
    rcases h.slice_some with ⟨i, off, cap', l, _, _, h1, h2, _, rfl⟩ | ⟨i, off, a', _, rfl, rfl, rfl⟩
    · exact ⟨h1, _, _, rfl, rfl, h2⟩
    · exact ⟨Nat.le_refl _, _, _, rfl, rfl, Nat.le_refl _⟩
theorem VR.agg_inv {μ : Mu} {c : Array Value} {v : Value} (h : VR μ (.agg c) v) : ∃ c', v = .agg c' ∧ VRs μ c.toList c'.toList := by
  cases h with
  | plain _ h => simp [plainV] at h
  | agg _ c' hc h => exact ⟨c', rfl, VRs.of_arr hc h⟩
theorem VR.tuple_inv {μ : Mu} {c : Array Value} {v : Value} (h : VR μ (.tuple c) v) : ∃ c', v = .tuple c' ∧ VRs μ c.toList c'.toList := by
  cases h with
  | plain _ h => simp [plainV] at h
  | tuple _ c' hc h => exact ⟨c', rfl, VRs.of_arr hc h⟩
theorem VR.func_inv {μ : Mu} {fn : Fn} {f c : Array Value} {v : Value} (h : VR μ (.func fn f c) v) (hy : isY fn = false) : ∃ f' c', v = .func fn f' c' ∧ VRs μ f.toList f'.toList ∧ VRs μ c.toList c'.toList := by
  cases h with
  | plain _ h => simp [plainV] at h
  | yld => cases hy
  | func _ _ f' _ c' _ hf hc h1 h2 => exact ⟨f', c', rfl, VRs.of_arr hf h1, VRs.of_arr hc h2⟩
theorem VR.func_any {μ : Mu} {fn : Fn} {f c : Array Value} {v : Value} (h : VR μ (.func fn f c) v) : ∃ fn' f' c', v = .func fn' f' c' := by
  cases h with
  | plain _ h => simp [plainV] at h
  | yld => exact ⟨_, _, _, rfl⟩
  | func _ _ f' _ c' _ hf hc h1 h2 => exact ⟨_, f', c', rfl⟩
theorem VR.yld_inv {μ : Mu} {i : Nat} {f c : Array Value} {v : Value} (h : VR μ (.func (.yield i) f c) v) : f = #[] ∧ c = #[] ∧ ∃ l, μ i = some l ∧ v = .func (.yield l.b) #[] #[] := by
  cases h with
  | plain _ h => simp [plainV] at h
  | yld _ l h => exact ⟨rfl, rfl, l, h, rfl⟩
  | func _ _ f' _ c' hy hf hc h1 h2 => cases hy

theorem VR.closed {μ : Mu} {v : Value} (h : closedV v = true) : VR μ v v := by
  cases v with
  | agg cs =>
    simp only [closedV, List.all_eq_true] at h
    refine .agg cs cs rfl fun j h1 h2 => .plain _ (h _ ?_)
    simp
  | _ => exact .plain _ h
theorem VRs.cells {μ : Mu} {v v' : Value} (h : VR μ v v') (hk : known v = true) : VRs μ v.cells.toList v'.cells.toList := by
  cases h with
  | unk => simp [known] at hk
  | plain v h =>
    have : VR μ v v := .plain v h
    cases v <;> first | exact VRs.cons this .nil | (simp [plainV] at h)
  | ptr i off l h => exact VRs.cons (.ptr i off l h) .nil
  | slice i off len cap cap' l h h1 h2 h3 => exact VRs.cons (.slice i off len cap cap' l h h1 h2 h3) .nil
  | slice0 i off a => exact VRs.cons (.slice0 i off a) .nil
  | mapp i l h => exact VRs.cons (.mapp i l h) .nil
  | yld i l h => exact VRs.cons (.yld i l h) .nil
  | func fn f f' c c' hy hf hc h1 h2 => exact VRs.cons (.func fn f f' c c' hy hf hc h1 h2) .nil
  | agg c c' hc h => exact VRs.of_arr hc h
  | tuple c c' hc h => exact VRs.cons (.tuple c c' hc h) .nil
theorem VR.oneCell {μ : Mu} {v v' : Value} (h : VR μ v v') (hk : oneCell v = true) : v'.oneCell' = true := by
  cases h with
  | plain v h => cases v <;> first | rfl | (simp [plainV] at h)
  | _ => first | rfl | (simp [Am.oneCell] at hk)
theorem VRs.oneCells {μ : Mu} {l l' : List Value} (h : VRs μ l l') (hk : l.all oneCell = true) : ∀ v ∈ l', v.oneCell' = true := by
  intro v hv
  obtain ⟨j, hj, rfl⟩ := List.getElem_of_mem hv
  have hj' : j < l.length := by rw [h.1]; exact hj
  obtain ⟨u', e, r⟩ := h.2 j l[j] (List.getElem?_eq_getElem hj')
  rw [List.getElem?_eq_getElem hj] at e; cases e
  exact r.oneCell (List.all_eq_true.1 hk _ (List.getElem_mem hj'))

/-! the heap -/
structure BlkOk (μ : Mu) (w : World) (b : Blk) (l : Loc) : Prop where
  es : l.es = b.es
  one : b.cells.all oneCell = true
  /-- What lies behind its cells holds no address. -/
  spare : b.ro = false → ∀ (cs : Array Value) ty fz, w.heap[l.b]? = some (.cells cs ty fz) → ∀ (k : Nat) (v : Value), l.o + b.cells.length ≤ k → cs[k]? = some v → plainV v = true
  row : ∃ cs ty fz, w.heap[l.b]? = some (.cells cs ty fz) ∧ cs.size = l.sz ∧ (b.ro = false → fz = (0, 0)) ∧ l.o + b.cells.length ≤ cs.size ∧
    VRs μ b.cells ((cs.toList.drop l.o).take b.cells.length)

/-- An environment, as a function of slots, and what the slots hold. -/
def EnvR (μ : Mu) (E : Nat → Value) (tmps : Array Value) : Prop := ∀ t, VR μ (E t) (tmps.getD t undef)
theorem EnvR.mono {μ μ' : Mu} {E : Nat → Value} {tmps : Array Value} (h : EnvR μ E tmps) (hm : μ.le μ') : EnvR μ' E tmps := fun t => (h t).mono hm

/-! what is no cells -/
def stOk (s : LState) (r : Loop) : Prop := match s with
  | .ready => r.state = .ready ∧ r.pending = none
  | .busy => r.state = .busy
  | .ret => r.state = .done ∧ r.pending = some .ret
  | .exit id => r.state = .done ∧ r.pending = some (.exit id)
def OthOk (P : Program) (μ : Mu) (w : World) : Other → Nat → Prop
  | .loop L s, b => ∃ r N, w.heap[b]? = some (.loop r) ∧ r.params = L.ps ∧ r.assign = L.assign ∧ r.body = L.body ∧ N ≤ r.tmps.size ∧ okCode P N (.rangeFunc (.global 0) L.ps L.assign L.body) = true ∧ EnvR μ (Env.get (L.keep.zip L.vs)) r.tmps ∧ stOk s r
  | .tab k es, b => ∃ ms clock, w.heap[b]? = some (.map ms clock) ∧ (ms.toList.map (·.key)) = es.map (fun e => Value.int k e.1) ∧ VRs μ (es.map (·.2)) (ms.toList.map (·.val))
theorem OthOk.at {P : Program} {μ : Mu} {w : World} {o : Other} {b : Nat} (h : OthOk P μ w o b) : ∃ x, w.heap[b]? = some x ∧ x.isCells = false := by
  cases o with
  | loop L s => obtain ⟨r, N, h1, _⟩ := h; exact ⟨_, h1, rfl⟩
  | tab k es => obtain ⟨ms, c, h1, _⟩ := h; exact ⟨_, h1, rfl⟩
theorem OthOk.mono {P : Program} {μ μ' : Mu} (hm : μ.le μ') {w : World} {o : Other} {b : Nat} (h : OthOk P μ w o b) : OthOk P μ' w o b := by
  cases o with
  | loop L s => obtain ⟨r, N, h1, h2, h3, h4, h5, h6, h7, h8⟩ := h; exact ⟨r, N, h1, h2, h3, h4, h5, h6, h7.mono hm, h8⟩
  | tab k es => obtain ⟨ms, c, h1, h2, h3⟩ := h; exact ⟨ms, c, h1, h2, h3.mono hm⟩
theorem OthOk.heap {P : Program} {μ : Mu} {w w' : World} {o : Other} {b : Nat} (h : OthOk P μ w o b) (e : w'.heap[b]? = w.heap[b]?) : OthOk P μ w' o b := by
  cases o with
  | loop L s => obtain ⟨r, N, h1, h2⟩ := h; exact ⟨r, N, by rw [e]; exact h1, h2⟩
  | tab k es => obtain ⟨ms, c, h1, h2⟩ := h; exact ⟨ms, c, by rw [e]; exact h1, h2⟩
theorem OthOk.lt {P : Program} {μ : Mu} {w : World} {o : Other} {b : Nat} (h : OthOk P μ w o b) : b < w.heap.size := by
  obtain ⟨x, h1, _⟩ := h.at
  exact (Array.getElem?_eq_some_iff.1 h1).1

structure Oth (P : Program) (μ : Mu) (H : Heap) (w : World) (B : Nat) : Prop where
  ok : ∀ i o, H.oth i = some o → ∃ l, μ i = some l ∧ B ≤ l.b ∧ OthOk P μ w o l.b
  inj : ∀ i j o p l m, H.oth i = some o → H.oth j = some p → μ i = some l → μ j = some m → i ≠ j → l.b ≠ m.b
theorem Oth.keep {P : Program} {μ μ' : Mu} {H H' : Heap} {w w' : World} {B : Nat} (h : Oth P μ H w B) (hm : μ.le μ') (hH : ∀ i o, H'.oth i = some o → H.oth i = some o)
    (hw : ∀ (b : Nat) (x : Obj), w.heap[b]? = some x → x.isCells = false → w'.heap[b]? = some x) : Oth P μ' H' w' B := by
  refine ⟨fun i o hi => ?_, fun i j o p l m hi hj hl hm' hij => ?_⟩
  · obtain ⟨l, h1, h2, h3⟩ := h.ok i o (hH i o hi)
    obtain ⟨x, h4, h5⟩ := h3.at
    exact ⟨l, hm _ _ h1, h2, (h3.mono hm).heap (by rw [h4]; exact hw _ _ h4 h5)⟩
  · obtain ⟨l1, k1, _⟩ := h.ok i o (hH i o hi)
    obtain ⟨m1, k2, _⟩ := h.ok j p (hH j p hj)
    have e1 := hm _ _ k1; rw [hl] at e1; cases e1
    have e2 := hm _ _ k2; rw [hm'] at e2; cases e2
    exact h.inj i j o p l m (hH i o hi) (hH j p hj) k1 k2 hij

structure Sim (P : Program) (μ : Mu) (H : Heap) (w : World) (B : Nat) : Prop where
  base : B ≤ w.heap.size
  ok : ∀ i b, H.get i = some b → ∃ l, μ i = some l ∧ BlkOk μ w b l
  dom : ∀ i, H.length ≤ i → μ i = none
  inj : ∀ i j b c l m, H.get i = some b → H.get j = some c → μ i = some l → μ j = some m → i ≠ j → b.ro = false → l.b ≠ m.b
  own : ∀ i b l, H.get i = some b → b.ro = false → μ i = some l → B ≤ l.b
  oth : Oth P μ H w B
  hol : ∀ i, H[i]? = some .hole → μ i = none

theorem BlkOk.mono {μ μ' : Mu} (hm : μ.le μ') {w : World} {b : Blk} {l : Loc} (h : BlkOk μ w b l) : BlkOk μ' w b l :=
  ⟨h.es, h.one, h.spare, let ⟨cs, ty, fz, h1, h2, h3, h4, h5⟩ := h.row; ⟨cs, ty, fz, h1, h2, h3, h4, h5.mono hm⟩⟩
theorem BlkOk.heap {μ : Mu} {w w' : World} {b : Blk} {l : Loc} (h : BlkOk μ w b l) (e : w'.heap[l.b]? = w.heap[l.b]?) : BlkOk μ w' b l :=
  ⟨h.es, h.one, by rw [e]; exact h.spare, let ⟨cs, ty, fz, h1, h2⟩ := h.row; ⟨cs, ty, fz, by rw [e]; exact h1, h2⟩⟩
theorem BlkOk.lt {μ : Mu} {w : World} {b : Blk} {l : Loc} (h : BlkOk μ w b l) : l.b < w.heap.size := by
  obtain ⟨cs, ty, fz, h1, _⟩ := h.row
  exact (Array.getElem?_eq_some_iff.1 h1).1

theorem Heap.get_iff {H : Heap} {i : Nat} {b : Blk} : H.get i = some b ↔ H[i]? = some (.blk b) := by
  unfold Heap.get
  split
  · rename_i c h; rw [h]; simp
  · rename_i h; constructor
    · intro e; cases e
    · intro e; exact absurd e (h b)
theorem Heap.oth_iff {H : Heap} {i : Nat} {o : Other} : H.oth i = some o ↔ H[i]? = some (.oth o) := by
  unfold Heap.oth
  split
  · rename_i c h; rw [h]; simp
  · rename_i h; constructor
    · intro e; cases e
    · intro e; exact absurd e (h o)
theorem Heap.get_congr {H H' : Heap} {i j : Nat} (h : H[i]? = H'[j]?) : H.get i = H'.get j := by unfold Heap.get; rw [h]
theorem Heap.oth_congr {H H' : Heap} {i j : Nat} (h : H[i]? = H'[j]?) : H.oth i = H'.oth j := by unfold Heap.oth; rw [h]
theorem Heap.get_lt {H : Heap} {i : Nat} {b : Blk} (h : H.get i = some b) : i < H.length := by
  exact (List.getElem?_eq_some_iff.1 (Heap.get_iff.1 h)).1
theorem Heap.oth_lt {H : Heap} {i : Nat} {o : Other} (h : H.oth i = some o) : i < H.length := by
  exact (List.getElem?_eq_some_iff.1 (Heap.oth_iff.1 h)).1
theorem Heap.oth_of_get {H : Heap} {i : Nat} {b : Blk} (h : H.get i = some b) : H.oth i = none := by
  rw [Heap.get_iff] at h; unfold Heap.oth; rw [h]
theorem Heap.get_of_oth {H : Heap} {i : Nat} {o : Other} (h : H.oth i = some o) : H.get i = none := by
  rw [Heap.oth_iff] at h; unfold Heap.get; rw [h]
theorem Heap.get_new_old {H : Heap} {b : Blk} {i : Nat} (h : i < H.length) : (H.new b).get i = H.get i := Heap.get_congr (List.getElem?_append_left h)
theorem Heap.get_new_self {H : Heap} {b : Blk} : (H.new b).get H.length = some b := by
  rw [Heap.get_iff]; unfold Heap.new; simp
theorem Heap.length_new {H : Heap} {b : Blk} : (H.new b).length = H.length + 1 := by simp [Heap.new]
theorem Heap.length_newO {H : Heap} {o : Other} : (H.newO o).length = H.length + 1 := by simp [Heap.newO]
theorem Heap.get_new {H : Heap} {b c : Blk} {i : Nat} (h : (H.new b).get i = some c) : (i = H.length ∧ c = b) ∨ (i < H.length ∧ H.get i = some c) := by
  have hl := Heap.get_lt h
  rw [Heap.length_new] at hl
  by_cases e : i = H.length
  · subst e; rw [Heap.get_new_self] at h; exact .inl ⟨rfl, by cases h; rfl⟩
  · right; rw [Heap.get_new_old (by omega)] at h; exact ⟨by omega, h⟩
theorem Heap.oth_new {H : Heap} {b : Blk} {i : Nat} {o : Other} (h : (H.new b).oth i = some o) : H.oth i = some o := by
  have hl := Heap.oth_lt h
  rw [Heap.length_new] at hl
  by_cases e : i = H.length
  · subst e; rw [Heap.oth_of_get Heap.get_new_self] at h; cases h
  · rw [← h]; exact Heap.oth_congr (List.getElem?_append_left (by omega)).symm
theorem Heap.oth_newO_self {H : Heap} {o : Other} : (H.newO o).oth H.length = some o := by
  rw [Heap.oth_iff]; unfold Heap.newO; simp
theorem Heap.oth_newO {H : Heap} {o p : Other} {i : Nat} (h : (H.newO o).oth i = some p) : (i = H.length ∧ p = o) ∨ (i < H.length ∧ H.oth i = some p) := by
  have hl := Heap.oth_lt h
  rw [Heap.length_newO] at hl
  by_cases e : i = H.length
  · subst e; rw [Heap.oth_newO_self] at h; exact .inl ⟨rfl, by cases h; rfl⟩
  · right; refine ⟨by omega, ?_⟩; rw [← h]; exact Heap.oth_congr (List.getElem?_append_left (by omega)).symm
theorem Heap.get_newO {H : Heap} {o : Other} {b : Blk} {i : Nat} (h : (H.newO o).get i = some b) : H.get i = some b := by
  have hl := Heap.get_lt h
  rw [Heap.length_newO] at hl
  by_cases e : i = H.length
  · subst e; rw [Heap.get_of_oth Heap.oth_newO_self] at h; cases h
  · rw [← h]; exact Heap.get_congr (List.getElem?_append_left (by omega)).symm
theorem Heap.get_newO_old {H : Heap} {o : Other} {i : Nat} (h : i < H.length) : (H.newO o).get i = H.get i := Heap.get_congr (List.getElem?_append_left h)
theorem Heap.length_put {H : Heap} {b : Blk} {i : Nat} : (H.put i b).length = H.length := by simp [Heap.put]
theorem Heap.length_putO {H : Heap} {o : Other} {i : Nat} : (H.putO i o).length = H.length := by simp [Heap.putO]
theorem Heap.length_kill {H : Heap} {i : Nat} : (H.kill i).length = H.length := by simp [Heap.kill]
theorem Heap.get_put_self {H : Heap} {b : Blk} {i : Nat} (h : i < H.length) : (H.put i b).get i = some b := by
  rw [Heap.get_iff]; unfold Heap.put; simp [h]
theorem Heap.get_put_ne {H : Heap} {b : Blk} {i j : Nat} (h : j ≠ i) : (H.put i b).get j = H.get j := Heap.get_congr (List.getElem?_set_ne (Ne.symm h))
theorem Heap.oth_put {H : Heap} {b c : Blk} {i j : Nat} {o : Other} (hb : H.get i = some b) (h : (H.put i c).oth j = some o) : H.oth j = some o := by
  by_cases e : j = i
  · subst e; rw [Heap.oth_of_get (Heap.get_put_self (Heap.get_lt hb))] at h; cases h
  · rw [← h]; exact Heap.oth_congr (List.getElem?_set_ne (Ne.symm e)).symm
theorem Heap.oth_putO_self {H : Heap} {o : Other} {i : Nat} (h : i < H.length) : (H.putO i o).oth i = some o := by
  rw [Heap.oth_iff]; unfold Heap.putO; simp [h]
theorem Heap.oth_putO_ne {H : Heap} {o : Other} {i j : Nat} (h : j ≠ i) : (H.putO i o).oth j = H.oth j := Heap.oth_congr (List.getElem?_set_ne (Ne.symm h))
theorem Heap.get_putO {H : Heap} {o p : Other} {i j : Nat} (ho : H.oth i = some o) : (H.putO i p).get j = H.get j := by
  by_cases e : j = i
  · subst e; rw [Heap.get_of_oth (Heap.oth_putO_self (Heap.oth_lt ho)), Heap.get_of_oth ho]
  · exact Heap.get_congr (List.getElem?_set_ne (Ne.symm e))
theorem Heap.get_kill_self {H : Heap} {i : Nat} : (H.kill i).get i = none := by
  unfold Heap.get Heap.kill
  by_cases h : i < H.length
  · simp [h]
  · rw [List.getElem?_eq_none (by simp; omega)]
theorem Heap.oth_kill_self {H : Heap} {i : Nat} : (H.kill i).oth i = none := by
  unfold Heap.oth Heap.kill
  by_cases h : i < H.length
  · simp [h]
  · rw [List.getElem?_eq_none (by simp; omega)]
theorem Heap.get_kill_ne {H : Heap} {i j : Nat} (h : j ≠ i) : (H.kill i).get j = H.get j := Heap.get_congr (List.getElem?_set_ne (Ne.symm h))
theorem Heap.oth_kill_ne {H : Heap} {i j : Nat} (h : j ≠ i) : (H.kill i).oth j = H.oth j := Heap.oth_congr (List.getElem?_set_ne (Ne.symm h))
theorem Heap.oth_kill {H : Heap} {i j : Nat} {o : Other} (h : (H.kill i).oth j = some o) : H.oth j = some o := by
  by_cases e : j = i
  · subst e; rw [Heap.oth_kill_self] at h; cases h
  · rw [← h, Heap.oth_kill_ne e]
theorem Heap.get_kill {H : Heap} {i j : Nat} {b : Blk} (h : (H.kill i).get j = some b) : H.get j = some b := by
  by_cases e : j = i
  · subst e; rw [Heap.get_kill_self] at h; cases h
  · rw [← h, Heap.get_kill_ne e]

theorem Heap.hole_new {H : Heap} {b : Blk} {i : Nat} (h : (H.new b)[i]? = some .hole) : H[i]? = some .hole ∧ i < H.length := by
  have hl := (List.getElem?_eq_some_iff.1 h).1
  unfold Heap.new at h hl
  by_cases e : i < H.length
  · rw [List.getElem?_append_left e] at h; exact ⟨h, e⟩
  · have : i = H.length := by simp at hl; omega
    subst this; simp at h
theorem Heap.hole_newO {H : Heap} {o : Other} {i : Nat} (h : (H.newO o)[i]? = some .hole) : H[i]? = some .hole ∧ i < H.length := by
  have hl := (List.getElem?_eq_some_iff.1 h).1
  unfold Heap.newO at h hl
  by_cases e : i < H.length
  · rw [List.getElem?_append_left e] at h; exact ⟨h, e⟩
  · have : i = H.length := by simp at hl; omega
    subst this; simp at h
theorem hole_set {H : Heap} {s : Slot} {i j : Nat} (hs : s ≠ .hole) (h : (H.set j s)[i]? = some .hole) : H[i]? = some .hole ∧ i ≠ j := by
  by_cases e : j = i
  · subst e
    rw [List.getElem?_set] at h
    simp only [if_true] at h
    split at h
    · cases h; exact absurd rfl hs
    · cases h
  · rw [List.getElem?_set_ne e] at h; exact ⟨h, Ne.symm e⟩
theorem Heap.hole_put {H : Heap} {b : Blk} {i j : Nat} (h : (H.put j b)[i]? = some .hole) : H[i]? = some .hole ∧ i ≠ j := hole_set (by simp) h
theorem Heap.hole_putO {H : Heap} {o : Other} {i j : Nat} (h : (H.putO j o)[i]? = some .hole) : H[i]? = some .hole ∧ i ≠ j := hole_set (by simp) h
theorem Heap.hole_kill {H : Heap} {i j : Nat} (h : (H.kill j)[i]? = some .hole) : H[i]? = some .hole ∧ i ≠ j := hole_set (by simp) h

theorem Sim.heap {P : Program} {μ : Mu} {H : Heap} {w w' : World} {B : Nat} (h : Sim P μ H w B) (e : w'.heap = w.heap) : Sim P μ H w' B :=
  ⟨by rw [e]; exact h.base, fun i b hb => let ⟨l, h1, h2⟩ := h.ok i b hb; ⟨l, h1, h2.heap (by rw [e])⟩, h.dom, h.inj, h.own, h.oth.keep μ.le_refl (fun _ _ h => h) (fun b x hb _ => by rw [e]; exact hb), h.hol⟩

/-- A block of its own is laid. -/
theorem Sim.alloc {P : Program} {μ : Mu} {H : Heap} {w : World} {B : Nat} (h : Sim P μ H w B) (cs : List Value) (ty t : TypeId) (es : Nat) (cs' : Array Value) (n : Nat)
    (hn : n = cs'.size) (h1c : cs.all oneCell = true) (hle : cs.length ≤ cs'.size) (hv : VRs μ cs (cs'.toList.take cs.length)) (hsp : ∀ (k : Nat) (v : Value), cs.length ≤ k → cs'[k]? = some v → plainV v = true) :
    μ.le (μ.up H.length ⟨w.heap.size, 0, n, es⟩) ∧ Sim P (μ.up H.length ⟨w.heap.size, 0, n, es⟩) (H.new ⟨cs, t, es, false⟩) (w.alloc (.cells cs' ty)) B := by
  subst hn
  have hle' := Mu.le_up (l := ⟨w.heap.size, 0, cs'.size, es⟩) (h.dom H.length (Nat.le_refl _))
  refine ⟨hle', by have := h.base; simp; omega, ?_, ?_, ?_, ?_, h.oth.keep hle' (fun _ _ => Heap.oth_new) (fun b x hb _ => (Go.RowKit.Below.heap_alloc _ _ _ (Array.getElem?_eq_some_iff.1 hb).1).trans hb), fun i hi => by obtain ⟨h1, h2⟩ := Heap.hole_new hi; rw [Mu.up_ne (by omega)]; exact h.hol i h1⟩
  · intro i b hb
    rcases Heap.get_new hb with ⟨rfl, rfl⟩ | ⟨hi, hb⟩
    · have hrow : (w.heap.push (.cells cs' ty (0, 0)))[w.heap.size]? = some (.cells cs' ty (0, 0)) := by simp
      refine ⟨_, Mu.up_self, rfl, h1c, (fun _ cs2 ty2 fz2 h2 k v hk hv2 => ?_), cs', ty, (0, 0), ?_, rfl, fun _ => rfl, by simpa using hle, ?_⟩
      · have h2' : (w.heap.push (.cells cs' ty (0, 0)))[w.heap.size]? = some (.cells cs2 ty2 fz2) := h2
        rw [hrow] at h2'; cases h2'
        exact hsp k v (by simpa using hk) hv2
      · show (w.heap.push _)[w.heap.size]? = _; simp
      · simpa using hv.mono hle'
    · obtain ⟨l, h1, h2⟩ := h.ok i b hb
      refine ⟨l, hle' _ _ h1, (h2.mono hle').heap ?_⟩
      exact Go.RowKit.Below.heap_alloc _ _ _ h2.lt
  · intro i hi
    rw [Heap.length_new] at hi
    rw [Mu.up_ne (by omega)]; exact h.dom i (by omega)
  · intro i j b c l m hb hc hl hm hij hro
    rcases Heap.get_new hb with ⟨rfl, rfl⟩ | ⟨hi, hb⟩ <;> rcases Heap.get_new hc with ⟨rfl, rfl⟩ | ⟨hj, hc⟩
    · exact absurd rfl hij
    · rw [Mu.up_self] at hl; cases hl
      rw [Mu.up_ne (by omega)] at hm
      obtain ⟨m', e, k⟩ := h.ok j c hc
      rw [hm] at e; cases e
      have := k.lt; show w.heap.size ≠ m.b; omega
    · rw [Mu.up_self] at hm; cases hm
      rw [Mu.up_ne (by omega)] at hl
      obtain ⟨l', e, k⟩ := h.ok i b hb
      rw [hl] at e; cases e
      have := k.lt; show l.b ≠ w.heap.size; omega
    · rw [Mu.up_ne (by omega)] at hl hm
      exact h.inj i j b c l m hb hc hl hm hij hro
  · intro i b l hb hro hl
    rcases Heap.get_new hb with ⟨rfl, rfl⟩ | ⟨hi, hb⟩
    · rw [Mu.up_self] at hl; cases hl; exact h.base
    · rw [Mu.up_ne (by omega)] at hl; exact h.own i b l hb hro hl

end Go.Proofs.YtgakioiplkehgaaA.Am
