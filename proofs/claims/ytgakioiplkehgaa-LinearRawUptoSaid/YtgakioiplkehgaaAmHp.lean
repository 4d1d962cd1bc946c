/-
Heaps: who owns which block; what an operation leaves as it was; slices of whole numbers. And what the operations tell of plain values.
-/
import Derived.Test.YtgakioiplkehgaaAmIn
import Derived.Test.YtgakioiplkehgaaAmK
namespace Go.Proofs.YtgakioiplkehgaaA.Am

abbrev cv (x : Int) : Value := .int .i64 x
abbrev pv (p : Nat) : Value := .pointer (some ⟨p, 0, none⟩)
variable {H H' : Heap}

theorem get_lt {p : Nat} {b : Blk} (h : H.get p = some b) : p < H.length := Heap.get_lt h
theorem get_put {p : Nat} {b c : Blk} (h : H.get p = some b) : (H.put p c).get p = some c := Heap.get_put_self (get_lt h)
theorem get_put_ne {p q : Nat} {c : Blk} (h : q ≠ p) : (H.put p c).get q = H.get q := Heap.get_put_ne h
theorem put_put {p : Nat} {b c : Blk} : (H.put p b).put p c = H.put p c := by simp [Heap.put]
theorem put_len (H : Heap) (p : Nat) (c : Blk) : (H.put p c).length = H.length := by simp [Heap.put]
theorem kill_len (H : Heap) (q : Nat) : (H.kill q).length = H.length := by simp [Heap.kill]
theorem new_len (H : Heap) (c : Blk) : (H.new c).length = H.length + 1 := by simp [Heap.new]
theorem get_new_lt {i : Nat} {c : Blk} (h : i < H.length) : (H.new c).get i = H.get i := Heap.get_new_old h
theorem get_new {c : Blk} : (H.new c).get H.length = some c := Heap.get_new_self
theorem get_kill_ne {q i : Nat} (h : i ≠ q) : (H.kill q).get i = H.get i := Heap.get_kill_ne h

/-! what the operations tell -/
section
variable {P : Program}
theorem lss_int (t : TypeId) (a b : Int) : abin P .lss t (cv a) (cv b) = some (.bool (decide (a < b))) := rfl
theorem gtr_int (t : TypeId) (a b : Int) : abin P .gtr t (cv a) (cv b) = some (.bool (decide (a > b))) := rfl
theorem leq_int (t : TypeId) (a b : Int) : abin P .leq t (cv a) (cv b) = some (.bool (decide (a ≤ b))) := rfl
theorem geq_int (t : TypeId) (a b : Int) : abin P .geq t (cv a) (cv b) = some (.bool (decide (a ≥ b))) := rfl
theorem eql_int (t : TypeId) (a b : Int) : abin P .eql t (cv a) (cv b) = some (.bool (decide (a = b))) := by
  have h : (a == b) = decide (a = b) := by by_cases e : a = b <;> simp [e]
  rw [← h]; rfl
theorem neq_int (t : TypeId) (a b : Int) : abin P .neq t (cv a) (cv b) = some (.bool (!decide (a = b))) := by
  have h : (a == b) = decide (a = b) := by by_cases e : a = b <;> simp [e]
  rw [← h]; rfl
theorem add_int (t : TypeId) (a b : Int) : abin P .add t (cv a) (cv b) = some (cv (IntKind.i64.wrap (a + b))) := rfl
theorem sub_int (t : TypeId) (a b : Int) : abin P .sub t (cv a) (cv b) = some (cv (IntKind.i64.wrap (a - b))) := rfl
theorem mul_int (t : TypeId) (a b : Int) : abin P .mul t (cv a) (cv b) = some (cv (IntKind.i64.wrap (a * b))) := rfl
theorem and_int (t : TypeId) (a b : Int) : abin P .and t (cv a) (cv b) = some (cv (bits .and .i64 a b)) := rfl
theorem or_int (t : TypeId) (a b : Int) : abin P .or t (cv a) (cv b) = some (cv (bits .or .i64 a b)) := rfl
theorem xor_int (t : TypeId) (a b : Int) : abin P .xor t (cv a) (cv b) = some (cv (bits .xor .i64 a b)) := rfl
theorem rem_int (t : TypeId) (a b : Int) (h : b ≠ 0) : abin P .rem t (cv a) (cv b) = some (cv (a.tmod b)) := by
  show (if b = 0 then none else _) = _; rw [if_neg h]
theorem quo_int (t : TypeId) (a b : Int) (h : b ≠ 0) : abin P .quo t (cv a) (cv b) = some (cv (IntKind.i64.wrap (a.tdiv b))) := by
  show (if b = 0 then none else _) = _; rw [if_neg h]
theorem not_bool (b : Bool) : aun .not (.bool b) = some (.bool !b) := rfl
theorem pick_bool (b : Bool) (x y : Value) (H : Heap) : pickS (.bool b) x y H = some (if b then x else y, H) := rfl
theorem fad_pv (off : Nat) (p o : Nat) (H : Heap) : fadS off (.pointer (some ⟨p, o, none⟩)) H = some (.pointer (some ⟨p, o + off, none⟩), H) := rfl
theorem nck_pv (p o : Nat) (H : Heap) : nckS (.pointer (some ⟨p, o, none⟩)) H = some (.pointer (some ⟨p, o, none⟩), H) := rfl
theorem ld1_pv (p o : Nat) (H : Heap) {b : Blk} (h : H.get p = some b) : ld1 (.pointer (some ⟨p, o, none⟩)) H = b.cells[o]? := by
  simp only [ld1, h]
theorem ext_i (vs : Array Value) (i : Nat) (H : Heap) : extS i (.tuple vs) H = (vs[i]?).map (·, H) := rfl
theorem conv64 (x : Int) (H : Heap) : convS .i64 (cv x) H = some (cv (IntKind.i64.wrap x), H) := rfl
theorem slen_s (b : Option Addr) (n c : Nat) : slen (.slice b n c) = some (cv n) := rfl
theorem st_pv (p o : Nat) (x : Int) (H : Heap) {b : Blk} (h : H.get p = some b) (hr : b.ro = false) (ho : o < b.cells.length) :
    stS 1 (.pointer (some ⟨p, o, none⟩)) (cv x) H = some (undef, H.put p { b with cells := b.cells.set o (cv x) }) := by
  simp only [stS, stCells, h]
  rw [if_pos ⟨rfl, rfl⟩]
  have : (!b.ro && decide (o + (cv x).cells.toList.length ≤ b.cells.length) && (cv x).cells.toList.all oneCell) = true := by
    rw [hr]; simp [Value.cells, oneCell]; omega
  rw [this]; rfl
theorem st_s (p o : Nat) (b0 : Option Addr) (n c : Nat) (H : Heap) {b : Blk} (h : H.get p = some b) (hr : b.ro = false) (ho : o < b.cells.length) :
    stS 1 (.pointer (some ⟨p, o, none⟩)) (.slice b0 n c) H = some (undef, H.put p { b with cells := b.cells.set o (.slice b0 n c) }) := by
  simp only [stS, stCells, h]
  rw [if_pos ⟨rfl, rfl⟩]
  have : (!b.ro && decide (o + (Value.slice b0 n c).cells.toList.length ≤ b.cells.length) && (Value.slice b0 n c).cells.toList.all oneCell) = true := by
    rw [hr]; simp [Value.cells, oneCell]; omega
  rw [this]; rfl
theorem st_p (p o : Nat) (x : Option Addr) (H : Heap) {b : Blk} (h : H.get p = some b) (hr : b.ro = false) (ho : o < b.cells.length) :
    stS 1 (.pointer (some ⟨p, o, none⟩)) (.pointer x) H = some (undef, H.put p { b with cells := b.cells.set o (.pointer x) }) := by
  simp only [stS, stCells, h]
  rw [if_pos ⟨rfl, rfl⟩]
  have : (!b.ro && decide (o + (Value.pointer x).cells.toList.length ≤ b.cells.length) && (Value.pointer x).cells.toList.all oneCell) = true := by
    rw [hr]; simp [Value.cells, oneCell]; omega
  rw [this]; rfl
theorem ptr_eql_nil {t e : TypeId} (o : Option Addr) (h : P.underlying t = some (.pointer e)) : abin P .eql t (.pointer o) (.pointer none) = some (.bool o.isNone) := by
  cases o <;> simp [abin, aequal, h, Op.maxDepth]
theorem ptr_neq_nil {t e : TypeId} (o : Option Addr) (h : P.underlying t = some (.pointer e)) : abin P .neq t (.pointer o) (.pointer none) = some (.bool (!o.isNone)) := by
  cases o <;> simp [abin, aequal, h, Op.maxDepth]
theorem bool_eql {t : TypeId} (a b : Bool) (h : P.underlying t = some .bool) : abin P .eql t (.bool a) (.bool b) = some (.bool (a == b)) := by
  simp [abin, aequal, h, Op.maxDepth]
theorem bool_neq {t : TypeId} (a b : Bool) (h : P.underlying t = some .bool) : abin P .neq t (.bool a) (.bool b) = some (.bool (!(a == b))) := by
  simp [abin, aequal, h, Op.maxDepth]
theorem slice_eql_nil {t e : TypeId} (b : Option Addr) (m c : Nat) (h : P.underlying t = some (.slice e)) : abin P .eql t (.slice b m c) (.slice none 0 0) = some (.bool b.isNone) := by
  cases b <;> simp [abin, aequal, h, Op.maxDepth]
end
theorem w64 {x : Int} (h : -9223372036854775808 ≤ x ∧ x ≤ 9223372036854775807) : IntKind.i64.wrap x = x := by rw [IntKind.wrap_i64]; omega
theorem in64 {x : Int} (h : (Lit.int .i64 x).wf = true) : -9223372036854775808 ≤ x ∧ x ≤ 9223372036854775807 := by
  simpa [Lit.wf, IntKind.min, IntKind.max, IntKind.signed, IntKind.bits] using h
theorem wrap_in (x : Int) : -9223372036854775808 ≤ IntKind.i64.wrap x ∧ IntKind.i64.wrap x ≤ 9223372036854775807 := by rw [IntKind.wrap_i64]; omega

/-! owners -/
abbrev Owner := Nat → Int
/-- Slots of others than these are as they were. -/
structure Fr (H : Heap) (o : Owner) (H' : Heap) (o' : Owner) (ps : List Int) : Prop where
  slot : ∀ i, i < H.length → o i ∉ ps → H'[i]? = H[i]?
  own : ∀ i, i < H.length → o' i = o i
  size : H.length ≤ H'.length
theorem Fr.same {o o' : Owner} {ps : List Int} (f : Fr H o H' o' ps) (i : Nat) (h : i < H.length) (hp : o i ∉ ps) : H'.get i = H.get i := by
  unfold Heap.get; rw [f.slot i h hp]
theorem Fr.oth {o o' : Owner} {ps : List Int} (f : Fr H o H' o' ps) (i : Nat) (h : i < H.length) (hp : o i ∉ ps) : H'.oth i = H.oth i := by
  unfold Heap.oth; rw [f.slot i h hp]
theorem Fr.refl (H : Heap) (o : Owner) (ps : List Int) : Fr H o H o ps := ⟨fun _ _ _ => rfl, fun _ _ => rfl, Nat.le_refl _⟩
theorem Fr.trans {H1 H2 : Heap} {o o1 o2 : Owner} {ps qs rs : List Int} (h : Fr H o H1 o1 ps) (k : Fr H1 o1 H2 o2 qs) (hp : ∀ i ∈ ps, i ∈ rs) (hq : ∀ i ∈ qs, i ∈ rs) : Fr H o H2 o2 rs :=
  ⟨fun i hi hn => by
    rw [k.slot i (Nat.lt_of_lt_of_le hi h.size) (fun e => hn (by rw [h.own i hi] at e; exact hq _ e)), h.slot i hi (fun e => hn (hp _ e))],
   fun i hi => by rw [k.own i (Nat.lt_of_lt_of_le hi h.size), h.own i hi], Nat.le_trans h.size k.size⟩
theorem Fr.tr {H1 H2 : Heap} {o o1 o2 : Owner} {ps : List Int} (h : Fr H o H1 o1 ps) (k : Fr H1 o1 H2 o2 ps) : Fr H o H2 o2 ps := h.trans k (fun _ h => h) (fun _ h => h)
theorem Fr.tr0 {H1 H2 : Heap} {o o1 o2 : Owner} {ps : List Int} (h : Fr H o H1 o1 ps) (k : Fr H1 o1 H2 o2 []) : Fr H o H2 o2 ps := h.trans k (fun _ h => h) (fun _ h => by cases h)
theorem Fr.wk {o o' : Owner} {ps qs : List Int} (h : Fr H o H' o' ps) (hp : ∀ i ∈ ps, i ∈ qs) : Fr H o H' o' qs := ⟨fun i hi hn => h.slot i hi fun e => hn (hp _ e), h.own, h.size⟩
theorem slot_set {i j : Nat} {x : Slot} (h : j ≠ i) : (H.set i x)[j]? = H[j]? := List.getElem?_set_ne (Ne.symm h)
theorem Fr.set {o o' : Owner} {ps : List Int} (h : Fr H o H' o' ps) {i : Nat} (x : Slot) (hi : i < H.length → o i ∈ ps) : Fr H o (H'.set i x) o' ps := by
  refine ⟨fun j hj hn => ?_, h.own, by rw [List.length_set]; exact h.size⟩
  rw [slot_set, h.slot j hj hn]
  rintro rfl; exact hn (hi hj)
theorem Fr.put {o o' : Owner} {ps : List Int} (h : Fr H o H' o' ps) {i : Nat} {c : Blk} (hi : i < H.length → o i ∈ ps) : Fr H o (H'.put i c) o' ps := h.set _ hi
theorem Fr.putO {o o' : Owner} {ps : List Int} (h : Fr H o H' o' ps) {i : Nat} {c : Other} (hi : i < H.length → o i ∈ ps) : Fr H o (H'.putO i c) o' ps := h.set _ hi
theorem Fr.kill {o o' : Owner} {ps : List Int} (h : Fr H o H' o' ps) {i : Nat} (hi : i < H.length → o i ∈ ps) : Fr H o (H'.kill i) o' ps := h.set _ hi
/-- The owner of a new block. -/
def Owner.up (o : Owner) (i : Nat) (p : Int) : Owner := fun j => if j = i then p else o j
theorem up_self {o : Owner} {i : Nat} {p : Int} : o.up i p i = p := by simp [Owner.up]
theorem up_ne {o : Owner} {i j : Nat} {p : Int} (h : j ≠ i) : o.up i p j = o j := by simp [Owner.up, h]
theorem Fr.new {o o' : Owner} {ps : List Int} (h : Fr H o H' o' ps) (c : Blk) (p : Int) : Fr H o (H'.new c) (o'.up H'.length p) ps := by
  have := h.size
  refine ⟨fun j hj hn => ?_, fun j hj => ?_, by rw [new_len]; omega⟩
  · unfold Heap.new; rw [List.getElem?_append_left (by omega), h.slot j hj hn]
  · rw [up_ne (by omega), h.own j hj]
theorem Fr.newO {o o' : Owner} {ps : List Int} (h : Fr H o H' o' ps) (c : Other) (p : Int) : Fr H o (H'.newO c) (o'.up H'.length p) ps := by
  have := h.size
  refine ⟨fun j hj hn => ?_, fun j hj => ?_, by unfold Heap.newO; rw [List.length_append]; omega⟩
  · unfold Heap.newO; rw [List.getElem?_append_left (by omega), h.slot j hj hn]
  · rw [up_ne (by omega), h.own j hj]
theorem Fr.holes {o o' : Owner} {ps : List Int} (h : Fr H o H' o' ps) (n : Nat) : Fr H o (H'.holes n) o' ps := by
  have := h.size
  refine ⟨fun j hj hn => ?_, h.own, by unfold Heap.holes; rw [List.length_append]; omega⟩
  unfold Heap.holes; rw [List.getElem?_append_left (by omega), h.slot j hj hn]

/-- A block of one's own. -/
def B1 (H : Heap) (o : Owner) (p : Nat) (b : Blk) : Prop := H.get p = some b ∧ o p = (p : Int)
theorem B1.fr {o o' : Owner} {ps : List Int} {p : Nat} {b : Blk} (h : B1 H o p b) (f : Fr H o H' o' ps) (hp : (p : Int) ∉ ps) : B1 H' o' p b :=
  ⟨by rw [f.same p (get_lt h.1) (by rw [h.2]; exact hp)]; exact h.1, by rw [f.own p (get_lt h.1)]; exact h.2⟩
theorem B1.lt {o : Owner} {p : Nat} {b : Blk} (h : B1 H o p b) : p < H.length := get_lt h.1
theorem B1.put {o : Owner} {p : Nat} {b c : Blk} (h : B1 H o p b) : B1 (H.put p c) o p c := ⟨get_put h.1, h.2⟩
theorem B1.new (H : Heap) (o : Owner) (b : Blk) : B1 (H.new b) (o.up H.length H.length) H.length b := ⟨get_new, up_self⟩

/-! slices of whole numbers -/
theorem splice_app (vs : List Value) : ∀ (A R : List Value), vs.length ≤ R.length → splice (A ++ R) A.length vs = A ++ vs ++ R.drop vs.length := by
  induction vs with
  | nil => intro A R _; simp [splice]
  | cons v vs ih =>
    intro A R h
    cases R with
    | nil => simp at h
    | cons r R =>
      have e : (A ++ r :: R).set A.length v = (A ++ [v]) ++ R := by simp
      have e2 : A.length + 1 = (A ++ [v]).length := by simp
      rw [splice, e, e2, ih _ _ (by simpa using h)]
      simp
theorem all_one (l : List Int) : (l.map cv).all oneCell = true := by simp [oneCell]
/-- A slice of ints, wherever it lies: nil, or at some block. -/
def Ints (H : Heap) (x : Value) (l : List Int) : Prop :=
  (x = .slice none 0 0 ∧ l = []) ∨ ∃ i off c, x = .slice (some ⟨i, off, none⟩) l.length c ∧ (l ≠ [] → ∃ b, H.get i = some b ∧ b.es = 1 ∧ off + l.length ≤ b.cells.length ∧ (b.cells.drop off).take l.length = l.map cv)
theorem Ints.src {x : Value} {l : List Int} (h : Ints H x l) : ∃ b c, x = .slice b l.length c ∧ srcCells H 1 l.length x = some (l.map cv) := by
  rcases h with ⟨rfl, rfl⟩ | ⟨i, off, c, rfl, hb⟩
  · exact ⟨none, 0, rfl, rfl⟩
  · refine ⟨_, _, rfl, ?_⟩
    by_cases e : l = []
    · subst e; simp [srcCells]
    · obtain ⟨b, h1, _, h2, h3⟩ := hb e
      have : l.length ≠ 0 := by simpa using e
      simp only [srcCells, this, if_false, ldCells, h1, Nat.mul_one]
      rw [if_pos h2, h3]
theorem Ints.len {x : Value} {l : List Int} (h : Ints H x l) : slen x = some (cv l.length) := by
  obtain ⟨b, c, rfl, _⟩ := h.src; rfl
theorem Ints.isSlice {x : Value} {l : List Int} (h : Ints H x l) : ∃ b c, x = .slice b l.length c := by
  obtain ⟨b, c, e, _⟩ := h.src; exact ⟨b, c, e⟩
/-- An element of it. -/
theorem Ints.idx {x : Value} {l : List Int} (h : Ints H x l) {j : Nat} (hj : j < l.length) :
    ∃ i off b, (∀ H', iadS 1 x (cv j) H' = some (.pointer (some ⟨i, off, none⟩), H')) ∧ H.get i = some b ∧ b.cells[off]? = some (cv (l.getD j 0)) := by
  rcases h with ⟨rfl, rfl⟩ | ⟨i, off, c, rfl, hb⟩
  · simp at hj
  · obtain ⟨b, h1, _, h2, h3⟩ := hb (by rintro rfl; simp at hj)
    refine ⟨i, off + j, b, fun H' => ?_, h1, ?_⟩
    · simp only [iadS]; rw [if_pos (by constructor <;> omega)]; simp
    · have := congrArg (·[j]?) h3
      simp only [List.getElem?_take, hj, if_true, List.getElem?_drop, List.getElem?_map] at this
      rw [this, List.getElem?_eq_getElem hj]; simp [List.getD_eq_getElem?_getD, List.getElem?_eq_getElem hj]
theorem Ints.keep {x : Value} {l : List Int} (h : Ints H x l) (hk : ∀ i b, x = .slice (some b) l.length i → l ≠ [] → H'.get b.block = H.get b.block) : Ints H' x l := by
  rcases h with h | ⟨i, off, c, rfl, hb⟩
  · exact .inl h
  · refine .inr ⟨i, off, c, rfl, fun e => ?_⟩
    obtain ⟨b, h1, h2⟩ := hb e
    exact ⟨b, by rw [hk c ⟨i, off, none⟩ rfl e]; exact h1, h2⟩
/-- With its owner. -/
def IntsR (H : Heap) (o : Owner) (q : Int) (x : Value) (l : List Int) : Prop := Ints H x l ∧ ∀ b n c, x = .slice (some b) n c → l ≠ [] → b.block < H.length ∧ o b.block = q
theorem IntsR.fr {o o' : Owner} {ps : List Int} {q : Int} {x : Value} {l : List Int} (h : IntsR H o q x l) (f : Fr H o H' o' ps) (hp : q ∉ ps) : IntsR H' o' q x l := by
  obtain ⟨h1, h2⟩ := h
  refine ⟨h1.keep fun i b e hne => ?_, fun b n c e hne => ?_⟩
  · obtain ⟨k1, k2⟩ := h2 b _ _ e hne
    exact f.same _ k1 (by rw [k2]; exact hp)
  · obtain ⟨k1, k2⟩ := h2 b _ _ e hne
    exact ⟨Nat.lt_of_lt_of_le k1 f.size, by rw [f.own _ k1]; exact k2⟩
theorem IntsR.nil {o : Owner} {q : Int} : IntsR H o q (.slice none 0 0) [] := ⟨.inl ⟨rfl, rfl⟩, fun b n c e _ => by cases e⟩

/-- A slice that one may write to: none, or a whole block of its own. -/
def Sli (H : Heap) (o : Owner) (p : Int) (s : Value) (cs : List Int) : Prop :=
  (s = .slice none 0 0 ∧ cs = []) ∨ ∃ q cap rest ty, s = .slice (some ⟨q, 0, none⟩) cs.length cap ∧ H.get q = some ⟨cs.map cv ++ rest, ty, 1, false⟩ ∧ cs.length + rest.length = cap ∧ o q = p
theorem Sli.ints {o : Owner} {p : Int} {s : Value} {cs : List Int} (h : Sli H o p s cs) : IntsR H o p s cs := by
  rcases h with ⟨rfl, rfl⟩ | ⟨q, cap, rest, ty, rfl, hb, hc, ho⟩
  · exact .nil
  · refine ⟨.inr ⟨q, 0, cap, rfl, fun _ => ⟨_, hb, rfl, by simp, by simp⟩⟩, fun b n c e _ => ?_⟩
    cases e; exact ⟨get_lt hb, ho⟩
theorem Sli.fr {o o' : Owner} {ps : List Int} {p : Int} {s : Value} {cs : List Int} (h : Sli H o p s cs) (f : Fr H o H' o' ps) (hp : p ∉ ps) : Sli H' o' p s cs := by
  rcases h with h | ⟨q, cap, rest, ty, hs, hb, hc, ho⟩
  · exact .inl h
  · exact .inr ⟨q, cap, rest, ty, hs, by rw [f.same q (get_lt hb) (by rw [ho]; exact hp)]; exact hb, hc, by rw [f.own q (get_lt hb)]; exact ho⟩
theorem Sli.isSlice {o : Owner} {p : Int} {s : Value} {cs : List Int} (h : Sli H o p s cs) : ∃ b c, s = .slice b cs.length c := by
  rcases h with ⟨rfl, rfl⟩ | ⟨q, cap, rest, ty, rfl, _⟩
  · exact ⟨_, _, rfl⟩
  · exact ⟨_, _, rfl⟩
/-- A block beside it turns. -/
theorem Sli.put {o : Owner} {p : Int} {i : Nat} {s : Value} {cs : List Int} {c : Blk} (h : Sli H o p s cs) (hi : ∀ n k, s ≠ .slice (some ⟨i, 0, none⟩) n k) : Sli (H.put i c) o p s cs := by
  rcases h with h | ⟨q, cap, rest, ty, rfl, hb, hc, ho⟩
  · exact .inl h
  · exact .inr ⟨q, cap, rest, ty, rfl, by rw [get_put_ne (by rintro rfl; exact hi _ _ rfl)]; exact hb, hc, ho⟩
/-- One of its cells turns. -/
theorem Sli.set {o : Owner} {p : Int} {s : Value} {cs : List Int} (h : Sli H o p s cs) {j : Nat} (hj : j < cs.length) (x : Int) :
    ∃ q b c, (∀ H', iadS 1 s (cv j) H' = some (.pointer (some ⟨q, j, none⟩), H')) ∧ H.get q = some b ∧ b.ro = false ∧ o q = p ∧ b.cells[j]? = some (cv (cs.getD j 0)) ∧ (∃ n k, s = .slice (some ⟨q, 0, none⟩) n k) ∧
      stS 1 (.pointer (some ⟨q, j, none⟩)) (cv x) H = some (undef, H.put q c) ∧ Sli (H.put q c) o p s (cs.set j x) := by
  rcases h with ⟨rfl, rfl⟩ | ⟨q, cap, rest, ty, rfl, hb, hc, ho⟩
  · simp at hj
  · refine ⟨q, _, ⟨(cs.set j x).map cv ++ rest, ty, 1, false⟩, fun H' => ?_, hb, rfl, ho, ?_, ⟨_, _, rfl⟩, ?_, .inr ⟨q, cap, rest, ty, by simp, get_put hb, by simpa using hc, ho⟩⟩
    · simp only [iadS]; rw [if_pos (by constructor <;> omega)]; simp
    · show (List.map cv cs ++ rest)[j]? = _
      rw [List.getElem?_append_left (by simpa using hj), List.getElem?_map, List.getElem?_eq_getElem hj]; simp [List.getD_eq_getElem?_getD, List.getElem?_eq_getElem hj]
    · rw [st_pv _ _ _ _ hb rfl (by simp; omega)]
      simp only [List.set_append, List.length_map, hj, if_true, List.map_set]
/-- Something is appended. -/
theorem app_spec {o : Owner} {p : Int} {s x : Value} {cs l : List Int} (t : TypeId) (hs : Sli H o p s cs) (hx : Ints H x l) (hb : cs.length + l.length ≤ 4294967296) :
    ∃ s' H' o', appS t 1 8 s x H = some (s', H') ∧ Sli H' o' p s' (cs ++ l) ∧ Fr H o H' o' [p] ∧ (∀ i, (∀ n k, s ≠ .slice (some ⟨i, 0, none⟩) n k) → i < H.length → H'.get i = H.get i ∧ o' i = o i ∧ ∀ n k, s' ≠ .slice (some ⟨i, 0, none⟩) n k) := by
  obtain ⟨b, c, rfl, hc⟩ := hx.src
  by_cases hl : l = []
  · subst hl
    refine ⟨s, H, o, ?_, by simpa using hs, .refl _ _ _, fun i hi _ => ⟨rfl, rfl, hi⟩⟩
    rcases hs with ⟨rfl, rfl⟩ | ⟨q, cap, rest, ty, rfl, hbk, hcap, ho⟩
    · simp only [appS, hc, Option.map_some]; simp
    · simp only [appS, hc, Option.map_some]
      rw [if_pos (by simp; omega)]; simp
  have hlen : l.length ≠ 0 := by simpa using hl
  rcases hs with ⟨rfl, rfl⟩ | ⟨q, cap, rest, ty, rfl, hbk, hcap, ho⟩
  · refine ⟨.slice (some ⟨H.length, 0, none⟩) l.length l.length, H.new ⟨l.map cv, t, 1, false⟩, o.up H.length p, ?_, ?_, (Fr.refl _ _ _).new _ _, fun i _ hi => ⟨get_new_lt hi, up_ne (by omega), fun n k e => by cases e; omega⟩⟩
    · simp only [appS, hc, Option.map_some]
      rw [if_neg (by omega), if_pos (by simp; simp at hb; omega)]
      simp
    · exact .inr ⟨H.length, l.length, [], t, by simp, by simpa using get_new, by simp, up_self⟩
  · have hql := get_lt hbk
    by_cases hfit : cs.length + l.length ≤ cap
    · refine ⟨.slice (some ⟨q, 0, none⟩) (cs ++ l).length cap, H.put q ⟨(cs ++ l).map cv ++ rest.drop l.length, ty, 1, false⟩, o, ?_, ?_, (Fr.refl _ _ _).put (fun _ => by simp [ho]), fun i hi _ => ⟨get_put_ne (by rintro rfl; exact hi _ _ rfl), rfl, fun n k e => by cases e; exact hi _ _ rfl⟩⟩
      · simp only [appS, hc, Option.map_some]
        rw [if_pos hfit, if_neg hlen]
        simp only [hbk, if_true, stCells]
        rw [if_pos (by simp [oneCell]; omega)]
        have e := splice_app (l.map cv) (cs.map cv) rest (by simp; omega)
        simp only [List.length_map] at e
        simp only [Nat.mul_one, Nat.zero_add, e, Option.map_some, List.map_append, List.length_append]
      · exact .inr ⟨q, cap, rest.drop l.length, ty, rfl, get_put hbk, by simp; omega, ho⟩
    · refine ⟨.slice (some ⟨H.length, 0, none⟩) (cs ++ l).length (cs ++ l).length, (H.kill q).new ⟨(cs ++ l).map cv, t, 1, false⟩, o.up H.length p, ?_, ?_, ?_, ?_⟩
      · simp only [appS, hc, Option.map_some]
        rw [if_neg hfit, if_pos (by simp; omega)]
        simp only [hbk]
        rw [if_pos (by simp; omega)]
        have e : ldCells H q 0 (cs.length * 1) = some (cs.map cv) := by
          simp only [ldCells, hbk]
          rw [if_pos (by simp)]
          simp
        simp only [e, List.map_append, List.length_append]
      · have := get_new (H := H.kill q) (c := ⟨(cs ++ l).map cv, t, 1, false⟩)
        rw [kill_len] at this
        exact .inr ⟨H.length, (cs ++ l).length, [], t, rfl, by simpa using this, by simp, up_self⟩
      · have := ((Fr.refl H o [p]).kill (i := q) (fun _ => by simp [ho])).new ⟨(cs ++ l).map cv, t, 1, false⟩ p
        rw [kill_len] at this
        exact this
      · intro i hi hil
        refine ⟨?_, up_ne (by omega), fun n k e => by cases e; omega⟩
        rw [get_new_lt (by rw [kill_len]; exact hil), get_kill_ne (by rintro rfl; exact hi _ _ rfl)]
/-- A new slice of one's own. -/
theorem Sli.new (H : Heap) (o : Owner) (r : Int) (t : TypeId) (l : List Int) : Sli (H.new ⟨l.map cv, t, 1, false⟩) (o.up H.length r) r (.slice (some ⟨H.length, 0, none⟩) l.length l.length) l :=
  .inr ⟨H.length, l.length, [], t, rfl, by simpa using get_new, by simp, up_self⟩
/-! what came in -/
section
variable {P : Program} {f : Nat} {t e : TypeId}
def W64 (x : Int) : Prop := -9223372036854775808 ≤ x ∧ x ≤ 9223372036854775807
/-- Who owns what came in: nobody. -/
abbrev o0 : Owner := fun _ => -1
theorem In.int (ht : P.underlying t = some (.int .i64)) {cs : List Value} (h : In P H (f + 1) t cs) : ∃ a, cs = [cv a] ∧ W64 a := by
  simp only [In, ht] at h
  obtain ⟨n, rfl, h⟩ := h
  exact ⟨n, rfl, in64 h⟩
theorem In.bool (ht : P.underlying t = some .bool) {cs : List Value} (h : In P H (f + 1) t cs) : ∃ a, cs = [.bool a] := by
  simp only [In, ht] at h; exact h
theorem In.slice (ht : P.underlying t = some (.slice e)) {cs : List Value} (h : In P H (f + 1) t cs) : cs = [.slice none 0 0] ∨ ∃ (i : Nat) (es : List (List Value)), cs = [.slice (some ⟨i, 0, none⟩) es.length es.length] ∧ es.length ≤ maxLen ∧
    (0 < es.length → H.get i = some ⟨es.flatten, e, P.cellsOf e, true⟩) ∧ ∀ x, x ∈ es → x.length = P.cellsOf e ∧ In P H f e x := by
  simp only [In, ht] at h; exact h
theorem In.struct {fs : Array Field} (ht : P.underlying t = some (.struct fs)) {cs : List Value} (h : In P H (f + 1) t cs) : InFields P (In P H f) fs.toList cs := by
  simp only [In, ht] at h; exact h
theorem In.ints (ht : P.underlying t = some (.slice e)) (he : P.underlying e = some (.int .i64)) (hc : P.cellsOf e = 1) {cs : List Value} (h : In P H (f + 2) t cs) :
    ∃ v l, cs = [v] ∧ IntsR H o0 (-1) v l ∧ (∀ x ∈ l, W64 x) ∧ l.length ≤ maxLen := by
  unfold In at h
  rw [ht] at h
  simp only at h
  rcases h with rfl | ⟨i, es, rfl, hm, hg, hall⟩
  · exact ⟨_, [], rfl, .nil, (fun x hx => by cases hx), by simp⟩
  · have : ∃ l : List Int, es = l.map (fun x => [cv x]) ∧ ∀ x ∈ l, W64 x := by
      clear hm hg
      induction es with
      | nil => exact ⟨[], rfl, fun x hx => by cases hx⟩
      | cons y es ih =>
        obtain ⟨l, rfl, hl⟩ := ih (fun x hx => hall x (List.mem_cons_of_mem _ hx))
        obtain ⟨a, rfl, ha⟩ := In.int he (hall y (List.mem_cons_self ..)).2
        exact ⟨a :: l, rfl, fun x hx => (List.mem_cons.1 hx).elim (fun e => e ▸ ha) (hl x)⟩
    obtain ⟨l, rfl, hl⟩ := this
    have hfl : (l.map (fun x => [cv x])).flatten = l.map cv := by
      clear hm hg hall hl
      induction l with
      | nil => rfl
      | cons a l ih => simp [ih]
    rw [hfl] at hg
    simp only [List.length_map] at hg hm
    refine ⟨_, l, rfl, ⟨.inr ⟨i, 0, l.length, by simp, fun hne => ⟨_, hg (List.length_pos_iff.2 hne), hc, by simp, by show (List.drop 0 (l.map cv)).take l.length = _; rw [List.drop_zero, List.take_of_length_le (by simp)]⟩⟩, fun b n c eq hne => ?_⟩, hl, hm⟩
    cases eq
    exact ⟨get_lt (hg (List.length_pos_iff.2 hne)), rfl⟩
def structIs (P : Program) (t : TypeId) (ts : List TypeId) : Bool := match P.underlying t with | some (.struct fs) => fs.toList.map (·.type) == ts | _ => false
theorem structIs_ex {ts : List TypeId} (h : structIs P t ts = true) : ∃ fs, P.underlying t = some (.struct fs) ∧ fs.toList.map (·.type) = ts := by
  unfold structIs at h
  split at h
  · rename_i fs e; exact ⟨fs, e, by simpa using h⟩
  · cases h
theorem InArg.one (hs : ∀ fs, P.underlying t ≠ some (.struct fs)) {v : Value} (h : InArg P H f t v) : In P H f t [v] := by
  obtain ⟨cs, h1, h2⟩ := h
  split at h2
  · rename_i fs e; exact absurd e (hs fs)
  · subst h2; exact h1
theorem InArg.int (ht : P.underlying t = some (.int .i64)) {v : Value} (h : InArg P H (f + 1) t v) : ∃ a, v = cv a ∧ W64 a := by
  obtain ⟨a, h1, h2⟩ := In.int ht (h.one (by simp [ht])); cases h1; exact ⟨a, rfl, h2⟩
theorem InArg.bool (ht : P.underlying t = some .bool) {v : Value} (h : InArg P H (f + 1) t v) : ∃ a, v = .bool a := by
  obtain ⟨a, h1⟩ := In.bool ht (h.one (by simp [ht])); cases h1; exact ⟨a, rfl⟩
theorem InArg.ints (ht : P.underlying t = some (.slice e)) (he : P.underlying e = some (.int .i64)) (hc : P.cellsOf e = 1) {v : Value} (h : InArg P H (f + 2) t v) :
    ∃ l, IntsR H o0 (-1) v l ∧ (∀ x ∈ l, W64 x) ∧ l.length ≤ maxLen := by
  obtain ⟨v', l, h1, h2⟩ := In.ints ht he hc (h.one (by simp [ht])); cases h1; exact ⟨l, h2⟩
end
end Go.Proofs.YtgakioiplkehgaaA.Am
