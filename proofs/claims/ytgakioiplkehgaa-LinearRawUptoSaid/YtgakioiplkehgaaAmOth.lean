/-
What lies in the heap and is no cells: laid, turned, taken away.
-/
import Derived.Test.YtgakioiplkehgaaAmHeap
import Derived.RangeFuncNested
namespace Go.Proofs.YtgakioiplkehgaaA.Am
open Go.RowKit (Below)
variable {P : Program} {μ : Mu} {H H' : Heap} {w w1 : World} {B : Nat}

theorem BlkOk.ne {b : Blk} {l : Loc} (h : BlkOk μ w b l) {k : Nat} {x : Obj} (hk : w.heap[k]? = some x) (hx : x.isCells = false) : l.b ≠ k := by
  rintro rfl
  obtain ⟨cs, ty, fz, h1, _⟩ := h.row
  rw [h1] at hk; cases hk; cases hx

/-- What is no cells is laid, far enough. -/
theorem Sim.newO (h : Sim P μ H w B) (hw : ∀ k, k < w.heap.size → w1.heap[k]? = w.heap[k]?) (hs : w.heap.size ≤ w1.heap.size) {l : Nat} (hl : w.heap.size ≤ l) {o : Other} (ho : OthOk P μ w1 o l) :
    μ.le (μ.up H.length ⟨l, 0, 0, 0⟩) ∧ Sim P (μ.up H.length ⟨l, 0, 0, 0⟩) (H.newO o) w1 B := by
  have hle := Mu.le_up (l := ⟨l, 0, 0, 0⟩) (h.dom H.length (Nat.le_refl _))
  have back : ∀ {i : Nat} {m : Loc}, i < H.length → (μ.up H.length ⟨l, 0, 0, 0⟩) i = some m → μ i = some m := by
    intro i m hi hm
    rwa [Mu.up_ne (by omega)] at hm
  refine ⟨hle, Nat.le_trans h.base hs, ?_, ?_, ?_, ?_, ?_, fun k hk => by obtain ⟨h1, h2⟩ := Heap.hole_newO hk; rw [Mu.up_ne (by omega)]; exact h.hol k h1⟩
  · intro i b hb
    have hb := Heap.get_newO hb
    obtain ⟨m, h1, h2⟩ := h.ok i b hb
    exact ⟨m, hle _ _ h1, (h2.mono hle).heap (hw _ h2.lt)⟩
  · intro i hi
    rw [Heap.length_newO] at hi
    rw [Mu.up_ne (by omega)]; exact h.dom i (by omega)
  · intro i j b c m n hb hc hm hn hij hro
    have hb := Heap.get_newO hb
    have hc := Heap.get_newO hc
    exact h.inj i j b c m n hb hc (back (Heap.get_lt hb) hm) (back (Heap.get_lt hc) hn) hij hro
  · intro i b m hb hro hm
    have hb := Heap.get_newO hb
    exact h.own i b m hb hro (back (Heap.get_lt hb) hm)
  · refine ⟨?_, ?_⟩
    · intro i p hp
      rcases Heap.oth_newO hp with ⟨rfl, rfl⟩ | ⟨hi, hp⟩
      · exact ⟨_, Mu.up_self, Nat.le_trans h.base hl, ho.mono hle⟩
      · obtain ⟨m, h1, h2, h3⟩ := h.oth.ok i p hp
        exact ⟨m, hle _ _ h1, h2, (h3.mono hle).heap (hw _ h3.lt)⟩
    · intro i j p q m n hp hq hm hn hij
      rcases Heap.oth_newO hp with ⟨rfl, rfl⟩ | ⟨hi, hp1⟩ <;> rcases Heap.oth_newO hq with ⟨rfl, rfl⟩ | ⟨hj, hq1⟩
      · exact absurd rfl hij
      · rw [Mu.up_self] at hm; cases hm
        obtain ⟨n', e, _, k⟩ := h.oth.ok j q hq1
        have e2 := back hj hn
        rw [e] at e2; cases e2
        have := k.lt; show l ≠ n.b; omega
      · rw [Mu.up_self] at hn; cases hn
        obtain ⟨m', e, _, k⟩ := h.oth.ok i p hp1
        have e2 := back hi hm
        rw [e] at e2; cases e2
        have := k.lt; show m.b ≠ l; omega
      · exact h.oth.inj i j p q m n hp1 hq1 (back hi hm) (back hj hn) hij

/-- .. turned. -/
theorem Sim.putO (h : Sim P μ H w B) {i : Nat} {o o' : Other} {l : Loc} {x : Obj} (hi : H.oth i = some o) (hl : μ i = some l) (ho : OthOk P μ (w.putObj l.b x) o' l.b) : Sim P μ (H.putO i o') (w.putObj l.b x) B := by
  obtain ⟨l', e, hB, hok⟩ := h.oth.ok i o hi
  rw [hl] at e; cases e
  obtain ⟨y, hy, hyc⟩ := hok.at
  have hw : ∀ k, k ≠ l.b → (w.putObj l.b x).heap[k]? = w.heap[k]? := fun k hk => World.putObj_heap_other hk
  refine ⟨by simpa using h.base, ?_, fun k hk => h.dom k (by rw [Heap.length_putO] at hk; exact hk), ?_, ?_, ⟨?_, ?_⟩, fun k hk => h.hol k (Heap.hole_putO hk).1⟩
  · intro j b hb
    rw [Heap.get_putO hi] at hb
    obtain ⟨m, h1, h2⟩ := h.ok j b hb
    exact ⟨m, h1, h2.heap (hw _ (h2.ne hy hyc))⟩
  · intro j k b c m n hb hc
    rw [Heap.get_putO hi] at hb hc
    exact h.inj j k b c m n hb hc
  · intro j b m hb
    rw [Heap.get_putO hi] at hb
    exact h.own j b m hb
  · intro j p hp
    by_cases e : j = i
    · subst e
      rw [Heap.oth_putO_self (Heap.oth_lt hi)] at hp; cases hp
      exact ⟨l, hl, hB, ho⟩
    · rw [Heap.oth_putO_ne e] at hp
      obtain ⟨m, h1, h2, h3⟩ := h.oth.ok j p hp
      exact ⟨m, h1, h2, h3.heap (hw _ (h.oth.inj j i p o m l hp hi h1 hl e))⟩
  · intro j k p q m n hp hq hm hn hjk
    have old : ∀ {j : Nat} {p : Other}, (H.putO i o').oth j = some p → ∃ p', H.oth j = some p' := by
      intro j p hp
      by_cases e : j = i
      · subst e; exact ⟨_, hi⟩
      · rw [Heap.oth_putO_ne e] at hp; exact ⟨_, hp⟩
    obtain ⟨p', hp⟩ := old hp
    obtain ⟨q', hq⟩ := old hq
    exact h.oth.inj j k p' q' m n hp hq hm hn hjk

/-- .. taken away. -/
theorem Sim.killO (h : Sim P μ H w B) {i : Nat} {o : Other} {l : Loc} {x : Obj} (hi : H.oth i = some o) (hl : μ i = some l) : Sim P μ (H.kill i) (w.putObj l.b x) B := by
  obtain ⟨l', e, hB, hok⟩ := h.oth.ok i o hi
  rw [hl] at e; cases e
  obtain ⟨y, hy, hyc⟩ := hok.at
  have hw : ∀ k, k ≠ l.b → (w.putObj l.b x).heap[k]? = w.heap[k]? := fun k hk => World.putObj_heap_other hk
  refine ⟨by simpa using h.base, ?_, fun k hk => h.dom k (by rw [Heap.length_kill] at hk; exact hk), ?_, ?_, ⟨?_, ?_⟩, fun k hk => h.hol k (Heap.hole_kill hk).1⟩
  · intro j b hb
    obtain ⟨m, h1, h2⟩ := h.ok j b (Heap.get_kill hb)
    exact ⟨m, h1, h2.heap (hw _ (h2.ne hy hyc))⟩
  · intro j k b c m n hb hc
    exact h.inj j k b c m n (Heap.get_kill hb) (Heap.get_kill hc)
  · intro j b m hb
    exact h.own j b m (Heap.get_kill hb)
  · intro j p hp
    have e : j ≠ i := by rintro rfl; rw [Heap.oth_kill_self] at hp; cases hp
    have hp := Heap.oth_kill hp
    obtain ⟨m, h1, h2, h3⟩ := h.oth.ok j p hp
    exact ⟨m, h1, h2, h3.heap (hw _ (h.oth.inj j i p o m l hp hi h1 hl e))⟩
  · intro j k p q m n hp hq
    exact h.oth.inj j k p q m n (Heap.oth_kill hp) (Heap.oth_kill hq)

/-- A block of which nothing is said turns. -/
theorem Sim.putElse (h : Sim P μ H w B) {D : Nat} {x y : Obj} (hD : w.heap[D]? = some y) (h1 : y.isCells = false) (h2 : ∀ r, y ≠ .loop r) (h3 : ∀ es c, y ≠ .map es c) : Sim P μ H (w.putObj D x) B := by
  have hw : ∀ k, k ≠ D → (w.putObj D x).heap[k]? = w.heap[k]? := fun k hk => World.putObj_heap_other hk
  refine ⟨by simpa using h.base, ?_, h.dom, h.inj, h.own, ⟨?_, h.oth.inj⟩, h.hol⟩
  · intro j b hb
    obtain ⟨m, h4, h5⟩ := h.ok j b hb
    exact ⟨m, h4, h5.heap (hw _ (h5.ne hD h1))⟩
  · intro j p hp
    obtain ⟨m, h4, h5, h6⟩ := h.oth.ok j p hp
    refine ⟨m, h4, h5, h6.heap (hw _ ?_)⟩
    rintro rfl
    cases p with
    | loop L s => obtain ⟨r, N, g, _⟩ := h6; rw [hD] at g; cases g; exact h2 r rfl
    | tab k es => obtain ⟨ms, c, g, _⟩ := h6; rw [hD] at g; cases g; exact h3 _ _ rfl

theorem putObj_below {D : Nat} {x y : Obj} (hD : w.heap[D]? = some y) (hB : B ≤ D) : Below B w (w.putObj D x) :=
  (Below.refl B w).grown (grownBy_putObj' w D x) (by have := (Array.getElem?_eq_some_iff.1 hD).1; omega) (fun k e => by cases e; omega)
theorem Bel.putLoop {l : Nat} {r r' : Loop} (hl : w.heap[l]? = some (.loop r)) (hB : B ≤ l) (hd : r'.defers = r.defers) : Bel B w (w.putObj l (.loop r')) := by
  have hlt := (Array.getElem?_eq_some_iff.1 hl).1
  refine ⟨putObj_below hl hB, ?_, ?_, by simp⟩
  · intro b r0 hb
    by_cases e : b = l
    · subst e; rw [hl] at hb; cases hb; exact ⟨r', World.putObj_heap_same hlt, hd⟩
    · exact ⟨r0, by rw [World.putObj_heap_other e]; exact hb, rfl⟩
  · intro b hb
    have e : b ≠ l := by rintro rfl; rw [hl] at hb; cases hb
    rw [World.putObj_heap_other e]; exact hb
theorem Bel.putMap {l : Nat} {es es' : Array MapEntry} {c c' : Nat} (hl : w.heap[l]? = some (.map es c)) (hB : B ≤ l) : Bel B w (w.putObj l (.map es' c')) := by
  refine ⟨putObj_below hl hB, ?_, ?_, by simp⟩
  · intro b r0 hb
    have e : b ≠ l := by rintro rfl; rw [hl] at hb; cases hb
    exact ⟨r0, by rw [World.putObj_heap_other e]; exact hb, rfl⟩
  · intro b hb
    have e : b ≠ l := by rintro rfl; rw [hl] at hb; cases hb
    rw [World.putObj_heap_other e]; exact hb
/-- What was put off is taken, where it is new. -/
theorem Bel.putDfr {w0 : World} {D : Nat} {x : Obj} (h : Bel B w0 w) (hl : w.heap[D]? = some (.deferred (some []))) (hB : B ≤ D) (hD : w0.heap.size ≤ D) : Bel B w0 (w.putObj D x) := by
  refine ⟨h.below.trans (putObj_below hl hB), ?_, ?_, by simpa using h.size⟩
  · intro b r0 hb
    have := (Array.getElem?_eq_some_iff.1 hb).1
    rw [World.putObj_heap_other (by omega)]; exact h.loops b r0 hb
  · intro b hb
    have := (Array.getElem?_eq_some_iff.1 hb).1
    rw [World.putObj_heap_other (by omega)]; exact h.dfr b hb

/-! the block of a function's calls that are put off -/
abbrev markD (D : Nat) : Deferred := { target := .collected D, args := #[] }
def Marks (w w' : World) (a a' : Act) : Prop :=
  ∃ Ds : List Nat, a'.defers = Ds.map markD ++ a.defers ∧ Ds.Nodup ∧ ∀ D ∈ Ds, w.heap.size ≤ D ∧ w'.heap[D]? = some (.deferred (some []))
theorem Marks.of_eq {w w' : World} {a a' : Act} (h : a'.defers = a.defers) : Marks w w' a a' := ⟨[], by simpa using h, List.nodup_nil, fun D hD => by cases hD⟩
theorem Marks.trans {w w1 w' : World} {a a1 a' : Act} (h : Marks w w1 a a1) (hb : Bel B w w1) (hb' : Bel B w1 w') (k : Marks w1 w' a1 a') : Marks w w' a a' := by
  obtain ⟨Ds, h1, h2, h3⟩ := h
  obtain ⟨Es, k1, k2, k3⟩ := k
  refine ⟨Es ++ Ds, by rw [k1, h1]; simp, ?_, ?_⟩
  · rw [List.nodup_append]
    refine ⟨k2, h2, fun x hx y hy e => ?_⟩
    subst e
    have := (k3 x hx).1
    have := (Array.getElem?_eq_some_iff.1 (h3 x hy).2).1
    omega
  · intro D hD
    rcases List.mem_append.1 hD with hD | hD
    · exact ⟨Nat.le_trans hb.size (k3 D hD).1, (k3 D hD).2⟩
    · exact ⟨(h3 D hD).1, hb'.dfr D (h3 D hD).2⟩

/-- A range over a function begins: the record. -/
theorem enter_loop {ro : Option Nat} (hro : ∀ l₀, ro = some l₀ → ∃ r, w.heap[l₀]? = some (.loop r)) (h : Sim P μ H w B) (fn : FuncId) (a : Act) (ps : Array Tmp) (x y : Code) :
    ∃ (l : Nat) (mk : List Deferred) (w1 : World) (r : Loop), (Instr.enterLoop fn a.tmps ps x y ro).run P w = .ok (l, mk) w1 ∧ w1.heap[l]? = some (.loop r) ∧ r.params = ps ∧ r.assign = x ∧ r.body = y ∧ r.tmps = a.tmps ∧ r.state = .ready ∧ r.pending = none ∧
      w.heap.size ≤ l ∧ Bel B w w1 ∧ (∀ k, k < w.heap.size → w1.heap[k]? = w.heap[k]?) ∧ Marks w w1 a { a with defers := mk ++ a.defers } := by
  cases ro with
  | none =>
    refine ⟨_, _, _, { state := .ready, pending := none, fn, tmps := a.tmps, params := ps, assign := x, body := y, defers := w.heap.size }, run_enterLoop_outer fn a.tmps ps x y, ?_, rfl, rfl, rfl, rfl, rfl, rfl, by omega, ?_, ?_, ?_⟩
    · have := World.alloc_heap_new (w.alloc (.deferred (some []))) (.loop { state := .ready, pending := none, fn, tmps := a.tmps, params := ps, assign := x, body := y, defers := w.heap.size })
      rwa [World.size_alloc] at this
    · exact ((Bel.refl B w).alloc h.base _).alloc (by have := h.base; simp; omega) _
    · intro k hk
      rw [Below.heap_alloc _ _ _ (by simp; omega), Below.heap_alloc _ _ _ hk]
    · refine ⟨[w.heap.size], rfl, by simp, fun D hD => ?_⟩
      simp only [List.mem_singleton] at hD; subst hD
      refine ⟨Nat.le_refl _, ?_⟩
      rw [Below.heap_alloc _ _ _ (by simp)]; exact World.alloc_heap_new w _
  | some l₀ =>
    obtain ⟨r₀, hr⟩ := hro l₀ rfl
    refine ⟨_, _, _, { state := .ready, pending := none, fn, tmps := a.tmps, params := ps, assign := x, body := y, defers := r₀.defers }, run_enterLoop_inner hr fn a.tmps ps x y, ?_, rfl, rfl, rfl, rfl, rfl, rfl, Nat.le_refl _, (Bel.refl B w).alloc h.base _, fun k hk => Below.heap_alloc _ _ _ hk, Marks.of_eq (by simp)⟩
    exact World.alloc_heap_new w _
end Go.Proofs.YtgakioiplkehgaaA.Am
