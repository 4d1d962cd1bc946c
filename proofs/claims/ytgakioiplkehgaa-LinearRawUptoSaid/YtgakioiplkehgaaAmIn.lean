/-
What comes in: a reading of an argument, and what the abstract machine starts with for it: rows that came in, as blocks that are only read. One law for numbers, texts, structs, and slices of them.
-/
import Derived.Test.YtgakioiplkehgaaAmG
import Derived.ChangeArms
import Derived.Carry
import Derived.OpenShut
import Derived.ChangeOld
import Derived.ChangeMaps5
open Go.RowKit Go.WideShapes Go.ChangeShapes
namespace Go.Proofs.YtgakioiplkehgaaA.Am

variable {P : Program} {μ : Mu} {H : Heap} {w : World} {B : Nat}

def AllRo (H : Heap) : Prop := ∀ i b, H.get i = some b → b.ro = true

def fieldsOk (P : Program) (ok : TypeId → Bool) : List Field → Nat → Option Nat
  | [], o => some o
  | f :: r, o => if f.offset = o ∧ ok f.type = true then fieldsOk P ok r (o + P.cellsOf f.type) else none
/-- Types that may come in. -/
def okIn (P : Program) : Nat → TypeId → Bool
  | 0, _ => false
  | f + 1, t => match P.underlying t with
    | some .bool => true
    | some (.int _) => true
    | some .string => true
    | some (.struct fs) => fieldsOk P (okIn P f) fs.toList 0 == some (P.cellsOf t)
    | some (.slice e) => decide (0 < P.cellsOf e) && okIn P f e
    | _ => false

def InFields (P : Program) (q : TypeId → List Value → Prop) : List Field → List Value → Prop
  | [], cs => cs = []
  | f :: r, cs => ∃ a b, cs = a ++ b ∧ a.length = P.cellsOf f.type ∧ q f.type a ∧ InFields P q r b
/-- A value that came in: its cells. -/
def In (P : Program) (H : Heap) : Nat → TypeId → List Value → Prop
  | 0, _, _ => False
  | f + 1, t, cs => match P.underlying t with
    | some .bool => ∃ b, cs = [.bool b]
    | some (.int k) => ∃ n, cs = [.int k n] ∧ (Lit.int k n).wf = true
    | some .string => ∃ s : ByteArray, cs = [.string s] ∧ s.size ≤ maxLen
    | some (.struct fs) => InFields P (In P H f) fs.toList cs
    | some (.slice e) => cs = [.slice none 0 0] ∨ ∃ (i : Nat) (es : List (List Value)), cs = [.slice (some ⟨i, 0, none⟩) es.length es.length] ∧ es.length ≤ maxLen ∧
        (0 < es.length → H.get i = some ⟨es.flatten, e, P.cellsOf e, true⟩) ∧ ∀ x, x ∈ es → x.length = P.cellsOf e ∧ In P H f e x
    | _ => False

theorem get_app {T : Heap} {i : Nat} {b : Blk} (h : H.get i = some b) : Heap.get (H ++ T) i = some b := by
  have := Heap.get_lt h
  unfold Heap.get at h ⊢
  rw [List.getElem?_append_left this]; exact h

theorem InFields.mono {q q' : TypeId → List Value → Prop} (h : ∀ t cs, q t cs → q' t cs) : ∀ (fs : List Field) (cs : List Value), InFields P q fs cs → InFields P q' fs cs
  | [], _, k => k
  | _ :: r, _, ⟨a, b, e, l, x, y⟩ => ⟨a, b, e, l, h _ _ x, InFields.mono h r b y⟩
theorem In.mono {T : Heap} : ∀ (f : Nat) (t : TypeId) (cs : List Value), In P H f t cs → In P (H ++ T) f t cs := by
  intro f
  induction f with
  | zero => intro t cs h; exact h
  | succ f ih =>
    intro t cs h
    unfold In at h ⊢
    split <;> simp_all only
    · exact InFields.mono ih _ _ h
    · rcases h with h | ⟨i, es, h1, h2, h3, h4⟩
      · exact .inl h
      · exact .inr ⟨i, es, h1, h2, fun hp => get_app (h3 hp), fun x hx => ⟨(h4 x hx).1, ih _ _ (h4 x hx).2⟩⟩

variable {A : Type} {enc : TypeId × Value → A} {held : Bool}
abbrev Rd (enc : TypeId × Value → A) (P : Program) (w : World) (held : Bool) := DataW.trod enc P w 0 (fun _ => true) held

/-- One value is lifted. -/
def Got (P : Program) (w : World) (B : Nat) (μ : Mu) (H : Heap) (f : Nat) (t : TypeId) (cs : List Value) : Prop :=
  ∃ μ' T acs, μ.le μ' ∧ Sim P μ' (H ++ T) w B ∧ AllRo (H ++ T) ∧ VRs μ' acs cs ∧ acs.all oneCell = true ∧ In P (H ++ T) f t acs
def Lifts (enc : TypeId × Value → A) (P : Program) (w : World) (held : Bool) (B f : Nat) : Prop :=
  ∀ t fuel cs x μ H, okIn P f t = true → Rd enc P w held fuel t cs = some x → Sim P μ H w B → AllRo H → Got P w B μ H f t cs

theorem lift_plain {f : Nat} {t : TypeId} {v : Value} (hp : plainV v = true) (ho : oneCell v = true) (hS : Sim P μ H w B) (hr : AllRo H) (hi : In P H f t [v]) : Got P w B μ H f t [v] :=
  ⟨μ, [], [v], μ.le_refl, by simpa using hS, by simpa using hr, .cons (.plain _ hp) .nil, by simp [ho], by simpa using hi⟩

theorem lift_fields {f : Nat} (L : Lifts enc P w held B f) {n : Nat} {cs : List Value} : ∀ (fs : List Field) (o : Nat) (μ : Mu) (H : Heap), fieldsOk P (okIn P f) fs o = some cs.length →
    (∀ fd ∈ fs, ∃ x, Rd enc P w held n fd.type ((cs.drop fd.offset).take (P.cellsOf fd.type)) = some x) → Sim P μ H w B → AllRo H →
    ∃ μ' T acs, μ.le μ' ∧ Sim P μ' (H ++ T) w B ∧ AllRo (H ++ T) ∧ VRs μ' acs (cs.drop o) ∧ acs.all oneCell = true ∧ InFields P (In P (H ++ T) f) fs acs := by
  intro fs
  induction fs with
  | nil =>
    intro o μ H ho _ hS hr
    simp only [fieldsOk] at ho; cases ho
    exact ⟨μ, [], [], μ.le_refl, by simpa using hS, by simpa using hr, by simpa using VRs.nil, rfl, rfl⟩
  | cons fd r ih =>
    intro o μ H ho hx hS hr
    simp only [fieldsOk] at ho
    split at ho
    · rename_i hc
      obtain ⟨rfl, hok⟩ := hc
      obtain ⟨x, hx1⟩ := hx fd (List.mem_cons_self ..)
      obtain ⟨μ1, T1, a1, l1, s1, r1, v1, o1, i1⟩ := L _ _ _ _ μ H hok hx1 hS hr
      obtain ⟨μ2, T2, a2, l2, s2, r2, v2, o2, i2⟩ := ih _ μ1 (H ++ T1) ho (fun fd' h' => hx fd' (List.mem_cons_of_mem _ h')) s1 r1
      have hlen : (cs.drop fd.offset).take (P.cellsOf fd.type) ++ cs.drop (fd.offset + P.cellsOf fd.type) = cs.drop fd.offset := by
        rw [← List.drop_drop, List.take_append_drop]
      have hl1 : a1.length = P.cellsOf fd.type := by
        have h1 := v1.1
        have h2 := hlen
        have : fd.offset + P.cellsOf fd.type ≤ cs.length := by
          have key : ∀ (fs : List Field) (o : Nat) m, fieldsOk P (okIn P f) fs o = some m → o ≤ m := by
            intro fs
            induction fs with
            | nil => intro o m h; simp only [fieldsOk] at h; cases h; exact Nat.le_refl _
            | cons g r ih =>
              intro o m h
              simp only [fieldsOk] at h
              split at h
              · have := ih _ _ h; omega
              · cases h
          exact key _ _ _ ho
        rw [h1]; simp; omega
      refine ⟨μ2, T1 ++ T2, a1 ++ a2, Mu.le_trans l1 l2, by rw [← List.append_assoc]; exact s2, by rw [← List.append_assoc]; exact r2, ?_, by simp [o1, o2], a1, a2, rfl, hl1, ?_, ?_⟩
      · rw [← hlen]; exact (v1.mono l2).append v2
      · rw [← List.append_assoc]; exact In.mono _ _ _ i1
      · rw [← List.append_assoc]; exact i2
    · cases ho

theorem lift_elems {f : Nat} (L : Lifts enc P w held B f) {n : Nat} {e : TypeId} (hok : okIn P f e = true) : ∀ (css : List (List Value)) (μ : Mu) (H : Heap), (∀ cs ∈ css, (∃ x, Rd enc P w held n e cs = some x) ∧ cs.length = P.cellsOf e) → Sim P μ H w B → AllRo H →
    ∃ (μ' : Mu) (T : Heap) (es : List (List Value)), μ.le μ' ∧ Sim P μ' (H ++ T) w B ∧ AllRo (H ++ T) ∧ es.length = css.length ∧ VRs μ' es.flatten css.flatten ∧ es.flatten.all oneCell = true ∧ ∀ x, x ∈ es → x.length = P.cellsOf e ∧ In P (H ++ T) f e x := by
  intro css
  induction css with
  | nil => intro μ H _ hS hr; exact ⟨μ, [], [], μ.le_refl, by simpa using hS, by simpa using hr, rfl, by simpa using VRs.nil, rfl, fun x hx => by cases hx⟩
  | cons cs r ih =>
    intro μ H hx hS hr
    obtain ⟨⟨x, hx1⟩, hl⟩ := hx cs (List.mem_cons_self ..)
    obtain ⟨μ1, T1, a1, l1, s1, r1, v1, o1, i1⟩ := L _ _ _ _ μ H hok hx1 hS hr
    obtain ⟨μ2, T2, es, l2, s2, r2, n2, v2, o2, i2⟩ := ih μ1 (H ++ T1) (fun c h' => hx c (List.mem_cons_of_mem _ h')) s1 r1
    refine ⟨μ2, T1 ++ T2, a1 :: es, Mu.le_trans l1 l2, by rw [← List.append_assoc]; exact s2, by rw [← List.append_assoc]; exact r2, by simp [n2], ?_, by simp only [List.flatten_cons, List.all_append, o1, o2, Bool.and_self], ?_⟩
    · simp only [List.flatten_cons]; exact (v1.mono l2).append v2
    · intro y hy
      rcases List.mem_cons.1 hy with rfl | hy
      · exact ⟨by rw [v1.1, hl], by rw [← List.append_assoc]; exact In.mono _ _ _ i1⟩
      · rw [← List.append_assoc]; exact i2 y hy

/-- A row that came in, elements of any size. -/
theorem Sim.ro' (h : Sim P μ H w B) (hall : AllRo H) {a o es : Nat} {arr : Array Value} {ty : TypeId} {fz : Nat × Nat} (hrow : w.heap[a]? = some (.cells arr ty fz))
    (cs : List Value) (t : TypeId) (h1c : cs.all oneCell = true) (hle : o + cs.length ≤ arr.size) (hv : VRs μ cs ((arr.toList.drop o).take cs.length)) :
    μ.le (μ.up H.length ⟨a, o, arr.size, es⟩) ∧ Sim P (μ.up H.length ⟨a, o, arr.size, es⟩) (H ++ [.blk ⟨cs, t, es, true⟩]) w B ∧ AllRo (H ++ [.blk ⟨cs, t, es, true⟩]) := by
  have hle' := Mu.le_up (l := ⟨a, o, arr.size, es⟩) (h.dom H.length (Nat.le_refl _))
  have hall' : AllRo (H.new ⟨cs, t, es, true⟩) := by
    intro i b hb
    rcases Heap.get_new hb with ⟨rfl, rfl⟩ | ⟨hi, hb⟩
    · rfl
    · exact hall i b hb
  refine ⟨hle', ⟨h.base, ?_, ?_, ?_, ?_, h.oth.keep hle' (fun _ _ => Heap.oth_new) (fun _ _ h _ => h), fun k hk => by obtain ⟨h1, h2⟩ := Heap.hole_new hk; rw [Mu.up_ne (by omega)]; exact h.hol k h1⟩, hall'⟩
  · intro i b hb
    rcases Heap.get_new hb with ⟨rfl, rfl⟩ | ⟨hi, hb⟩
    · have h0 : (true = false → fz = (0, 0)) := fun e => by cases e
      exact ⟨_, Mu.up_self, rfl, h1c, (fun e => by cases e), arr, ty, fz, hrow, rfl, h0, hle, hv.mono hle'⟩
    · obtain ⟨l, h1, h2⟩ := h.ok i b hb
      exact ⟨l, hle' _ _ h1, h2.mono hle'⟩
  · intro i hi
    have hi : (H.new ⟨cs, t, es, true⟩).length ≤ i := hi
    rw [Heap.length_new] at hi
    rw [Mu.up_ne (by omega)]; exact h.dom i (by omega)
  · intro i j b c l m hb hc hl hm hij hro
    rw [hall' i b hb] at hro; cases hro
  · intro i b l hb hro hl
    rw [hall' i b hb] at hro; cases hro

theorem row_elem {b off sz j : Nat} {cs : List Value} (h : w.cells? 0 (Addr.add ⟨b, off, none⟩ (j * sz)) sz = some cs) (hsz : 0 < sz) :
    ∃ arr ty fz, w.heap[b]? = some (.cells arr ty fz) ∧ off + (j + 1) * sz ≤ arr.size ∧ (arr.toList.drop (off + j * sz)).take sz = cs := by
  obtain ⟨_, hl, hc⟩ := World.cells?_some h
  have h0 : ∀ i, i < sz → w.cell? ⟨b, off + j * sz + i, none⟩ = cs[i]? := by
    intro i hi
    rw [← hc i hi, add_plain, add_plain]
  have h1 := h0 0 hsz
  rw [List.getElem?_eq_getElem (by omega)] at h1
  simp only [World.cell?] at h1
  cases hb : w.heap[b]? with
  | none => rw [hb] at h1; simp at h1
  | some ob =>
    cases ob with
    | cells arr ty fz =>
      have hall : ∀ i, i < sz → arr[off + j * sz + i]? = cs[i]? := by
        intro i hi
        have := h0 i hi
        simp only [World.cell?, hb] at this
        simpa using this
      refine ⟨arr, ty, fz, rfl, ?_, ?_⟩
      · have := hall (sz - 1) (by omega)
        rw [List.getElem?_eq_getElem (by omega)] at this
        have := (Array.getElem?_eq_some_iff.1 this).1
        rw [Nat.succ_mul]; omega
      · apply List.ext_getElem?
        intro i
        by_cases hi : i < sz
        · rw [List.getElem?_take, if_pos hi, List.getElem?_drop, Array.getElem?_toList, hall i hi]
        · rw [List.getElem?_take, if_neg hi, List.getElem?_eq_none (by omega)]
    | _ => rw [hb] at h1; simp at h1

theorem flat_range {arr : List Value} {off sz : Nat} (g : Nat → List Value) : ∀ n, (∀ j, j < n → (arr.drop (off + j * sz)).take sz = g j) →
    ((List.range n).map g).flatten = (arr.drop off).take (n * sz) := by
  intro n
  induction n with
  | zero => intro _; simp
  | succ n ih =>
    intro h
    rw [List.range_succ, List.map_append, List.flatten_append, ih (fun j hj => h j (by omega))]
    simp only [List.map_cons, List.map_nil, List.flatten_cons, List.flatten_nil, List.append_nil]
    rw [← h n (by omega), Nat.succ_mul, List.take_add, List.drop_drop]

theorem lifts : ∀ f, Lifts enc P w held B f := by
  intro f
  induction f with
  | zero => intro t fuel cs x μ H h; simp [okIn] at h
  | succ f ih =>
    intro t fuel cs x μ H hok hx hS hr
    simp only [okIn] at hok
    split at hok
    · rename_i ht
      obtain ⟨b, rfl, _⟩ := DataW.trod_bool ht hx
      exact lift_plain rfl rfl hS hr (by simp [In, ht])
    · rename_i k ht
      obtain ⟨n, rfl, _, hw⟩ := DataW.trod_int ht hx
      exact lift_plain rfl rfl hS hr (by simp [In, ht, hw])
    · rename_i ht
      obtain ⟨s, rfl, _, hw⟩ := DataW.trod_string ht hx
      exact lift_plain rfl rfl hS hr (by simp [In, ht, hw])
    · rename_i fs ht
      obtain ⟨xs, n, rfl, rfl, hl, hxl, hf⟩ := DataW.trod_struct ht hx
      rw [← hl] at hok
      obtain ⟨μ', T, acs, h1, h2, h3, h4, h5, h6⟩ := lift_fields ih fs.toList 0 μ H (by simpa using hok) (fun fd hfd => by
        obtain ⟨i, hi⟩ := List.getElem?_of_mem hfd
        have hi' : fs[i]? = some fd := by simpa using hi
        have := hf i fd hi'
        have hlt : i < xs.length := by rw [hxl]; exact (Array.getElem?_eq_some_iff.1 hi').1
        rw [List.getElem?_eq_getElem hlt] at this
        exact ⟨_, this⟩) hS hr
      exact ⟨μ', T, acs, h1, h2, h3, by simpa using h4, h5, by simp only [In, ht]; exact h6⟩
    · rename_i e ht
      simp only [Bool.and_eq_true, decide_eq_true_eq] at hok
      obtain ⟨hsz, hoke⟩ := hok
      rcases DataW.trod_slice ht hx with ⟨rfl, _⟩ | ⟨a, len, cap, elems, rest, n, rfl, rfl, rfl, _, hlc, hcm, hel, he, hsp, _⟩
      · exact lift_plain rfl rfl hS hr (by simp [In, ht])
      · obtain ⟨hrl, hr2⟩ := hsp rfl
        -- each element's cells
        have each : ∀ j, j < cap → ∃ cs, w.cells? 0 (a.add (j * P.cellsOf e)) (P.cellsOf e) = some cs ∧ ∃ x, Rd enc P w held n e cs = some x := by
          intro j hj
          by_cases hjl : j < len
          · have := he j hjl
            rw [List.getElem?_eq_getElem (by omega), Option.bind_eq_some_iff] at this
            obtain ⟨cs, h1, h2⟩ := this
            exact ⟨cs, h1, _, h2⟩
          · have := hr2 (j - len) (by omega)
            rw [List.getElem?_eq_getElem (by omega), show len + (j - len) = j by omega, Option.bind_eq_some_iff] at this
            obtain ⟨cs, h1, h2⟩ := this
            exact ⟨cs, h1, _, h2⟩
        by_cases hc : cap = 0
        · subst hc
          obtain rfl : len = 0 := by omega
          obtain ⟨s1, s2, s3⟩ := Sim.none hS hr a
          refine ⟨μ, [.dead], [.slice (some ⟨H.length, 0, none⟩) 0 0], μ.le_refl, s1, s2, .cons s3 .nil, rfl, ?_⟩
          simp only [In, ht]
          exact .inr ⟨H.length, [], rfl, by simp, fun h => by simp at h, fun x hx => by cases hx⟩
        · have hspot : a.spot = none := by
            obtain ⟨cs, h1, _⟩ := each 0 (by omega)
            obtain ⟨_, hl, hcell⟩ := World.cells?_some h1
            have := hcell 0 hsz
            rw [List.getElem?_eq_getElem (by omega)] at this
            simpa [Addr.add] using World.cell?_spot this
          obtain ⟨b, off, spot⟩ := a
          simp only at hspot; subst hspot
          obtain ⟨arr, ty, fz, hrow, hsize, _⟩ := row_elem (each (cap - 1) (by omega)).choose_spec.1 hsz
          rw [show cap - 1 + 1 = cap by omega] at hsize
          let g : Nat → List Value := fun j => (w.cells? 0 (Addr.add ⟨b, off, none⟩ (j * P.cellsOf e)) (P.cellsOf e)).getD []
          have hg : ∀ j, j < cap → w.cells? 0 (Addr.add ⟨b, off, none⟩ (j * P.cellsOf e)) (P.cellsOf e) = some (g j) := by
            intro j hj
            obtain ⟨cs, h1, _⟩ := each j hj
            show _ = some ((w.cells? 0 _ _).getD [])
            rw [h1]; rfl
          have hrd : ∀ j, j < cap → (∃ x, Rd enc P w held n e (g j) = some x) ∧ (g j).length = P.cellsOf e := by
            intro j hj
            obtain ⟨cs, h1, h2⟩ := each j hj
            have := hg j hj
            rw [h1] at this; cases this
            exact ⟨h2, (World.cells?_some h1).2.1⟩
          obtain ⟨μ1, T1, es, l1, s1, r1, n1, v1, o1, i1⟩ := lift_elems ih hoke ((List.range len).map g) μ H (fun cs hcs => by
            obtain ⟨j, hj, rfl⟩ := List.mem_map.1 hcs
            exact hrd j (by have := List.mem_range.1 hj; omega)) hS hr
          simp only [List.length_map, List.length_range] at n1
          have hfl : ((List.range len).map g).flatten = (arr.toList.drop off).take (len * P.cellsOf e) := by
            refine flat_range g len ?_
            intro j hj
            obtain ⟨arr', ty', fz', hrow', _, h3⟩ := row_elem (hg j (by omega)) hsz
            rw [hrow] at hrow'; cases hrow'
            exact h3
          have hlc' : len * P.cellsOf e ≤ cap * P.cellsOf e := Nat.mul_le_mul_right _ hlc
          have hln : es.flatten.length = len * P.cellsOf e := by
            rw [v1.1, hfl]; simp; omega
          obtain ⟨q1, q2, q3⟩ := Sim.ro' (es := P.cellsOf e) s1 r1 hrow es.flatten e o1 (show off + es.flatten.length ≤ arr.size by omega) (by rw [hln, ← hfl]; exact v1)
          refine ⟨_, T1 ++ [.blk ⟨es.flatten, e, P.cellsOf e, true⟩], [.slice (some ⟨(H ++ T1).length, 0, none⟩) len len], Mu.le_trans l1 q1, by rw [← List.append_assoc]; exact q2, by rw [← List.append_assoc]; exact q3, ?_, rfl, ?_⟩
          · refine .cons ?_ .nil
            have := VR.slice (μ := μ1.up (H ++ T1).length ⟨b, off, arr.size, P.cellsOf e⟩) (H ++ T1).length 0 len len cap ⟨b, off, arr.size, P.cellsOf e⟩ Mu.up_self (Nat.le_refl _) hlc (by simpa using hsize)
            simpa using this
          · simp only [In, ht]
            refine .inr ⟨(H ++ T1).length, es, by rw [n1], by omega, fun _ => ?_, fun x hx => ⟨(i1 x hx).1, ?_⟩⟩
            · rw [← List.append_assoc]
              exact Heap.get_new_self (H := H ++ T1) (b := ⟨es.flatten, e, P.cellsOf e, true⟩)
            · rw [← List.append_assoc]; exact In.mono _ _ _ (i1 x hx).2
    · cases hok

/-- An argument. -/
def InArg (P : Program) (H : Heap) (f : Nat) (t : TypeId) (v : Value) : Prop :=
  ∃ cs, In P H f t cs ∧ match P.underlying t with
    | some (.struct _) => v = .agg cs.toArray
    | _ => cs = [v]
def InArgs (P : Program) (H : Heap) (f : Nat) : List TypeId → List Value → Prop
  | [], vs => vs = []
  | t :: ts, vs => ∃ v r, vs = v :: r ∧ InArg P H f t v ∧ InArgs P H f ts r
theorem InArgs.mono {T : Heap} {f : Nat} : ∀ (ts : List TypeId) (vs : List Value), InArgs P H f ts vs → InArgs P (H ++ T) f ts vs
  | [], _, h => h
  | _ :: ts, _, ⟨v, r, e, ⟨cs, h1, h2⟩, h3⟩ => ⟨v, r, e, ⟨cs, In.mono _ _ _ h1, h2⟩, InArgs.mono ts r h3⟩

theorem one_of_oneCell {v : Value} (h : ∀ cs, v ≠ .agg cs) : v.cells.toList = [v] := by
  cases v <;> first | rfl | (exact absurd rfl (h _))

theorem lift_arg {r : Reach} {b0 : Nat} {f : Nat} {t : TypeId} {v : Value} {d : DataW A} {ps : List MemPlace} (hok : okIn P f t = true) (hval : Value.okWide P w r b0 t v) (hd : DataW.Trod enc P w 0 (fun _ => true) held t v d ps)
    (hS : Sim P μ H w B) (hr : AllRo H) : ∃ μ' T a, μ.le μ' ∧ Sim P μ' (H ++ T) w B ∧ AllRo (H ++ T) ∧ VR μ' a v ∧ InArg P (H ++ T) f t a := by
  obtain ⟨fuel, hf⟩ := hd
  obtain ⟨μ', T, acs, h1, h2, h3, h4, h5, h6⟩ := lifts f _ _ _ _ μ H hok hf hS hr
  have single : (∀ fs, P.underlying t ≠ some (.struct fs)) → (∀ cs, v ≠ .agg cs) → ∃ μ' T a, μ.le μ' ∧ Sim P μ' (H ++ T) w B ∧ AllRo (H ++ T) ∧ VR μ' a v ∧ InArg P (H ++ T) f t a := by
    intro hns hna
    rw [one_of_oneCell hna] at h4
    obtain ⟨a, rfl⟩ : ∃ a, acs = [a] := by
      have := h4.1
      match acs, this with
      | [a], _ => exact ⟨a, rfl⟩
    obtain ⟨b, y, e, h7, h8⟩ := h4.uncons
    cases e
    refine ⟨μ', T, a, h1, h2, h3, h7, [a], h6, ?_⟩
    split
    · rename_i fs e; exact absurd e (hns _)
    · rfl
  cases f with
  | zero => simp [okIn] at hok
  | succ f =>
    simp only [okIn] at hok
    split at hok
    · rename_i ht
      obtain ⟨b, rfl⟩ := okWide_bool ht hval
      exact single (by simp [ht]) (by simp)
    · rename_i k ht
      obtain ⟨n, rfl⟩ := okWide_int ht hval
      exact single (by simp [ht]) (by simp)
    · rename_i ht
      obtain ⟨s, rfl⟩ := okWide_string ht hval
      exact single (by simp [ht]) (by simp)
    · rename_i fs ht
      unfold Value.okWide at hval
      rw [ht] at hval
      obtain ⟨cs, rfl, _⟩ := hval
      refine ⟨μ', T, .agg acs.toArray, h1, h2, h3, VRs.agg (by simpa [Value.cells] using h4), acs, h6, by rw [ht]⟩
    · rename_i e ht
      obtain ⟨a, len, cap, rfl⟩ := okWide_slice ht hval
      exact single (by simp [ht]) (by simp)
    · cases hok

theorem lift_args {r : Reach} {b0 : Nat} {f : Nat} : ∀ (ts : List TypeId) (vs : List Value) (ds : List (DataW A)) (ps : List MemPlace) (μ : Mu) (H : Heap), (ts.all (okIn P f)) = true →
    (∀ (j : Nat) t v, ts[j]? = some t → vs[j]? = some v → Value.okWide P w r b0 t v) → DataW.TrodAll enc P w 0 (fun _ => true) held ts vs ds ps → Sim P μ H w B → AllRo H →
    ∃ μ' T as, μ.le μ' ∧ Sim P μ' (H ++ T) w B ∧ AllRo (H ++ T) ∧ VRs μ' as vs ∧ InArgs P (H ++ T) f ts as := by
  intro ts
  induction ts with
  | nil =>
    intro vs ds ps μ H _ _ h hS hr
    obtain ⟨rfl, _, _⟩ := trodAll_nil h
    exact ⟨μ, [], [], μ.le_refl, by simpa using hS, by simpa using hr, .nil, rfl⟩
  | cons t ts ih =>
    intro vs ds ps μ H hok hval h hS hr
    simp only [List.all_cons, Bool.and_eq_true] at hok
    obtain ⟨v, vs', d, ds', p, q, rfl, rfl, rfl, h1, h2⟩ := trodAll_cons h
    obtain ⟨μ1, T1, a, l1, s1, r1, v1, i1⟩ := lift_arg hok.1 (hval 0 t v rfl rfl) h1 hS hr
    obtain ⟨μ2, T2, as, l2, s2, r2, v2, i2⟩ := ih vs' ds' q μ1 (H ++ T1) hok.2 (fun j t' v' e1 e2 => hval (j + 1) t' v' (by simpa using e1) (by simpa using e2)) h2 s1 r1
    refine ⟨μ2, T1 ++ T2, a :: as, Mu.le_trans l1 l2, by rw [← List.append_assoc]; exact s2, by rw [← List.append_assoc]; exact r2, .cons (v1.mono l2) v2, a, as, rfl, ?_, ?_⟩
    · obtain ⟨cs, k1, k2⟩ := i1
      exact ⟨cs, by rw [← List.append_assoc]; exact In.mono _ _ _ k1, k2⟩
    · rw [← List.append_assoc]; exact i2

/-- The way back: all arguments read as they did. -/
theorem args_back (hl : laidOutB P = true) : ∀ (ts : List TypeId) (vs : List Value) (ds : List (DataW A)) (ps : List MemPlace) {W' : World}, (ts.all fun t => P.readableRec t && decide (t < P.types.size)) = true →
    DataW.TrodAll enc P w 0 (fun _ => true) true ts vs ds ps → Below w.heap.size w W' → (∀ x ∈ ps, x.block < w.heap.size) →
    DataW.TrodAll enc P W' 0 (fun b => decide (b < w.heap.size)) true ts vs ds ps := by
  intro ts
  induction ts with
  | nil =>
    intro vs ds ps W' _ h _ _
    obtain ⟨rfl, rfl, rfl⟩ := trodAll_nil h
    exact trodAll_mk0
  | cons t ts ih =>
    intro vs ds ps W' hok h hb hlt
    simp only [List.all_cons, Bool.and_eq_true, decide_eq_true_eq] at hok
    obtain ⟨v, vs', d, ds', p, q, rfl, rfl, rfl, h1, h2⟩ := trodAll_cons h
    exact trodAll_cons_mk (Below.trod hl hok.1.1 hok.1.2 h1 hb fun x hx => hlt x (List.mem_append_left _ hx)) (ih vs' ds' q hok.2 h2 hb fun x hx => hlt x (List.mem_append_right _ hx))

/-- A law, whatever came in: told by the abstract machine from every heap of rows that came in. -/
def Law (P : Program) (f : FuncId) (ts : List TypeId) : Prop :=
  ∀ W : World, ∀ H args μ, AllRo H → InArgs P H 9 ts args → Sim P μ H W W.heap.size → ∀ vs, VRs μ args vs →
    Calls P f vs.toArray W fun e W' => e = .returned (.bool true) ∧ Below W.heap.size W W'
theorem Law.walk {f : FuncId} {ts : List TypeId} (h : Law P f ts) (hok : (ts.all (okIn P 9)) = true) {r : Reach} {b0 : Nat} {vs : List Value} {ds : List (DataW A)} {ps : List MemPlace}
    (hval : ∀ (j : Nat) t v, ts[j]? = some t → vs[j]? = some v → Value.okWide P w r b0 t v) (hA : DataW.TrodAll enc P w 0 (fun _ => true) held ts vs ds ps) :
    Calls P f vs.toArray w fun e W' => e = .returned (.bool true) ∧ Below w.heap.size w W' := by
  obtain ⟨μ, T, as, _, s, r, v, i⟩ := lift_args ts vs ds ps (fun _ => none) [] hok hval hA (Sim.empty w) (fun i b h => by simp [Heap.get] at h)
  exact h w ([] ++ T) as μ r i s vs v
/-- A law without closed functions told. -/
theorem Law.of_run {f : FuncId} {ts : List TypeId} (hp : okProg P (badOf P) = true) (h : ∀ H args, AllRo H → InArgs P H 9 ts args → ∃ n H', acall P (badOf P) noG n f args H = some (.bool true, H')) : Law P f ts := by
  intro W H args μ hr hi hS vs hv
  obtain ⟨n, H', h⟩ := h H args hr hi
  exact law_true hp h hS hv
theorem Law.of_known {f : FuncId} {ts : List TypeId} (ks : List FuncId) (m : Nat) (hp : okProg P (badOf P) = true) (hp' : okProg P (ks ++ badOf P) = true)
    (hk : (ks.all fun k => (acall P (badOf P) noG m k [] []).any fun r => eqV r.1 (.bool true)) = true)
    (h : ∀ H args, AllRo H → InArgs P H 9 ts args → ∃ n H', acall P (ks ++ badOf P) (knownG ks) n f args H = some (.bool true, H')) : Law P f ts := by
  intro W H args μ hr hi hS vs hv
  obtain ⟨n, H', h⟩ := h H args hr hi
  exact law_true_known hp hp' hk h hS hv

end Go.Proofs.YtgakioiplkehgaaA.Am
