/-
slices.Insert of one value, told: its code's pieces by the abstract machine, where it asks for the capacity by hand.
-/
import Derived.Test.YtgakioiplkehgaaAmG
import Derived.Test.YtgakioiplkehgaaAmIn
import Derived.Test.YtgakioiplkehgaaAmK
import Derived.Lib.Overlaps
set_option linter.unusedSimpArgs false
set_option linter.unusedVariables false
namespace Go.Proofs.YtgakioiplkehgaaA.Am
open Go.RowKit (Below)
variable {P : Program} {μ : Mu} {H H' : Heap} {w : World} {B : Nat}

/-! single operations, on what the slots hold -/
section
variable {ro : Option Nat} {n : Nat} {o : Oper} {a : Act} {K : Act → World → Prop} {Q : Exit → Act → World → Prop}
theorem wp_val {v : Value} {w' : World} (hnd : ∀ c, o.op ≠ .defer c) (hr : (execOp a.eval o).run P w = .ok (.value v) w') (hK : K (a.put o.dst v) w') : o.wpIn (FR ro) n P a w K Q := by
  refine ⟨fun _ _ => trivial, ?_⟩
  rw [Oper.semAt_eq _ _ _ hnd, hr]; exact hK
theorem wp_move {x : Operand} (ho : o.op = .move x) (hK : K (a.put o.dst (a.eval x)) w) : o.wpIn (FR ro) n P a w K Q :=
  wp_val (fun c e => by rw [ho] at e; cases e) (by unfold execOp; rw [ho]; rfl) hK
theorem wp_assign {x : Operand} (ho : o.op = .assign x) (hK : K (a.put o.dst (a.eval x)) w) : o.wpIn (FR ro) n P a w K Q :=
  wp_val (fun c e => by rw [ho] at e; cases e) (by unfold execOp; rw [ho]; rfl) hK
theorem wp_bin {op : BinOp} {t yt : TypeId} {x y : Operand} {k : IntKind} {m m' : Int} {v : Value} (ho : o.op = .binOp op t x y yt) (hx : a.eval x = .int k m) (hy : a.eval y = .int k m') (hv : abin P op t (.int k m) (.int k m') = some v)
    (hK : K (a.put o.dst v) w) : o.wpIn (FR ro) n P a w K Q := by
  obtain ⟨hr, _⟩ := abin_sound (P := P) (μ := fun _ => none) (.plain (.int k m) rfl) (.plain (.int k m') rfl) hv x y w
  refine wp_val (fun c e => by rw [ho] at e; cases e) ?_ hK
  unfold execOp
  rw [ho]
  show Sem.run P (do pure (Next.value (← (do eqGuard op t x y (a.eval x) (a.eval y); binOp op t (a.eval x) (a.eval y) : Sem Value)))) w = _
  rw [hx, hy, Sem.run_bind, hr]; rfl
theorem wp_cap {x : Operand} {t e : TypeId} {ad : Option Addr} {m c : Nat} (ho : o.op = .call { callee := .builtin .cap, args := #[x], argTypes := #[t] }) (ht : P.underlying t = some (.slice e)) (hx : a.eval x = .slice ad m c)
    (hK : K (a.put o.dst (.int .i64 c)) w) : o.wpIn (FR ro) n P a w K Q := by
  refine wp_val (fun c e => by rw [ho] at e; cases e) ?_ hK
  unfold execOp
  rw [ho]
  simp [resolve, invoke, builtin, hx, Builtin.cap_, run_underlying ht, goInt]
theorem wp_sliceHi {x h : Operand} {t e : TypeId} {A : Addr} {m c size : Nat} {k : Int} (ho : o.op = .slice t x none (some h) none) (ht : P.underlying t = some (.slice e)) (hz : szOf P e = some size)
    (hx : a.eval x = .slice (some ⟨A.block, A.off, none⟩) m c) (hh : a.eval h = .int .i64 k) (h0 : 0 ≤ k) (h1 : k ≤ c) (hc : c ≠ 0)
    (hK : K (a.put o.dst (.slice (some ⟨A.block, A.off, none⟩) k.toNat c)) w) : o.wpIn (FR ro) n P a w K Q := by
  refine wp_val (fun c e => by rw [ho] at e; cases e) ?_ hK
  unfold execOp
  rw [ho]
  have hb := bound_run (P := P) (k := .i64) (n := k) (y := c) (c := .sliceAcap) h0 h1 w
  simp [hx, hh, Instr.sliceAt, Instr.slice, run_underlying ht, Instr.sliceBounds, hb, run_sz hz, hc, addr_add]
theorem list_cons {ops : Array Oper} {r : List Oper} (hg : o.guard = none) (h : o.wpIn (FR ro) n P a w (fun a' w' => wpListIn (FR ro) n P ops Q r a' w') Q) : wpListIn (FR ro) n P ops Q (o :: r) a w := by
  unfold wpListIn
  rw [if_pos (by simp [Region.wanted, hg])]
  exact h
end
theorem eval_put_self {a : Act} {d : Nat} {v : Value} (h : d < a.tmps.size) : (a.put (some d) v).eval (.tmp d) = v := by
  simp [Act.eval, Act.put, h]
theorem eval_put_ne {a : Act} {d t : Nat} {v : Value} (h : t ≠ d) : (a.put (some d) v).eval (.tmp t) = a.eval (.tmp t) := by
  simp [Act.eval, Act.put, Array.getD_eq_getD_getElem?, Array.getElem?_setIfInBounds_ne (Ne.symm h)]
theorem envR_nil {tmps : Array Value} : EnvR μ (Env.get []) tmps := fun t => by simp [Env.get]; exact .unk _
theorem envR_cons {tmps : Array Value} {k : Nat} {v : Value} {l : Env} (h : VR μ v (tmps.getD k undef)) (hl : EnvR μ (Env.get l) tmps) : EnvR μ (Env.get ((k, v) :: l)) tmps := fun t => by
  simp only [Env.get]
  split
  · rename_i e; subst e; exact h
  · exact hl t

/-- The operations one behind the other, more behind them. -/
theorem runOps_soundK {ro : Option Nat} {n : Nat} {C : Oracle} {ops : Array Oper} {N : Nat} {Q : Exit → Act → World → Prop} (hC : OrOk P B C) (rest : List Oper) : ∀ (l : List Oper) (E : Env) (H : Heap) (E' : Env) (H' : Heap) (μ : Mu) (a : Act) (w : World),
    runOps P C ops l E H = some (E', H') → (∀ o ∈ l, ∀ d, o.dst = some d → d < N) → N ≤ a.tmps.size → Sim P μ H w B → EnvR μ E.get a.tmps →
    (∀ a' w' μ', μ.le μ' → EnvR μ' E'.get a'.tmps → a'.defers = a.defers → a'.tmps.size = a.tmps.size → Sim P μ' H' w' B → Bel B w w' → wpListIn (FR ro) n P ops Q rest a' w') → wpListIn (FR ro) n P ops Q (l ++ rest) a w := by
  intro l
  induction l with
  | nil =>
    intro E H E' H' μ a w h _ _ hS hE hQ
    simp only [runOps] at h; cases h
    exact hQ a w μ μ.le_refl hE rfl rfl hS (Bel.refl _ _)
  | cons o r ih =>
    intro E H E' H' μ a w h hd hN hS hE hQ
    simp only [runOps] at h
    rw [List.cons_append]
    unfold wpListIn
    have hdo : ∀ t, o.dst = some t → t < a.tmps.size := fun t ht => Nat.lt_of_lt_of_le (hd o (by simp) t ht) hN
    split at h
    · rename_i hw
      rw [awant_sound hE (by rw [awantF_get]; exact hw), if_pos rfl]
      cases hx : aexec P C E H o with
      | none => rw [hx] at h; cases h
      | some q =>
        obtain ⟨v, H1⟩ := q
        rw [hx] at h
        simp only at h
        rw [← aexecF_get] at hx
        refine aexec_soundR hC hS hE hx ?_
        intro v' μ' w' hle hv hS' hB
        refine ih _ _ _ _ μ' _ w' h (fun o ho => hd o (by simp [ho])) (by rw [put_size]; exact hN) hS' ?_ ?_
        · have := EnvR.put (hE.mono hle) hv o.dst hdo
          intro t
          rw [Env.get_put]; exact this t
        · intro a' w'' μ'' hle' hE' hdf hsz hS'' hB'
          exact hQ a' w'' μ'' (Mu.le_trans hle hle') hE' (by rw [hdf, put_defers]) (by rw [hsz, put_size]) hS'' (hB.trans hB')
    · rename_i hw
      rw [awant_sound hE (by rw [awantF_get]; exact hw)]
      simp only [Bool.false_eq_true, if_false]
      refine ⟨fun _ _ => trivial, ih _ _ _ _ μ _ w h (fun o ho => hd o (by simp [ho])) (by rw [put_size]; exact hN) hS ?_ ?_⟩
      · have := EnvR.put hE (VRs.tuple (c := #[]) (c' := #[]) .nil) o.dst hdo
        intro t
        rw [Env.get_put]; exact this t
      · intro a' w'' μ'' hle' hE' hdf hsz hS'' hB'
        exact hQ a' w'' μ'' hle' hE' (by rw [hdf, put_defers]) (by rw [hsz, put_size]) hS'' hB'
    · cases h

/-! the heap: a block told longer, or shorter -/
/-- One cell more of a block's row. -/
theorem Sim.longer (h : Sim P μ H w B) {i : Nat} {b : Blk} {l : Loc} (hb : H.get i = some b) (hro : b.ro = false) (hl : μ i = some l) {cs : Array Value} {ty : TypeId} {fz : Nat × Nat} (hrow : w.heap[l.b]? = some (.cells cs ty fz))
    (hlt : l.o + b.cells.length < cs.size) : ∃ v, Sim P μ (H.put i { b with cells := b.cells ++ [v] }) w B := by
  obtain ⟨l', e, k⟩ := h.ok i b hb
  rw [hl] at e; cases e
  obtain ⟨cs2, ty2, fz2, h1, h2, h3, h4, h5⟩ := k.row
  rw [hrow] at h1; cases h1
  have hv : cs[l.o + b.cells.length]? = some cs[l.o + b.cells.length] := Array.getElem?_eq_getElem hlt
  have hp := k.spare hro cs ty fz hrow _ _ (Nat.le_refl _) hv
  refine ⟨cs[l.o + b.cells.length], h.put hb hro hl (fun _ _ => rfl) rfl hro ⟨k.es, ?_, ?_, cs, ty, fz, hrow, h2, h3, by simp; omega, ?_⟩⟩
  · rw [List.all_append, k.one]
    simp only [List.all_cons, List.all_nil, Bool.and_true, Bool.true_and]
    revert hp
    generalize cs[l.o + b.cells.length] = v
    intro hp
    cases v <;> first | rfl | (simp [plainV] at hp)
  · intro _ cs3 ty3 fz3 h6 j v hj hv2
    simp only [List.length_append, List.length_cons, List.length_nil] at hj
    exact k.spare hro cs3 ty3 fz3 h6 j v (by omega) hv2
  · simp only [List.length_append, List.length_cons, List.length_nil, Nat.zero_add]
    have e : (cs.toList.drop l.o).take (b.cells.length + 1) = (cs.toList.drop l.o).take b.cells.length ++ [cs[l.o + b.cells.length]] := by
      rw [List.take_add_one, List.getElem?_drop, Array.getElem?_toList, hv]; rfl
    rw [e]
    exact h5.append (.cons (.plain _ hp) .nil)
/-- A block told anew, shorter, under another number. -/
theorem Sim.anew (h : Sim P μ H w B) {i : Nat} {b : Blk} {l : Loc} (hb : H.get i = some b) (hro : b.ro = false) (hl : μ i = some l) (m : Nat) (ty : TypeId) (hp : (b.cells.drop m).all plainV = true) :
    μ.le (μ.up H.length l) ∧ Sim P (μ.up H.length l) ((H.kill i).new ⟨b.cells.take m, ty, b.es, false⟩) w B := by
  obtain ⟨l', e, k⟩ := h.ok i b hb
  rw [hl] at e; cases e
  obtain ⟨cs, ty2, fz, h1, h2, h3, h4, h5⟩ := k.row
  have hm : (b.cells.take m).length ≤ b.cells.length := by simp; omega
  refine h.move hb hro hl rfl (fun _ _ => rfl) rfl ⟨k.es, ?_, ?_, cs, ty2, fz, h1, h2, fun _ => h3 hro, by simp only at hm ⊢; omega, ?_⟩
  · have := k.one
    rw [List.all_eq_true] at this ⊢
    exact fun x hx => this x (List.mem_of_mem_take hx)
  · intro _ cs3 ty3 fz3 h6 j v hj hv2
    rw [h1] at h6; cases h6
    simp only [List.length_take] at hj
    by_cases hjb : j < l.o + b.cells.length
    · -- a cell that was told: it is plain
      have hj0 : j - l.o < b.cells.length := by omega
      obtain ⟨v', hv', hr⟩ := h5.2 (j - l.o) b.cells[j - l.o] (List.getElem?_eq_getElem hj0)
      rw [List.getElem?_take, if_pos hj0, List.getElem?_drop, show l.o + (j - l.o) = j by omega, Array.getElem?_toList, hv2] at hv'
      cases hv'
      have hpl : plainV b.cells[j - l.o] = true := by
        rw [List.all_eq_true] at hp
        refine hp _ ?_
        rw [List.mem_iff_getElem?]
        exact ⟨j - l.o - m, by rw [List.getElem?_drop, show m + (j - l.o - m) = j - l.o by omega, List.getElem?_eq_getElem hj0]⟩
      revert hr hpl
      generalize b.cells[j - l.o] = u
      intro hr hpl
      cases hr <;> first | exact hpl | (simp [plainV] at hpl; done) | skip
      all_goals simp [plainV] at hpl
    · exact k.spare hro cs ty2 fz h1 j v (by omega) hv2
  · have := h5.take m
    rw [List.take_take] at this
    simpa [Nat.min_comm] using this

/-! the code -/
abbrev K11 : List Nat := [0, 1, 2, 6, 7, 16, 8, 22, 31, 9, 68]
/-- Ahead of the question for the capacity. -/
noncomputable def insQ0 (P : Program) (tE tI by_ : Nat) (v0 v1 v2 v8 v22 v31 v9 v68 : Value) (H : Heap) : AOut :=
  bnd (some ((Value.slice none 0 0), H)) fun x0 H =>
  bnd (some (v0, H)) fun x1 H =>
  bnd (some (v1, H)) fun x2 H =>
  bnd (pS (scut 1 H x1 (some x2) none) H) fun _ H =>
  bnd (some (v2, H)) fun x4 H =>
  bnd (pS (slen x4) H) fun x5 H =>
  bnd (some (x5, H)) fun x6 H =>
  bnd (some (x6, H)) fun x7 H =>
  bnd (pS (abin P .eql tI x7 (Value.int .i64 (0))) H) fun x8 H =>
  brB x8 (bnd (some (v0, H)) fun x9 H =>
  bnd (some (x9, H)) fun x10 H =>
  fin .ret [v0, v1, v2, x10, x6, x8, v8, v22, v31, v9, v68] H) (
  bnd (some (v0, H)) fun x11 H =>
  bnd (pS (slen x11) H) fun x12 H =>
  bnd (some (x12, H)) fun x13 H =>
  bnd (some (v1, H)) fun x14 H =>
  bnd (some (x13, H)) fun x15 H =>
  bnd (pS (abin P .eql tI x14 x15) H) fun x16 H =>
  brB x16 (bnd (some (v0, H)) fun x17 H =>
  bnd (some (v2, H)) fun x18 H =>
  bnd (appS tE 1 by_ x17 x18 H) fun x19 H =>
  bnd (some (x19, H)) fun x20 H =>
  fin .ret [v0, v1, v2, x20, x6, x8, x13, x16, v31, v9, v68] H) (
  fin .normal [v0, v1, v2, x0, x6, x8, x13, x16, v31, v9, v68] H))
noncomputable def insQ1 (P : Program) (tS tI : Nat) (v0 v1 v2 v7 v16 v8 v22 v31 v9 v68 : Value) (H : Heap) : AOut :=
  bnd (some (v9, H)) fun x0 H =>
  bnd (some (v1, H)) fun x1 H =>
  bnd (pS (scut 1 H x0 (some x1) none) H) fun x2 H =>
  bnd (some (v2, H)) fun x3 H =>
  bnd (acopy P #[tS, tS] x2 x3 H) fun _ H =>
  bnd (some (v9, H)) fun x5 H =>
  bnd (some (v1, H)) fun x6 H =>
  bnd (some (v7, H)) fun x7 H =>
  bnd (pS (abin P .add tI x6 x7) H) fun x8 H =>
  bnd (pS (scut 1 H x5 (some x8) none) H) fun x9 H =>
  bnd (some (v0, H)) fun x10 H =>
  bnd (some (v1, H)) fun x11 H =>
  bnd (pS (scut 1 H x10 (some x11) none) H) fun x12 H =>
  bnd (acopy P #[tS, tS] x9 x12 H) fun _ H =>
  bnd (some (v9, H)) fun x14 H =>
  bnd (some (x14, H)) fun x15 H =>
  fin .ret [v0, v1, v2, x15, v7, v16, v8, v22, v31, v9, v68] H
noncomputable def insQ2 (P : Program) (tI : Nat) (v0 v1 v2 v6 v7 v16 v8 v22 v31 v9 v68 : Value) (H : Heap) : AOut :=
  bnd (some (v0, H)) fun x0 H =>
  bnd (some (v8, H)) fun x1 H =>
  bnd (some (v7, H)) fun x2 H =>
  bnd (pS (abin P .add tI x1 x2) H) fun x3 H =>
  bnd (pS (scut 1 H x0 none (some x3)) H) fun x4 H =>
  bnd (some (x4, H)) fun x5 H =>
  fin .normal [x5, v1, v2, v6, v7, v16, v8, v22, v31, v9, v68] H
noncomputable def insQ3 (P : Program) (tS tI : Nat) (v0 v1 v2 v7 v16 v8 v22 v31 v9 v68 : Value) (H : Heap) : AOut :=
  bnd (some (v0, H)) fun x0 H =>
  bnd (some (v1, H)) fun x1 H =>
  bnd (some (v7, H)) fun x2 H =>
  bnd (pS (abin P .add tI x1 x2) H) fun x3 H =>
  bnd (pS (scut 1 H x0 (some x3) none) H) fun x4 H =>
  bnd (some (v0, H)) fun x5 H =>
  bnd (some (v1, H)) fun x6 H =>
  bnd (pS (scut 1 H x5 (some x6) none) H) fun x7 H =>
  bnd (acopy P #[tS, tS] x4 x7 H) fun _ H =>
  bnd (some (v0, H)) fun x9 H =>
  bnd (some (v1, H)) fun x10 H =>
  bnd (pS (scut 1 H x9 (some x10) none) H) fun x11 H =>
  bnd (some (v2, H)) fun x12 H =>
  bnd (acopy P #[tS, tS] x11 x12 H) fun _ H =>
  bnd (some (v0, H)) fun x14 H =>
  bnd (some (x14, H)) fun x15 H =>
  fin .ret [v0, v1, v2, x15, v7, v16, v8, v22, v31, v9, v68] H

/-- Operations, by what they are. -/
def opsAre : List Oper → List (Op × Nat) → Prop
  | [], [] => True
  | o :: r, (p, d) :: s => (o.op = p ∧ o.dst = some d ∧ o.guard = none) ∧ opsAre r s
  | _, _ => False
theorem opsAre_cons {l : List Oper} {p : Op} {d : Nat} {s : List (Op × Nat)} (h : opsAre l ((p, d) :: s)) : ∃ o r, l = o :: r ∧ o.op = p ∧ o.dst = some d ∧ o.guard = none ∧ opsAre r s := by
  cases l with
  | nil => exact h.elim
  | cons o r => exact ⟨o, r, rfl, h.1.1, h.1.2.1, h.1.2.2, h.2⟩
theorem opsAre_nil {l : List Oper} (h : opsAre l []) : l = [] := by
  cases l with
  | nil => rfl
  | cons o r => exact h.elim

/-- The function that asks whether two slices overlap. -/
structure OverFn (P : Program) (fo : FuncId) (tS tB : Nat) : Prop where
  ext : ∃ fno, P.funcs[fo]? = some fno ∧ (fno.name == "runtime.NumGoroutine") = false ∧ fno.body.isNone = true ∧ Extern.findNext fno = none ∧ Extern.find fno = some (Extern.SlicesOverlaps.overlaps #[tS, tS] #[tB])
structure InsCode (P : Program) (f fo : FuncId) (tS tE tI tB by_ : Nat) : Prop where
  mixed : P.follows .mixedOrders = true
  uS : P.underlying tS = some (.slice tE)
  zE : szOf P tE = some 1
  bE : bytesOfT P tE = some by_
  by4 : by_ ≤ 4096
  uI : P.underlying tI = some (.int .i64)
  over : OverFn P fo tS tB
  code : ∃ (fn : Func) (p6 p10 p8 : Nat) (o6 o10 o8 : Array Oper) (a1 a2 a3 a4 a5 a6 gr r6 sh tl : Code) (z : Value),
    P.funcs[f]? = some fn ∧ (fn.name == "runtime.NumGoroutine") = false ∧ fn.results = #[.tmp 6] ∧ fn.ntmps = 95 ∧ zeroOf P tE = some z ∧
    fn.body = some (.seq a1 (.seq a2 (.seq a3 (.seq a4 (.seq a5 (.seq a6 (.seq (.seq (.region p6 o6 false) (.cond (.tmp 31) (.seq (.region p10 o10 false) gr) .skip))
      (.seq r6 (.seq (.seq (.region p8 o8 false) (.cond (.tmp 68) sh .skip)) tl))))))))) ∧
    okCode P 95 (.seq a1 (.seq a2 (.seq a3 (.seq a4 (.seq a5 (.seq a6 (.seq (.seq (.region p6 o6 false) (.cond (.tmp 31) (.seq (.region p10 o10 false) gr) .skip))
      (.seq r6 (.seq (.seq (.region p8 o8 false) (.cond (.tmp 68) sh .skip)) tl))))))))) = true ∧
    opsAre o6.toList [(.move (.tmp 8), 26), (.move (.tmp 7), 27), (.binOp .add tI (.tmp 26) (.tmp 27) tI, 28), (.move (.tmp 0), 29), (.call { callee := .builtin .cap, args := #[.tmp 29], argTypes := #[tS] }, 30), (.binOp .gtr tI (.tmp 28) (.tmp 30) tI, 31)] ∧
    opsAre o10.toList [(.move (.tmp 0), 32), (.move (.tmp 1), 33), (.slice tS (.tmp 32) none (some (.tmp 33)) none, 34), (.move (.tmp 8), 35), (.move (.tmp 7), 36), (.binOp .add tI (.tmp 35) (.tmp 36) tI, 37), (.move (.tmp 1), 38), (.binOp .sub tI (.tmp 37) (.tmp 38) tI, 39), (.call { callee := .builtin .append, args := #[.tmp 34, .tmp 39], argTypes := #[tS, tI] }, 40), (.assign (.tmp 40), 9)] ∧
    opsAre o8.toList [(.move (.tmp 2), 61), (.move (.tmp 0), 62), (.move (.tmp 1), 63), (.move (.tmp 7), 64), (.binOp .add tI (.tmp 63) (.tmp 64) tI, 65), (.slice tS (.tmp 62) (some (.tmp 65)) none none, 66), (.call { callee := .value (.func fo), args := #[.tmp 61, .tmp 66], argTypes := #[tS, tS] }, 67), (.unOp .not tB (.tmp 67), 68)] ∧
    (∀ v0 v1 v2 v6 v7 v16 v8 v22 v31 v9 v68 H, ev P noG K11 0 (.seq a1 (.seq a2 (.seq a3 (.seq a4 (.seq a5 a6))))) [v0, v1, v2, v6, v7, v16, v8, v22, v31, v9, v68] H = insQ0 P tE tI by_ v0 v1 v2 v8 v22 v31 v9 v68 H) ∧
    (∀ v0 v1 v2 v6 v7 v16 v8 v22 v31 v9 v68 H, ev P noG K11 0 gr [v0, v1, v2, v6, v7, v16, v8, v22, v31, v9, v68] H = insQ1 P tS tI v0 v1 v2 v7 v16 v8 v22 v31 v9 v68 H) ∧
    (∀ v0 v1 v2 v6 v7 v16 v8 v22 v31 v9 v68 H, ev P noG K11 0 r6 [v0, v1, v2, v6, v7, v16, v8, v22, v31, v9, v68] H = insQ2 P tI v0 v1 v2 v6 v7 v16 v8 v22 v31 v9 v68 H) ∧
    (∀ v0 v1 v2 v6 v7 v16 v8 v22 v31 v9 v68 H, ev P noG K11 0 sh [v0, v1, v2, v6, v7, v16, v8, v22, v31, v9, v68] H = insQ3 P tS tI v0 v1 v2 v7 v16 v8 v22 v31 v9 v68 H)

/-! codes one behind the other -/
def seqs : List Code → Code → Code
  | [], y => y
  | c :: r, y => .seq c (seqs r y)
theorem seqs_sound {ro : Option Nat} {rm : Nat} {C : Oracle} {keep : List Nat} {N n : Nat} {last y : Code} {r : AExit × List Value × Heap} {Q : Exit → Act → World → Prop} (hC : OrOk P B C) (hm : P.follows .mixedOrders = true) :
    ∀ (l : List Code) (vs : List Value) (H : Heap) (μ : Mu) (a : Act) (w : World), (∀ l₀, ro = some l₀ → ∃ r, w.heap[l₀]? = some (.loop r)) → (∀ c ∈ l, okCode P N c = true) → okCode P N last = true → ev P C keep n (seqs l last) vs H = some r →
      N ≤ a.tmps.size → Sim P μ H w B → EnvR μ (Env.get (keep.zip vs)) a.tmps →
      (r.1 = .normal → ∀ a' w', Post P B keep μ a w r .normal a' w' → y.wpIn (FR ro) rm P Q a' w') → (r.1 ≠ .normal → ∀ a' w', Post P B keep μ a w r (toExit r.1) a' w' → Q (toExit r.1) a' w') →
      (seqs l (.seq last y)).wpIn (FR ro) rm P Q a w := by
  intro l
  induction l with
  | nil =>
    intro vs H μ a w hro _ hok h hN hS hE k1 k2
    refine wpIn_seq (wpIn_mono (ev_soundR hC hm last vs H r μ a w hro hok h hN hS hE) ?_)
    intro e a' w' hp
    have he := hp.1
    subst he
    cases hr : r.1 with
    | normal => rw [hr] at hp; exact k1 hr a' w' hp
    | ret => have := k2 (by rw [hr]; simp) a' w' hp; rw [hr] at this; exact this
    | exit id => have := k2 (by rw [hr]; simp) a' w' hp; rw [hr] at this; exact this
  | cons c l ih =>
    intro vs H μ a w hro hcs hok h hN hS hE k1 k2
    simp only [seqs, ev] at h
    cases hx : ev P C keep n c vs H with
    | none => rw [hx] at h; cases h
    | some q =>
      obtain ⟨e1, vs1, H1⟩ := q
      rw [hx] at h
      refine wpIn_seq (wpIn_mono (ev_soundR hC hm c vs H _ μ a w hro (hcs c (by simp)) hx hN hS hE) ?_)
      intro e a1 w1 hp
      have he := hp.1
      subst he
      have hp' := hp
      obtain ⟨_, μ1, h1, h2, h3, h4, h5, h6⟩ := hp
      cases e1 with
      | normal =>
        simp only at h
        exact ih vs1 H1 μ1 a1 w1 (lp_of hro h6) (fun c hc => hcs c (by simp [hc])) hok h (by rw [h4]; exact hN) h5 h2
          (fun hr a' w' hq => k1 hr a' w' (hq.trans h1 h3 h4 h6)) (fun hr a' w' hq => k2 hr a' w' (hq.trans h1 h3 h4 h6))
      | ret => simp only at h; cases h; exact k2 (by simp) a1 w1 hp'
      | exit id => simp only at h; cases h; exact k2 (by simp) a1 w1 hp'
theorem noG_ok : OrOk P B noG := ⟨fun _ _ _ _ _ h => by simp [noG] at h, noG_hole⟩

/-- What Insert of one value is told as: the old block is dead, a new one laid. -/
def insG (tE : Nat) (args : List Value) (H : Heap) : Option (Value × Heap) :=
  match args with
  | [.slice base len cap, .int .i64 i, .slice (some ⟨j, jo, none⟩) 1 _] =>
    match H.get j, ldCells H j jo 1 with
    | some bj, some [x] =>
      if bj.ro = false ∧ bj.es = 1 ∧ 0 ≤ i ∧ i ≤ len ∧ len < 4294967296 then
        match base with
        | none => if len = 0 ∧ cap = 0 then some (.slice (some ⟨H.length, 0, none⟩) 1 1, H.new ⟨[x], tE, 1, false⟩) else none
        | some ⟨b, 0, none⟩ => match H.get b with
          | some bb => if bb.ro = false ∧ bb.es = 1 ∧ b ≠ j ∧ bb.cells.length = cap ∧ len ≤ cap ∧ (bb.cells.drop len).all plainV = true then
              some (.slice (some ⟨H.length, 0, none⟩) (len + 1) (len + 1), (H.kill b).new ⟨(bb.cells.take len).take i.toNat ++ x :: (bb.cells.take len).drop i.toNat, tE, 1, false⟩) else none
          | none => none
        | _ => none
      else none
    | _, _ => none
  | _ => none
theorem insG_hole {tE : Nat} {args : List Value} {i : Nat} {b : Blk} : Up i b H (insG tE args H) (insG tE args (H.lay i b)) := by
  intro hf v H' h
  unfold insG at h ⊢
  split at h
  case h_2 => cases h
  split at h
  case h_2 => cases h
  rename_i bj x h1 h2
  rw [get_lay hf h1, ldCells_lay hf h2]
  simp only
  split at h
  case isFalse => cases h
  rename_i hc
  rw [if_pos hc]
  split at h
  · split at h
    · rename_i h0; cases h; rw [if_pos h0]; exact ⟨hf.new _, by rw [lay_new hf, lay_len]⟩
    · cases h
  · split at h
    · rename_i bb hb
      rw [get_lay hf hb]
      simp only
      split at h
      · rename_i h0
        cases h
        rw [if_pos h0]
        have hk : Free (H.kill _) i := hf.set (hf.ne_get hb) _
        exact ⟨hk.new _, by rw [lay_kill (hf.ne_get hb), lay_new hk, lay_len]⟩
      · cases h
    · cases h
  · cases h

/-- The function's end. -/
theorem ins_fin {fn : Func} {μ' : Mu} {a0 a' : Act} {w0 w' : World} {v : Value} {Hf : Heap} (hres : fn.results = #[.tmp 6]) (hd : a0.defers = []) (hM : Marks w0 w' a0 a') (hle : μ.le μ') (hS0 : B ≤ w0.heap.size) (hS : Sim P μ' Hf w' B) (hB : Bel B w0 w')
    (hconv : ∀ w'', Sim P μ' Hf w'' B → ∃ μ'', μ'.le μ'' ∧ Sim P μ'' H' w'' B ∧ VR μ'' v (a'.tmps.getD 6 undef)) : bodyPostM (FR none) 0 P fn (CPost P B μ w0 v H') .ret a' w' := by
  obtain ⟨Ds, d1, d2, d3⟩ := hM
  rw [hd, List.append_nil] at d1
  show LeavesInM (FR none) 0 P fn a'.tmps _ a'.defers .returning w'
  rw [d1]
  refine leaves_marks hS0 Ds w' d2 d3 hS hB ?_
  intro w'' h1 h2
  obtain ⟨μ'', g1, g2, g3⟩ := hconv w'' h1
  exact ⟨_, results_tmp hres _ P w'', _, μ'', rfl, Mu.le_trans hle g1, g3, g2, h2⟩

/-! what the pieces come to -/
section
variable {tE tI tS by_ b j jo vc len cap : Nat} {i : Int} {bb bj : Blk} {x v8 v22 v31 v9 v68 : Value}
theorem insQ0_mid (hb : H.get b = some bb) (hes : bb.es = 1) (h0 : 0 ≤ i) (h1 : i < len) (h2 : len ≤ cap) :
    insQ0 P tE tI by_ (.slice (some ⟨b, 0, none⟩) len cap) (.int .i64 i) (.slice (some ⟨j, jo, none⟩) 1 vc) v8 v22 v31 v9 v68 H =
      some (.normal, [.slice (some ⟨b, 0, none⟩) len cap, .int .i64 i, .slice (some ⟨j, jo, none⟩) 1 vc, .slice none 0 0, .int .i64 1, .bool false, .int .i64 len, .bool false, v31, v9, v68], H) := by
  have e : (i == (len : Int)) = false := by simp; omega
  have e1 : i ≤ (len : Int) := by omega
  simp [insQ0, scut, boundOf, intOfV, slen, abin, aarith, hb, hes, fin, e, h0, h2, e1]
theorem insQ0_end (hb : H.get b = some bb) (hes : bb.es = 1) (h2 : len ≤ cap) :
    insQ0 P tE tI by_ (.slice (some ⟨b, 0, none⟩) len cap) (.int .i64 len) (.slice (some ⟨j, jo, none⟩) 1 vc) v8 v22 v31 v9 v68 H =
      bnd (appS tE 1 by_ (.slice (some ⟨b, 0, none⟩) len cap) (.slice (some ⟨j, jo, none⟩) 1 vc) H) fun r H =>
      some (.ret, [.slice (some ⟨b, 0, none⟩) len cap, .int .i64 len, .slice (some ⟨j, jo, none⟩) 1 vc, r, .int .i64 1, .bool false, .int .i64 len, .bool true, v31, v9, v68], H) := by
  simp [insQ0, scut, boundOf, intOfV, slen, abin, aarith, hb, hes, fin, h2]
theorem insQ0_nil :
    insQ0 P tE tI by_ (.slice none 0 0) (.int .i64 0) (.slice (some ⟨j, jo, none⟩) 1 vc) v8 v22 v31 v9 v68 H =
      bnd (appS tE 1 by_ (.slice none 0 0) (.slice (some ⟨j, jo, none⟩) 1 vc) H) fun r H =>
      some (.ret, [.slice none 0 0, .int .i64 0, .slice (some ⟨j, jo, none⟩) 1 vc, r, .int .i64 1, .bool false, .int .i64 0, .bool true, v31, v9, v68], H) := by
  simp [insQ0, scut, boundOf, intOfV, slen, abin, aarith, fin]
theorem app_nil (h : ldCells H j jo 1 = some [x]) (hby : by_ ≤ 4096) : appS tE 1 by_ (.slice none 0 0) (.slice (some ⟨j, jo, none⟩) 1 vc) H = some (.slice (some ⟨H.length, 0, none⟩) 1 1, H.new ⟨[x], tE, 1, false⟩) := by
  simp [appS, srcCells, h, hby]
theorem app_room (h : ldCells H j jo 1 = some [x]) (hx : oneCell x = true) (hb : H.get b = some bb) (hes : bb.es = 1) (hro : bb.ro = false) (hl : bb.cells.length = cap) (h2 : len + 1 ≤ cap) :
    appS tE 1 by_ (.slice (some ⟨b, 0, none⟩) len cap) (.slice (some ⟨j, jo, none⟩) 1 vc) H = some (.slice (some ⟨b, 0, none⟩) (len + 1) cap, H.put b { bb with cells := bb.cells.set len x }) := by
  simp [appS, srcCells, h, h2, hb, hes, stCells, hro, hl, hx, splice]
theorem app_grow (h : ldCells H j jo 1 = some [x]) (hb : H.get b = some bb) (hes : bb.es = 1) (hro : bb.ro = false) (hl : bb.cells.length = len) (hby : by_ ≤ 4096) (hlen : len < 4294967296) :
    appS tE 1 by_ (.slice (some ⟨b, 0, none⟩) len len) (.slice (some ⟨j, jo, none⟩) 1 vc) H = some (.slice (some ⟨H.length, 0, none⟩) (len + 1) (len + 1), (H.kill b).new ⟨bb.cells ++ [x], tE, 1, false⟩) := by
  have e : len + 1 ≤ 4294967296 := by omega
  have e2 : ldCells H b 0 len = some bb.cells := by
    simp [ldCells, hb, hl]
    rw [← hl]; simp
  simp [appS, srcCells, h, hb, hes, hro, hl, hby, e, e2]
theorem insQ2_eq (hb : H.get b = some bb) (hes : bb.es = 1) (h2 : len + 1 ≤ cap) (hlen : len < 4294967296) {v1 v2 v6 v16 v22 : Value} :
    insQ2 P tI (.slice (some ⟨b, 0, none⟩) len cap) v1 v2 v6 (.int .i64 1) v16 (.int .i64 len) v22 v31 v9 v68 H =
      some (.normal, [.slice (some ⟨b, 0, none⟩) (len + 1) cap, v1, v2, v6, .int .i64 1, v16, .int .i64 len, v22, v31, v9, v68], H) := by
  have e : IntKind.i64.wrap ((len : Int) + 1) = len + 1 := by rw [IntKind.wrap_i64]; omega
  have e2 : ((len : Int) + 1) ≤ cap := by omega
  have e3 : (0 : Int) ≤ (len : Int) + 1 := by omega
  have e4 : ((len : Int) + 1).toNat = len + 1 := by omega
  simp [insQ2, abin, aarith, e, scut, boundOf, intOfV, hb, hes, e2, e3, e4, fin]
end

/-- One set in, what stood behind moved on. -/
theorem ins_cells {cs : List Value} {x : Value} {i len : Nat} (hi : i ≤ len) (hl : len + 1 ≤ cs.length) :
    ((splice (splice cs (i + 1) ((cs.drop i).take (len - i))) i [x]).take (len + 1) = (cs.take len).take i ++ x :: (cs.take len).drop i) ∧ (splice (splice cs (i + 1) ((cs.drop i).take (len - i))) i [x]).drop (len + 1) = cs.drop (len + 1) ∧
    (splice (splice cs (i + 1) ((cs.drop i).take (len - i))) i [x]).length = cs.length := by
  have h1 : ((cs.drop i).take (len - i)).length = len - i := by simp; omega
  have l1 : (splice cs (i + 1) ((cs.drop i).take (len - i))).length = cs.length := splice_length (by rw [h1]; omega)
  have l2 : (splice (splice cs (i + 1) ((cs.drop i).take (len - i))) i [x]).length = cs.length := by rw [splice_length (by simp only [l1, List.length_singleton]; omega), l1]
  have e1 : splice cs (i + 1) ((cs.drop i).take (len - i)) = cs.take (i + 1) ++ ((cs.drop i).take (len - i) ++ cs.drop (len + 1)) := by
    rw [splice_eq _ _ _ (by rw [h1]; omega), h1, List.append_assoc, show i + 1 + (len - i) = len + 1 by omega]
  have t1 : (splice cs (i + 1) ((cs.drop i).take (len - i))).take i = cs.take i := by
    rw [e1, List.take_append_of_le_length (by simp; omega), List.take_take, Nat.min_eq_left (by omega)]
  have d1 : (splice cs (i + 1) ((cs.drop i).take (len - i))).drop (i + 1) = (cs.drop i).take (len - i) ++ cs.drop (len + 1) := by
    rw [e1]; exact List.drop_left' (by simp; omega)
  have e2 : splice (splice cs (i + 1) ((cs.drop i).take (len - i))) i [x] = (cs.take i ++ x :: (cs.drop i).take (len - i)) ++ cs.drop (len + 1) := by
    rw [splice_eq _ _ _ (by simp only [l1, List.length_singleton]; omega), t1, List.length_singleton, d1]; simp
  have l3 : (cs.take i ++ x :: (cs.drop i).take (len - i)).length = len + 1 := by simp; omega
  refine ⟨?_, ?_, l2⟩
  · rw [e2, List.take_left' l3, List.take_take, Nat.min_eq_left hi, List.drop_take]
  · rw [e2, List.drop_left' l3]

section
variable {tE tI tS by_ b j jo vc len cap i : Nat} {bb bj : Blk} {x v6 v16 v22 v31 v9 v68 : Value}
theorem put_put' {c d : Blk} : (H.put b c).put b d = H.put b d := by simp [Heap.put]
theorem insQ3_eq {cs : List Value} {ty : TypeId} (uS : P.underlying tS = some (.slice tE)) (zE : szOf P tE = some 1) (hb : H.get b = some ⟨cs, ty, 1, false⟩) (hl : cs.length = cap) (hone : cs.all oneCell = true) (hi : i < len) (h2 : len + 1 ≤ cap) (hlen : len < 4294967296)
    (hbj : b ≠ j) (hx : ldCells H j jo 1 = some [x]) (hx1 : oneCell x = true) :
    insQ3 P tS tI (.slice (some ⟨b, 0, none⟩) (len + 1) cap) (.int .i64 i) (.slice (some ⟨j, jo, none⟩) 1 vc) (.int .i64 1) v16 (.int .i64 len) v22 v31 v9 v68 H =
      some (.ret, [.slice (some ⟨b, 0, none⟩) (len + 1) cap, .int .i64 i, .slice (some ⟨j, jo, none⟩) 1 vc, .slice (some ⟨b, 0, none⟩) (len + 1) cap, .int .i64 1, v16, .int .i64 len, v22, v31, v9, v68],
        H.put b ⟨splice (splice cs (i + 1) ((cs.drop i).take (len - i))) i [x], ty, 1, false⟩) := by
  have e : IntKind.i64.wrap ((i : Int) + 1) = i + 1 := by rw [IntKind.wrap_i64]; omega
  have e1 : (0 : Int) ≤ (i : Int) + 1 := by omega
  have e2 : ((i : Int) + 1).toNat = i + 1 := by omega
  have e3 : (i : Int) + 1 ≤ (len : Int) + 1 := by omega
  have q1 : ldCells H b i (len - i) = some ((cs.drop i).take (len - i)) := by
    simp only [ldCells, hb]; rw [if_pos (by omega)]
  have hcs : ((cs.drop i).take (len - i)).length = len - i := by simp; omega
  have hcs1 : ((cs.drop i).take (len - i)).all oneCell = true := by
    rw [List.all_eq_true] at hone ⊢
    exact fun y hy => hone y (List.mem_of_mem_drop (List.mem_of_mem_take hy))
  have hil2 : i + 1 + (len - i) ≤ cap := by omega
  have q2 : stCells H b (i + 1) ((cs.drop i).take (len - i)) = some (H.put b ⟨splice cs (i + 1) ((cs.drop i).take (len - i)), ty, 1, false⟩) := by
    simp only [stCells, hb, hcs, hcs1, hl, hil2, Bool.not_false, decide_true, Bool.and_self, if_true]
  have hbl := Heap.get_lt hb
  have hsl : (splice cs (i + 1) ((cs.drop i).take (len - i))).length = cap := by rw [splice_length (by rw [hcs]; omega), hl]
  generalize splice cs (i + 1) ((cs.drop i).take (len - i)) = S1 at q2 hsl ⊢
  have q3 : (H.put b ⟨S1, ty, 1, false⟩).get b = some ⟨S1, ty, 1, false⟩ := Heap.get_put_self hbl
  have q4 : ldCells (H.put b ⟨S1, ty, 1, false⟩) j jo 1 = some [x] := by
    simp only [ldCells, Heap.get_put_ne (Ne.symm hbj)] at hx ⊢; exact hx
  have hil : i + 1 ≤ cap := by omega
  have q5 : stCells (H.put b ⟨S1, ty, 1, false⟩) b i [x] = some (H.put b ⟨splice S1 i [x], ty, 1, false⟩) := by
    simp only [stCells, q3, hsl, hx1, hil, Bool.not_false, decide_true, Bool.and_self, if_true, List.length_singleton, List.all_cons, List.all_nil, put_put']
  have m1 : min (len + 1 - i) (len + 1 - (i + 1)) = len - i := by omega
  have m2 : min 1 (len + 1 - i) = 1 := by omega
  have n0 : ¬ len - i = 0 := by omega
  have k1 : i ≤ len + 1 := by omega
  have k2 : i + 1 ≤ len + 1 := by omega
  have k3 : i ≤ len := by omega
  have k4 : ¬ len + 1 - i = 0 := by omega
  have k5 : ¬ (len + 1 - i = 0 ∨ len - i = 0) := by omega
  simp [insQ3, h2, k1, k4, abin, aarith, e, scut, boundOf, intOfV, hb, e1, e2, e3, fin, acopy, uS, zE, srcCells, m2, q1, q2, q3, q4, q5, n0]
theorem insQ1_eq {cs : List Value} {ty : TypeId} {z : List Value} {v22 v31 v68 : Value} (uS : P.underlying tS = some (.slice tE)) (zE : szOf P tE = some 1) (hb : H.get b = some ⟨cs, ty, 1, false⟩) (hl : len ≤ cs.length) (hone : cs.all oneCell = true) (hi : i < len) (hlen : len < 4294967296)
    (hz : z.length = len + 1) (hzp : z.take i = cs.take i) (hcap : len ≤ cap) (hcc : cap ≤ cs.length) (hx : ldCells H j jo 1 = some [x]) (hx1 : oneCell x = true) :
    insQ1 P tS tI (.slice (some ⟨b, 0, none⟩) len cap) (.int .i64 i) (.slice (some ⟨j, jo, none⟩) 1 vc) (.int .i64 1) v16 (.int .i64 len) v22 v31 (.slice (some ⟨H.length, 0, none⟩) (len + 1) (len + 1)) v68 (H.new ⟨z, tE, 1, false⟩) =
      some (.ret, [.slice (some ⟨b, 0, none⟩) len cap, .int .i64 i, .slice (some ⟨j, jo, none⟩) 1 vc, .slice (some ⟨H.length, 0, none⟩) (len + 1) (len + 1), .int .i64 1, v16, .int .i64 len, v22, v31, .slice (some ⟨H.length, 0, none⟩) (len + 1) (len + 1), v68],
        H.new ⟨(cs.take len).take i ++ x :: (cs.take len).drop i, tE, 1, false⟩) := by
  have e : IntKind.i64.wrap ((i : Int) + 1) = i + 1 := by rw [IntKind.wrap_i64]; omega
  have e1 : (0 : Int) ≤ (i : Int) + 1 := by omega
  have e2 : ((i : Int) + 1).toNat = i + 1 := by omega
  have e3 : (i : Int) + 1 ≤ (len : Int) + 1 := by omega
  have e4' : (0 : Int) ≤ (len : Int) + 1 := by omega
  have e5 : (i : Int) ≤ (len : Int) + 1 := by omega
  have e6 : ((len : Int) + 1).toNat = len + 1 := by omega
  have e7 : (i : Int) ≤ (len : Int) := by omega
  have hbl := Heap.get_lt hb
  have hjl : j < H.length := by
    unfold ldCells at hx
    split at hx
    · rename_i c hc; exact Heap.get_lt hc
    · cases hx
  have hj' : ldCells (H.new ⟨z, tE, 1, false⟩) j jo 1 = some [x] := by
    simp only [ldCells, Heap.get_new_old hjl] at hx ⊢; exact hx
  have g0 : (H.new ⟨z, tE, 1, false⟩).get H.length = some ⟨z, tE, 1, false⟩ := Heap.get_new_self
  have gb : (H.new ⟨z, tE, 1, false⟩).get b = some ⟨cs, ty, 1, false⟩ := by rw [Heap.get_new_old hbl]; exact hb
  have pn : ∀ c d : Blk, (H.new c).put H.length d = H.new d := by
    intro c d
    unfold Heap.put Heap.new
    rw [List.set_append_right _ _ (Nat.le_refl _)]; simp
  have hil : i + 1 ≤ len + 1 := by omega
  have q1 : stCells (H.new ⟨z, tE, 1, false⟩) H.length i [x] = some (H.new ⟨splice z i [x], tE, 1, false⟩) := by
    simp only [stCells, g0, hz, hx1, hil, Bool.not_false, decide_true, Bool.and_self, if_true, List.length_singleton, List.all_cons, List.all_nil, pn]
  have hcs : ((cs.drop i).take (len - i)).length = len - i := by simp; omega
  have hcs1 : ((cs.drop i).take (len - i)).all oneCell = true := by
    rw [List.all_eq_true] at hone ⊢
    exact fun y hy => hone y (List.mem_of_mem_drop (List.mem_of_mem_take hy))
  have l1 : (splice z i [x]).length = len + 1 := by rw [splice_length (by simp only [List.length_singleton]; omega), hz]
  have fin0 : splice (splice z i [x]) (i + 1) ((cs.drop i).take (len - i)) = (cs.take len).take i ++ x :: (cs.take len).drop i := by
    have hd : (splice z i [x]).drop (i + 1 + (len - i)) = [] := List.drop_eq_nil_of_le (by rw [l1]; omega)
    have ht : (splice z i [x]).take (i + 1) = cs.take i ++ [x] := by
      rw [splice_eq _ _ _ (by simp only [List.length_singleton]; omega), hzp]
      exact List.take_left' (by simp; omega)
    rw [splice_eq _ _ _ (by rw [hcs, l1]; omega), hcs, hd, List.append_nil, ht, List.take_take, Nat.min_eq_left (by omega), List.drop_take]
    simp
  generalize hS1 : splice z i [x] = S1 at q1 l1 fin0
  have g1 : (H.new ⟨S1, tE, 1, false⟩).get H.length = some ⟨S1, tE, 1, false⟩ := Heap.get_new_self
  have gb1 : (H.new ⟨S1, tE, 1, false⟩).get b = some ⟨cs, ty, 1, false⟩ := by rw [Heap.get_new_old hbl]; exact hb
  have q2 : ldCells (H.new ⟨S1, tE, 1, false⟩) b i (len - i) = some ((cs.drop i).take (len - i)) := by
    simp only [ldCells, gb1]; rw [if_pos (by omega)]
  have hil2 : i + 1 + (len - i) ≤ len + 1 := by omega
  have q3 : stCells (H.new ⟨S1, tE, 1, false⟩) H.length (i + 1) ((cs.drop i).take (len - i)) = some (H.new ⟨(cs.take len).take i ++ x :: (cs.take len).drop i, tE, 1, false⟩) := by
    simp only [stCells, g1, hcs, hcs1, l1, hil2, Bool.not_false, decide_true, Bool.and_self, if_true, pn, fin0]
  have m1 : min (len - i) (len + 1 - (i + 1)) = len - i := by omega
  have m2 : min 1 (len + 1 - i) = 1 := by omega
  have n0 : ¬ len - i = 0 := by omega
  have e8 : (len : Int) ≤ cap := by omega
  have k1 : i ≤ len + 1 := by omega
  have k2 : i + 1 ≤ len + 1 := by omega
  have k3 : i ≤ len := by omega
  have k4 : ¬ len + 1 - i = 0 := by omega
  simp [insQ1, hcap, k1, k2, k3, k4, abin, aarith, e, scut, boundOf, intOfV, g0, g1, gb1, e1, e2, e3, e4', e5, e6, e7, e8, fin, acopy, uS, zE, srcCells, m1, m2, q1, q2, q3, n0, hj']
end

theorem VR.renum {μ μ'' : Mu} {b k n c : Nat} {l : Loc} {r : Value} (h : VR μ (.slice (some ⟨b, 0, none⟩) n c) r) (hn : 0 < n) (hl : μ b = some l) (hk : μ'' k = some l) : VR μ'' (.slice (some ⟨k, 0, none⟩) n n) r := by
  rcases h.slice_some with ⟨i, off, cap', l', e, hl', h1, h2, h3, rfl⟩ | ⟨i, off, a', e, rfl, rfl, rfl⟩
  · cases e
    rw [hl] at hl'; cases hl'
    exact .slice k 0 n n cap' l hk (Nat.le_refl _) (by omega) h3
  · omega
theorem get11 {tmps : Array Value} {v0 v1 v2 v6 v7 v16 v8 v22 v31 v9 v68 : Value} (h : EnvR μ (Env.get (K11.zip [v0, v1, v2, v6, v7, v16, v8, v22, v31, v9, v68])) tmps) :
    VR μ v0 (tmps.getD 0 undef) ∧ VR μ v1 (tmps.getD 1 undef) ∧ VR μ v2 (tmps.getD 2 undef) ∧ VR μ v6 (tmps.getD 6 undef) ∧ VR μ v7 (tmps.getD 7 undef) ∧ VR μ v16 (tmps.getD 16 undef) ∧ VR μ v8 (tmps.getD 8 undef) ∧
    VR μ v22 (tmps.getD 22 undef) ∧ VR μ v31 (tmps.getD 31 undef) ∧ VR μ v9 (tmps.getD 9 undef) ∧ VR μ v68 (tmps.getD 68 undef) := by
  have g : ∀ t, VR μ (Env.get (K11.zip [v0, v1, v2, v6, v7, v16, v8, v22, v31, v9, v68]) t) (tmps.getD t undef) := h
  exact ⟨g 0, g 1, g 2, g 6, g 7, g 16, g 8, g 22, g 31, g 9, g 68⟩
theorem put11 {tmps : Array Value} {v0 v1 v2 v6 v7 v16 v8 v22 v31 v9 v68 : Value} (h0 : VR μ v0 (tmps.getD 0 undef)) (h1 : VR μ v1 (tmps.getD 1 undef)) (h2 : VR μ v2 (tmps.getD 2 undef)) (h6 : VR μ v6 (tmps.getD 6 undef)) (h7 : VR μ v7 (tmps.getD 7 undef))
    (h16 : VR μ v16 (tmps.getD 16 undef)) (h8 : VR μ v8 (tmps.getD 8 undef)) (h22 : VR μ v22 (tmps.getD 22 undef)) (h31 : VR μ v31 (tmps.getD 31 undef)) (h9 : VR μ v9 (tmps.getD 9 undef)) (h68 : VR μ v68 (tmps.getD 68 undef)) :
    EnvR μ (Env.get (K11.zip [v0, v1, v2, v6, v7, v16, v8, v22, v31, v9, v68])) tmps :=
  envR_cons h0 (envR_cons h1 (envR_cons h2 (envR_cons h6 (envR_cons h7 (envR_cons h16 (envR_cons h8 (envR_cons h22 (envR_cons h31 (envR_cons h9 (envR_cons h68 envR_nil))))))))))
theorem getD_put_ne {a : Act} {d t : Nat} {v : Value} (h : t ≠ d) : (a.put (some d) v).tmps.getD t undef = a.tmps.getD t undef := by
  simp [Act.put, Array.getD_eq_getD_getElem?, Array.getElem?_setIfInBounds_ne (Ne.symm h)]
theorem getD_put_self {a : Act} {d : Nat} {v : Value} (h : d < a.tmps.size) : (a.put (some d) v).tmps.getD d undef = v := by
  simp [Act.put, h]

/-- The question for the capacity. -/
theorem cap_region {ro : Option Nat} {n p6 : Nat} {tS tE tI : Nat} {o6 : Array Oper} {a : Act} {Q : Exit → Act → World → Prop} {A : Addr} {len c1 : Nat} (uS : P.underlying tS = some (.slice tE))
    (h6 : opsAre o6.toList [(.move (.tmp 8), 26), (.move (.tmp 7), 27), (.binOp .add tI (.tmp 26) (.tmp 27) tI, 28), (.move (.tmp 0), 29), (.call { callee := .builtin .cap, args := #[.tmp 29], argTypes := #[tS] }, 30), (.binOp .gtr tI (.tmp 28) (.tmp 30) tI, 31)])
    (hsz : a.tmps.size = 95) (hlen : len < 4294967296) (e0 : a.tmps.getD 0 undef = .slice (some A) len c1) (e7 : a.tmps.getD 7 undef = .int .i64 1) (e8 : a.tmps.getD 8 undef = .int .i64 len)
    (hQ : ∀ a' : Act, a'.defers = a.defers → a'.tmps.size = 95 → a'.tmps.getD 31 undef = .bool (decide (c1 < len + 1)) → (∀ t, t < 26 ∨ 31 < t → a'.tmps.getD t undef = a.tmps.getD t undef) → Q .normal a' w) :
    (Code.region p6 o6 false).wpIn (FR ro) n P Q a w := by
  refine wpIn_region_list ?_
  obtain ⟨x0, r0, hl, b0, d0, g0, h6⟩ := opsAre_cons h6
  obtain ⟨x1, r1, rfl, b1, d1, g1, h6⟩ := opsAre_cons h6
  obtain ⟨x2, r2, rfl, b2, d2, g2, h6⟩ := opsAre_cons h6
  obtain ⟨x3, r3, rfl, b3, d3, g3, h6⟩ := opsAre_cons h6
  obtain ⟨x4, r4, rfl, b4, d4, g4, h6⟩ := opsAre_cons h6
  obtain ⟨x5, r5, rfl, b5, d5, g5, h6⟩ := opsAre_cons h6
  obtain rfl := opsAre_nil h6
  rw [hl]
  have hw : IntKind.i64.wrap ((len : Int) + 1) = (len : Int) + 1 := by rw [IntKind.wrap_i64]; omega
  refine list_cons g0 (wp_move b0 ?_)
  rw [d0]
  refine list_cons g1 (wp_move b1 ?_)
  rw [d1]
  refine list_cons g2 (wp_bin (k := .i64) (m := len) (m' := 1) (v := .int .i64 (len + 1)) b2 ?_ ?_ (by simp [abin, aarith, hw]) ?_)
  · rw [eval_put_ne (by omega), eval_put_self (by omega)]; exact e8
  · rw [eval_put_self (by rw [put_size]; omega), eval_put_ne (by omega)]; exact e7
  rw [d2]
  refine list_cons g3 (wp_move b3 ?_)
  rw [d3]
  refine list_cons g4 (wp_cap (ad := some A) (m := len) (c := c1) b4 uS ?_ ?_)
  · rw [eval_put_self (by simp only [put_size]; omega), eval_put_ne (by omega), eval_put_ne (by omega), eval_put_ne (by omega)]; exact e0
  rw [d4]
  have hgt : abin P .gtr tI (.int .i64 ((len : Int) + 1)) (.int .i64 (c1 : Int)) = some (.bool (decide (c1 < len + 1))) := by
    have : (decide ((len : Int) + 1 > (c1 : Int))) = decide (c1 < len + 1) := by
      rw [decide_eq_decide]; omega
    simp only [abin, aarith, if_true, this]
  refine list_cons g5 (wp_bin (k := .i64) (m := (len : Int) + 1) (m' := c1) b5 ?_ ?_ hgt ?_)
  · rw [eval_put_ne (by omega), eval_put_ne (by omega), eval_put_self (by simp only [put_size]; omega)]
  · rw [eval_put_self (by simp only [put_size]; omega)]
  rw [d5]
  refine hQ _ (by simp only [put_defers]) (by simp only [put_size]; exact hsz) (getD_put_self (by simp only [put_size]; omega)) (fun t ht => ?_)
  rw [getD_put_ne (by omega), getD_put_ne (by omega), getD_put_ne (by omega), getD_put_ne (by omega), getD_put_ne (by omega), getD_put_ne (by omega)]

theorem wp_told {ro : Option Nat} {n : Nat} {o : Oper} {a : Act} {K : Act → World → Prop} {Q : Exit → Act → World → Prop} {μ : Mu} {v : Value} {b : Builtin} {args : Array Operand} {ts : Array TypeId} {vs : Array Value} (ho : o.op = .call { callee := .builtin b, args := args, argTypes := ts })
    (hv : args.map a.eval = vs) (hT : ∀ ty cs, ToldN P μ v H' w B ((builtin b ts ty cs vs).run P w))
    (hK : ∀ v' μ' w', μ.le μ' → VR μ' v v' → Sim P μ' H' w' B → Bel B w w' → K (a.put o.dst v') w') : o.wpIn (FR ro) n P a w K Q := by
  have hnd : ∀ c, o.op ≠ .defer c := fun c e => by rw [ho] at e; cases e
  refine ⟨fun _ _ => trivial, ?_⟩
  rw [Oper.semAt_eq _ _ _ hnd]
  have hex : execOp a.eval o = builtin b ts o.type (args.map fun | .const _ => true | _ => false) vs := by
    unfold execOp
    rw [ho]
    simp only [resolve, hv]
    rfl
  obtain ⟨v', μ', w', hr, h1, h2, h3, h4⟩ := hT o.type (args.map fun | .const _ => true | _ => false)
  rw [hex]
  rcases hr with hr | ⟨hr, rfl⟩
  · rw [hr]; exact hK v' μ' w' h1 h2 h3 h4
  · rw [hr]; exact hK undef μ' w' h1 h2 h3 h4

/-- The append that grows. -/
theorem grow_region {ro : Option Nat} {n p10 : Nat} {tS tE tI by_ : Nat} {o10 : Array Oper} {a : Act} {Q : Exit → Act → World → Prop} {len c1 i b : Nat} {cs : List Value} {ty : TypeId} {l : Loc} {z : Value} (uS : P.underlying tS = some (.slice tE)) (uI : P.underlying tI = some (.int .i64)) (zE : szOf P tE = some 1)
    (bE : bytesOfT P tE = some by_) (by4 : by_ ≤ 4096) (hz : zeroOf P tE = some z)
    (h10 : opsAre o10.toList [(.move (.tmp 0), 32), (.move (.tmp 1), 33), (.slice tS (.tmp 32) none (some (.tmp 33)) none, 34), (.move (.tmp 8), 35), (.move (.tmp 7), 36), (.binOp .add tI (.tmp 35) (.tmp 36) tI, 37), (.move (.tmp 1), 38), (.binOp .sub tI (.tmp 37) (.tmp 38) tI, 39), (.call { callee := .builtin .append, args := #[.tmp 34, .tmp 39], argTypes := #[tS, tI] }, 40), (.assign (.tmp 40), 9)])
    (hsz : a.tmps.size = 95) (hlen : len < 4294967296) (hi : i < len) (hS : Sim P μ H w B) (hb : H.get b = some ⟨cs, ty, 1, false⟩) (hlb : μ b = some l) (hcl : len ≤ cs.length) (hc1 : c1 < len + 1) (hc0 : len ≤ c1)
    (e0 : a.tmps.getD 0 undef = .slice (some ⟨l.b, l.o, none⟩) len c1) (e1 : a.tmps.getD 1 undef = .int .i64 i) (e7 : a.tmps.getD 7 undef = .int .i64 1) (e8 : a.tmps.getD 8 undef = .int .i64 len)
    (hQ : ∀ (a' : Act) (w' : World) (μ' : Mu), a'.defers = a.defers → a'.tmps.size = 95 → μ.le μ' → VR μ' (.slice (some ⟨H.length, 0, none⟩) (len + 1) (len + 1)) (a'.tmps.getD 9 undef) → (∀ t, t < 9 ∨ (9 < t ∧ t < 32) ∨ 40 < t → a'.tmps.getD t undef = a.tmps.getD t undef) →
      Sim P μ' (H.new ⟨cs.take i ++ zeros z.cells.toList (len + 1 - i), tE, 1, false⟩) w' B → Bel B w w' → Q .normal a' w') :
    (Code.region p10 o10 false).wpIn (FR ro) n P Q a w := by
  refine wpIn_region_list ?_
  obtain ⟨x0, r0, hl, b0, d0, g0, h10⟩ := opsAre_cons h10
  obtain ⟨x1, r1, rfl, b1, d1, g1, h10⟩ := opsAre_cons h10
  obtain ⟨x2, r2, rfl, b2, d2, g2, h10⟩ := opsAre_cons h10
  obtain ⟨x3, r3, rfl, b3, d3, g3, h10⟩ := opsAre_cons h10
  obtain ⟨x4, r4, rfl, b4, d4, g4, h10⟩ := opsAre_cons h10
  obtain ⟨x5, r5, rfl, b5, d5, g5, h10⟩ := opsAre_cons h10
  obtain ⟨x6, r6, rfl, b6, d6, g6, h10⟩ := opsAre_cons h10
  obtain ⟨x7, r7, rfl, b7, d7, g7, h10⟩ := opsAre_cons h10
  obtain ⟨x8, r8, rfl, b8, d8, g8, h10⟩ := opsAre_cons h10
  obtain ⟨x9, r9, rfl, b9, d9, g9, h10⟩ := opsAre_cons h10
  obtain rfl := opsAre_nil h10
  rw [hl]
  have hw : IntKind.i64.wrap ((len : Int) + 1) = (len : Int) + 1 := by rw [IntKind.wrap_i64]; omega
  have hw2 : IntKind.i64.wrap ((len : Int) + 1 - i) = (len : Int) + 1 - i := by rw [IntKind.wrap_i64]; omega
  refine list_cons g0 (wp_move b0 ?_)
  rw [d0]
  refine list_cons g1 (wp_move b1 ?_)
  rw [d1]
  refine list_cons g2 (wp_sliceHi (A := ⟨l.b, l.o, none⟩) (m := len) (c := c1) (size := 1) (k := i) b2 uS zE ?_ ?_ (by omega) (by omega) (by omega) ?_)
  · rw [eval_put_ne (by omega), eval_put_self (by omega)]; exact e0
  · rw [eval_put_self (by simp only [put_size]; omega), eval_put_ne (by omega)]; exact e1
  rw [d2]
  refine list_cons g3 (wp_move b3 ?_)
  rw [d3]
  refine list_cons g4 (wp_move b4 ?_)
  rw [d4]
  refine list_cons g5 (wp_bin (k := .i64) (m := len) (m' := 1) (v := .int .i64 (len + 1)) b5 ?_ ?_ (by simp [abin, aarith, hw]) ?_)
  · rw [eval_put_ne (by omega), eval_put_self (by simp only [put_size]; omega), eval_put_ne (by omega), eval_put_ne (by omega), eval_put_ne (by omega)]; exact e8
  · rw [eval_put_self (by simp only [put_size]; omega), eval_put_ne (by omega), eval_put_ne (by omega), eval_put_ne (by omega), eval_put_ne (by omega)]; exact e7
  rw [d5]
  refine list_cons g6 (wp_move b6 ?_)
  rw [d6]
  refine list_cons g7 (wp_bin (k := .i64) (m := (len : Int) + 1) (m' := i) (v := .int .i64 ((len : Int) + 1 - i)) b7 ?_ ?_ (by simp [abin, aarith, hw2]) ?_)
  · rw [eval_put_ne (by omega), eval_put_self (by simp only [put_size]; omega)]
  · rw [eval_put_self (by simp only [put_size]; omega)]
    rw [eval_put_ne (by omega), eval_put_ne (by omega), eval_put_ne (by omega), eval_put_ne (by omega), eval_put_ne (by omega), eval_put_ne (by omega)]; exact e1
  rw [d7]
  -- the append
  obtain ⟨inf, hinf, hib⟩ := bytes_info bE
  obtain ⟨_, hzc, m, hm, hzn⟩ := run_zero hz w
  rw [zE] at hm; cases hm
  have hag : agot P H tI 1 by_ z (.int .i64 ((len : Int) + 1 - i)) = some (len + 1 - i, zeros z.cells.toList (len + 1 - i)) := by
    simp only [agot, uI]
    rw [if_pos ⟨by omega, by omega, by4⟩]
    rw [show ((len : Int) + 1 - i).toNat = len + 1 - i by omega]
  have hld : ldCells H b 0 i = some (cs.take i) := by
    simp only [ldCells, hb]; rw [if_pos (by omega)]; simp
  obtain ⟨holen, old', hold, hcell⟩ := hS.ldCells hlb hld
  have hone := hS.ldOne hld
  have hT : ∀ ty cs', ToldN P μ (.slice (some ⟨H.length, 0, none⟩) (len + 1) (len + 1)) (H.new ⟨cs.take i ++ zeros z.cells.toList (len + 1 - i), tE, 1, false⟩) w B
      ((builtin .append #[tS, tI] ty cs' #[.slice (some ⟨l.b, l.o, none⟩) (i : Int).toNat c1, .int .i64 ((len : Int) + 1 - i)]).run P w) := by
    intro ty cs'
    obtain ⟨hnl, hnew1, new', hnew, _, hgrow⟩ := agot_sound (ty := ty) (sLen := i) (sCap := c1) hS (.plain (.int .i64 ((len : Int) + 1 - i)) rfl) uS zE hinf hib hz hag (some ⟨l.b, l.o, none⟩)
    obtain ⟨newCap, hcap, hrun⟩ := hgrow (by omega) (by omega) by4 old' (fun w2 he => by
      have hr := run_loadCells_list (P := P) w2 ⟨l.b, l.o + 0, none⟩ old' (fun j v hj => by rw [← hcell j v hj]; simp [World.cell?, he])
      rw [← hold.1] at hr
      have hli : (cs.take i).length = i * 1 := by simp; omega
      rw [hli] at hr
      exact hr)
    have := grow_new (elem := tE) (size := 1) (sLen := i) (n := len + 1 - i) hS hold hnew hone hnew1 (by simp; omega) (by simpa using hnl) hzn hzc (by omega) hcap
    rw [show i + (len + 1 - i) = len + 1 by omega] at this hrun
    have e : (builtin .append #[tS, tI] ty cs' #[.slice (some ⟨l.b, l.o, none⟩) (i : Int).toNat c1, .int .i64 ((len : Int) + 1 - i)]) = (do pure (Next.value (← Builtin.append_ #[tS, tI] ty #[.slice (some ⟨l.b, l.o, none⟩) i c1, .int .i64 ((len : Int) + 1 - i)])) : Sem Next) := by
      rw [show ((i : Int).toNat) = i by omega]; rfl
    rw [e]
    refine Told.next ?_
    rw [hrun]; exact this
  refine list_cons g8 (wp_told b8 ?_ hT ?_)
  · simp only [List.map_toArray, List.map_cons, List.map_nil]
    rw [eval_put_self (by simp only [put_size]; omega)]
    rw [eval_put_ne (by omega), eval_put_ne (by omega), eval_put_ne (by omega), eval_put_ne (by omega), eval_put_ne (by omega), eval_put_self (by simp only [put_size]; omega)]
  intro v' μ' w' hle hv' hS' hB'
  rw [d8]
  refine list_cons g9 (wp_assign b9 ?_)
  rw [d9]
  refine hQ _ w' μ' (by simp only [put_defers]) (by simp only [put_size]; exact hsz) hle ?_ (fun t ht => ?_) hS' hB'
  · rw [getD_put_self (by simp only [put_size]; omega), eval_put_self (by simp only [put_size]; omega)]; exact hv'
  · rw [getD_put_ne (by omega), getD_put_ne (by omega), getD_put_ne (by omega), getD_put_ne (by omega), getD_put_ne (by omega), getD_put_ne (by omega), getD_put_ne (by omega), getD_put_ne (by omega), getD_put_ne (by omega), getD_put_ne (by omega)]

theorem wp_sliceLo {ro : Option Nat} {n : Nat} {o : Oper} {a : Act} {K : Act → World → Prop} {Q : Exit → Act → World → Prop} {x h : Operand} {t e : TypeId} {A : Addr} {m c : Nat} {k : Nat} (ho : o.op = .slice t x (some h) none none) (ht : P.underlying t = some (.slice e)) (hz : szOf P e = some 1)
    (hx : a.eval x = .slice (some ⟨A.block, A.off, none⟩) m c) (hh : a.eval h = .int .i64 k) (h1 : k ≤ m) (hc : k < c)
    (hK : K (a.put o.dst (.slice (some ⟨A.block, A.off + k, none⟩) (m - k) (c - k))) w) : o.wpIn (FR ro) n P a w K Q := by
  refine wp_val (fun c e => by rw [ho] at e; cases e) ?_ hK
  unfold execOp
  rw [ho]
  have hb := bound_run (P := P) (k := .i64) (n := k) (y := m) (c := .sliceB) (by omega) (by omega) w
  have hne : ¬ c = k := by omega
  simp [hx, hh, Instr.sliceAt, Instr.slice, run_underlying ht, Instr.sliceBounds, hb, run_sz hz, hne, addr_add]
theorem wp_not {ro : Option Nat} {n : Nat} {o : Oper} {a : Act} {K : Act → World → Prop} {Q : Exit → Act → World → Prop} {x : Operand} {t : TypeId} {b : Bool} (ho : o.op = .unOp .not t x) (hx : a.eval x = .bool b)
    (hK : K (a.put o.dst (.bool !b)) w) : o.wpIn (FR ro) n P a w K Q := by
  refine wp_val (fun c e => by rw [ho] at e; cases e) ?_ hK
  unfold execOp
  rw [ho]
  simp [hx, Op.unary]
theorem wp_extern {ro : Option Nat} {n : Nat} {o : Oper} {a : Act} {K : Act → World → Prop} {Q : Exit → Act → World → Prop} {f : FuncId} {args : Array Operand} {ts : Array TypeId} {vs : Array Value} {v : Value} (ho : o.op = .call { callee := .value (.func f), args := args, argTypes := ts })
    (hv : args.map a.eval = vs) (hr : (callFunc f vs).run P w = .ok (.value v) w) (hK : K (a.put o.dst v) w) : o.wpIn (FR ro) n P a w K Q := by
  refine wp_val (fun c e => by rw [ho] at e; cases e) ?_ hK
  unfold execOp
  rw [ho]
  simp only [resolve, hv, Act.eval]
  simp [Deferred.ofValue, invoke, hr]

theorem row_of {b : Blk} {l : Loc} {i : Nat} (hS : Sim P μ H w B) (hb : H.get i = some b) (hro : b.ro = false) (hl : μ i = some l) : ∃ (cs : Array Value) (ty : TypeId), w.heap[l.b]? = some (.cells cs ty (0, 0)) ∧ l.o + b.cells.length ≤ cs.size := by
  obtain ⟨l', e, k⟩ := hS.ok i b hb
  rw [hl] at e; cases e
  obtain ⟨cs, ty, fz, h1, h2, h3, h4, h5⟩ := k.row
  obtain rfl := h3 hro
  exact ⟨cs, ty, h1, h4⟩
/-- Do the slices overlap? No. -/
theorem over_region {ro : Option Nat} {n p8 : Nat} {tS tE tI tB fo : Nat} {o8 : Array Oper} {a : Act} {Q : Exit → Act → World → Prop} {len c1 i b j jo cj : Nat} {bb bj : Blk} {l lj : Loc} (uS : P.underlying tS = some (.slice tE)) (zE : szOf P tE = some 1) (ov : OverFn P fo tS tB)
    (h8 : opsAre o8.toList [(.move (.tmp 2), 61), (.move (.tmp 0), 62), (.move (.tmp 1), 63), (.move (.tmp 7), 64), (.binOp .add tI (.tmp 63) (.tmp 64) tI, 65), (.slice tS (.tmp 62) (some (.tmp 65)) none none, 66), (.call { callee := .value (.func fo), args := #[.tmp 61, .tmp 66], argTypes := #[tS, tS] }, 67), (.unOp .not tB (.tmp 67), 68)])
    (hsz : a.tmps.size = 95) (hlen : len < 4294967296) (hi : i < len) (hS : Sim P μ H w B) (hb : H.get b = some bb) (hbro : bb.ro = false) (hlb : μ b = some l) (hj : H.get j = some bj) (hjro : bj.ro = false) (hlj : μ j = some lj) (hbj : b ≠ j) (hc1 : len + 1 ≤ c1) (hrow : 0 < bb.cells.length)
    (e0 : a.tmps.getD 0 undef = .slice (some ⟨l.b, l.o, none⟩) (len + 1) c1) (e1 : a.tmps.getD 1 undef = .int .i64 i) (e2 : a.tmps.getD 2 undef = .slice (some ⟨lj.b, lj.o + jo, none⟩) 1 cj) (e7 : a.tmps.getD 7 undef = .int .i64 1)
    (hQ : ∀ (a' : Act), a'.defers = a.defers → a'.tmps.size = 95 → a'.tmps.getD 68 undef = .bool true → (∀ t, t < 61 → a'.tmps.getD t undef = a.tmps.getD t undef) → Q .normal a' w) :
    (Code.region p8 o8 false).wpIn (FR ro) n P Q a w := by
  refine wpIn_region_list ?_
  obtain ⟨x0, r0, hl, b0, d0, g0, h8⟩ := opsAre_cons h8
  obtain ⟨x1, r1, rfl, b1, d1, g1, h8⟩ := opsAre_cons h8
  obtain ⟨x2, r2, rfl, b2, d2, g2, h8⟩ := opsAre_cons h8
  obtain ⟨x3, r3, rfl, b3, d3, g3, h8⟩ := opsAre_cons h8
  obtain ⟨x4, r4, rfl, b4, d4, g4, h8⟩ := opsAre_cons h8
  obtain ⟨x5, r5, rfl, b5, d5, g5, h8⟩ := opsAre_cons h8
  obtain ⟨x6, r6, rfl, b6, d6, g6, h8⟩ := opsAre_cons h8
  obtain ⟨x7, r7, rfl, b7, d7, g7, h8⟩ := opsAre_cons h8
  obtain rfl := opsAre_nil h8
  rw [hl]
  have hw : IntKind.i64.wrap ((i : Int) + 1) = (i : Int) + 1 := by rw [IntKind.wrap_i64]; omega
  refine list_cons g0 (wp_move b0 ?_)
  rw [d0]
  refine list_cons g1 (wp_move b1 ?_)
  rw [d1]
  refine list_cons g2 (wp_move b2 ?_)
  rw [d2]
  refine list_cons g3 (wp_move b3 ?_)
  rw [d3]
  refine list_cons g4 (wp_bin (k := .i64) (m := i) (m' := 1) (v := .int .i64 ((i + 1 : Nat) : Int)) b4 ?_ ?_ (by simp [abin, aarith, hw]) ?_)
  · rw [eval_put_ne (by omega), eval_put_self (by simp only [put_size]; omega), eval_put_ne (by omega), eval_put_ne (by omega)]; exact e1
  · rw [eval_put_self (by simp only [put_size]; omega), eval_put_ne (by omega), eval_put_ne (by omega), eval_put_ne (by omega)]; exact e7
  rw [d4]
  refine list_cons g5 (wp_sliceLo (A := ⟨l.b, l.o, none⟩) (m := len + 1) (c := c1) (k := i + 1) b5 uS zE ?_ ?_ (by omega) (by omega) ?_)
  · rw [eval_put_ne (by omega), eval_put_ne (by omega), eval_put_ne (by omega), eval_put_self (by simp only [put_size]; omega), eval_put_ne (by omega)]; exact e0
  · rw [eval_put_self (by simp only [put_size]; omega)]
  rw [d5]
  have hov : (callFunc fo #[.slice (some ⟨lj.b, lj.o + jo, none⟩) 1 cj, .slice (some ⟨l.b, l.o + (i + 1), none⟩) (len + 1 - (i + 1)) (c1 - (i + 1))]).run P w = .ok (.value (.bool false)) w := by
    obtain ⟨fno, q1, q2, q3, q4, q5⟩ := ov.ext
    obtain ⟨csb, tyb, rb, hb1⟩ := row_of hS hb hbro hlb
    obtain ⟨csj, tyj, rj, _⟩ := row_of hS hj hjro hlj
    have hne : lj.b ≠ l.b := hS.inj j b bj bb lj l hj hb hlj hlb (Ne.symm hbj) hjro
    rw [run_callFunc_extern q1 q2 q3 q4 q5, Lib.run_overlaps_apart w tS tB tE uS 1 (fun w => run_sz zE w) ⟨lj.b, lj.o + jo, none⟩ ⟨l.b, l.o + (i + 1), none⟩ 1 cj _ _ hne tyj tyb csj.size csb.size (by simp [World.shape?, rj]) (by simp [World.shape?, rb]) (by omega) (by simp [World.frozen?, rj]) (by simp [World.frozen?, rj])]
    rfl
  refine list_cons g6 (wp_extern b6 ?_ hov ?_)
  · simp only [List.map_toArray, List.map_cons, List.map_nil]
    rw [eval_put_self (by simp only [put_size]; omega)]
    rw [eval_put_ne (by omega), eval_put_ne (by omega), eval_put_ne (by omega), eval_put_ne (by omega), eval_put_ne (by omega), eval_put_self (by omega)]
    have : a.eval (.tmp 2) = .slice (some ⟨lj.b, lj.o + jo, none⟩) 1 cj := e2
    rw [this]
  rw [d6]
  refine list_cons g7 (wp_not (b := false) b7 ?_ ?_)
  · rw [eval_put_self (by simp only [put_size]; omega)]
  rw [d7]
  refine hQ _ (by simp only [put_defers]) (by simp only [put_size]; exact hsz) (by rw [getD_put_self (by simp only [put_size]; omega)]; rfl) (fun t ht => ?_)
  rw [getD_put_ne (by omega), getD_put_ne (by omega), getD_put_ne (by omega), getD_put_ne (by omega), getD_put_ne (by omega), getD_put_ne (by omega), getD_put_ne (by omega), getD_put_ne (by omega)]
end Go.Proofs.YtgakioiplkehgaaA.Am
