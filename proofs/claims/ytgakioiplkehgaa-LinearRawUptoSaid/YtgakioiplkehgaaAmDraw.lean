/-
A region whose order is drawn: whatever order it is, it comes to what the text's order comes to.
-/
import Derived.Test.YtgakioiplkehgaaAmRun
import Derived.Test.YtgakioiplkehgaaAmFill
set_option linter.unusedSimpArgs false
namespace Go.Proofs.YtgakioiplkehgaaA.Am
open Go.RowKit (Below)
variable {P : Program} {μ : Mu} {H H' : Heap} {w : World} {B : Nat}

/-! ### the edges -/
def ownBits (acc : Array Nat) (es : List Edge) (s : Nat) : Nat :=
  es.foldl (fun s e => if Region.binds .any e then s ||| 2 ^ e.on ||| acc.getD e.on 0 else s) s
theorem ownBits_bit (acc : Array Nat) : ∀ (es : List Edge) (s i : Nat), (ownBits acc es s).testBit i = true →
    s.testBit i = true ∨ ∃ e ∈ es, Region.binds .any e = true ∧ (i = e.on ∨ (acc.getD e.on 0).testBit i = true)
  | [], s, i, h => .inl h
  | e :: r, s, i, h => by
    have h' : (ownBits acc r (if Region.binds .any e then s ||| 2 ^ e.on ||| acc.getD e.on 0 else s)).testBit i = true := h
    rcases ownBits_bit acc r _ i h' with h1 | ⟨e', he, hb⟩
    · split at h1
      · rename_i hb
        rw [Nat.testBit_or, Nat.testBit_or, Nat.testBit_two_pow] at h1
        simp only [Bool.or_eq_true, decide_eq_true_eq] at h1
        rcases h1 with (h1 | h1) | h1
        · exact .inl h1
        · exact .inr ⟨e, by simp, hb, .inl h1.symm⟩
        · exact .inr ⟨e, by simp, hb, .inr h1⟩
      · exact .inl h1
    · exact .inr ⟨e', by simp [he], hb⟩

def BefInv (ops : Array Oper) (acc : Array Nat) : Prop :=
  ∀ j, j < acc.size → ∀ i, (acc.getD j 0).testBit i = true → ∃ o, ops[j]? = some o ∧ ∃ e ∈ o.after, Region.binds .any e = true ∧ (i = e.on ∨ (e.on < j ∧ (acc.getD e.on 0).testBit i = true))

theorem before_fold (ops : Array Oper) : ∀ (l : List Oper) (acc : Array Nat), (∀ k o, l[k]? = some o → ops[acc.size + k]? = some o) → BefInv ops acc →
    BefInv ops (l.foldl (fun acc o => acc.push (o.after.foldl (fun s e => if Region.binds .any e then s ||| 2 ^ e.on ||| acc.getD e.on 0 else s) 0)) acc)
  | [], acc, _, h => h
  | o :: r, acc, hl, h => by
    rw [List.foldl_cons]
    refine before_fold ops r _ (fun k o' hk => ?_) ?_
    · have := hl (k + 1) o' (by simpa using hk)
      rw [Array.size_push, show acc.size + 1 + k = acc.size + (k + 1) by omega]; exact this
    · intro j hj i hi
      rw [Array.size_push] at hj
      by_cases e : j = acc.size
      · subst e
        have e0 : ∀ x : Nat, (acc.push x).getD acc.size 0 = x := fun x => by simp [Array.getD_eq_getD_getElem?]
        rw [e0, ← Array.foldl_toList] at hi
        have hi' : (ownBits acc o.after.toList 0).testBit i = true := hi
        rcases ownBits_bit acc _ 0 i hi' with h0 | ⟨e, he, hb, h1⟩
        · simp at h0
        · refine ⟨o, by simpa using hl 0 o rfl, e, by simpa using he, hb, ?_⟩
          rcases h1 with h1 | h1
          · exact .inl h1
          · right
            have hlt : e.on < acc.size := by
              by_cases hl : e.on < acc.size
              · exact hl
              · rw [Array.getD_eq_getD_getElem?, Array.getElem?_eq_none (by omega)] at h1; simp at h1
            refine ⟨hlt, ?_⟩
            rw [Array.getD_eq_getD_getElem?, Array.getElem?_push_lt hlt]
            rw [Array.getD_eq_getD_getElem?, Array.getElem?_eq_getElem hlt] at h1
            exact h1
      · have hlt : j < acc.size := by omega
        have e1 : ∀ k, k < acc.size → ∀ s, (acc.push s).getD k 0 = acc.getD k 0 := by
          intro k hk s
          rw [Array.getD_eq_getD_getElem?, Array.getD_eq_getD_getElem?, Array.getElem?_push_lt hk, Array.getElem?_eq_getElem hk]
        rw [e1 j hlt] at hi
        obtain ⟨o', ho, e, he, hb, h1⟩ := h j hlt i hi
        refine ⟨o', ho, e, he, hb, ?_⟩
        rcases h1 with h1 | ⟨h1, h2⟩
        · exact .inl h1
        · exact .inr ⟨h1, by rw [e1 _ (by omega)]; exact h2⟩

theorem before_inv (ops : Array Oper) : BefInv ops (Region.before ops) := by
  unfold Region.before
  rw [← Array.foldl_toList]
  exact before_fold ops ops.toList #[] (fun k o hk => by simpa using hk) (fun j hj => by simp at hj)

/-- Whatever a set that is shut under the edges has, it has what comes before. -/
theorem bef_closed {ops : Array Oper} {L : Nat → Bool} (hcl : ∀ j o, ops[j]? = some o → L j = true → ∀ e ∈ o.after, Region.binds .any e = true → L e.on = true) :
    ∀ j, L j = true → ∀ i, bef (Region.before ops) i j = true → L i = true := by
  intro j
  induction j using Nat.strongRecOn with
  | _ j ih =>
    intro hj i hi
    unfold bef at hi
    have hlt : j < (Region.before ops).size := by
      by_cases h : j < (Region.before ops).size
      · exact h
      · rw [Array.getD_eq_getD_getElem?, Array.getElem?_eq_none (by omega)] at hi; simp at hi
    obtain ⟨o, ho, e, he, hb, h1⟩ := before_inv ops j hlt i hi
    have hon := hcl j o ho hj e he hb
    rcases h1 with rfl | ⟨hlt, h2⟩
    · exact hon
    · exact ih e.on hlt hon i h2
/-- What comes before has a lesser number. -/
theorem bef_lt {ops : Array Oper} (he : edgesOk ops = true) : ∀ j i, bef (Region.before ops) i j = true → i < j := by
  intro j
  induction j using Nat.strongRecOn with
  | _ j ih =>
    intro i hi
    unfold bef at hi
    have hlt : j < (Region.before ops).size := by
      by_cases h : j < (Region.before ops).size
      · exact h
      · rw [Array.getD_eq_getD_getElem?, Array.getElem?_eq_none (by omega)] at hi; simp at hi
    obtain ⟨o, ho, e, hem, hb, h1⟩ := before_inv ops j hlt i hi
    have hj : j < ops.size := (Array.getElem?_eq_some_iff.1 ho).1
    have := List.all_eq_true.1 he j (List.mem_range.2 hj)
    simp only [ho] at this
    have hon : e.on < j := by
      have := Array.all_eq_true_iff_forall_mem.1 this e hem
      simpa [hb] using this
    rcases h1 with rfl | ⟨_, h2⟩
    · exact hon
    · exact Nat.lt_trans (ih e.on hon i h2) hon

/-! ### the text's order, state by state -/
theorem aexecI_nil {C : Oracle} {base k : Nat} {E : Env} {o : Oper} : aexecI P C [] base k E H o = aexec P C E H o := by simp [aexecI]
theorem runOpsI_nil {C : Oracle} {base : Nat} {ops : Array Oper} : ∀ (l : List Oper) (k : Nat) (E : Env) (H : Heap), runOpsI P C [] base ops l k E H = runOps P C ops l E H ∧ traceI P C [] base ops l k E H = trace P C ops l E H
  | [], k, E, H => ⟨rfl, rfl⟩
  | o :: r, k, E, H => by
    simp only [runOpsI, runOps, traceI, trace, aexecI_nil]
    refine ⟨?_, ?_⟩
    · split
      · split
        · exact (runOpsI_nil r _ _ _).1
        · rfl
      · exact (runOpsI_nil r _ _ _).1
      · rfl
    · congr 1
      split
      · split
        · exact (runOpsI_nil r _ _ _).2
        · rfl
      · exact (runOpsI_nil r _ _ _).2
      · rfl
def stepI (P : Program) (C : Oracle) (F : List Nat) (base : Nat) (ops : Array Oper) (k : Nat) (o : Oper) (s : Env × Heap) (s' : Env × Heap) (v : Value) : Prop :=
  s'.1 = s.1.put o.dst v ∧ ((awant ops o s.1 = some true ∧ aexecI P C F base k s.1 s.2 o = some (v, s'.2)) ∨ (awant ops o s.1 = some false ∧ v = undef ∧ s'.2 = s.2))

theorem run_states {C : Oracle} {F : List Nat} {base : Nat} {ops : Array Oper} : ∀ (l : List Oper) (k0 : Nat) (E : Env) (H : Heap) (r : Env × Heap), runOpsI P C F base ops l k0 E H = some r →
    ∃ (S : Nat → Env × Heap) (val : Nat → Value), S 0 = (E, H) ∧ S l.length = r ∧ (∀ k o, l[k]? = some o → stepI P C F base ops (k0 + k) o (S k) (S (k + 1)) (val k)) ∧
      (∀ k, k ≤ l.length → (traceI P C F base ops l k0 E H)[k]? = some (S k)) := by
  intro l
  induction l with
  | nil =>
    intro k0 E H r h
    simp only [runOpsI] at h; cases h
    exact ⟨fun _ => (E, H), fun _ => undef, rfl, rfl, fun k o hk => by simp at hk, fun k hk => by simp at hk; subst hk; rfl⟩
  | cons o l ih =>
    intro k0 E H r h
    simp only [runOpsI] at h
    have go : ∀ (E1 : Env) (H1 : Heap) (v : Value), runOpsI P C F base ops l (k0 + 1) E1 H1 = some r → stepI P C F base ops k0 o (E, H) (E1, H1) v → (traceI P C F base ops (o :: l) k0 E H) = (E, H) :: traceI P C F base ops l (k0 + 1) E1 H1 →
        ∃ (S : Nat → Env × Heap) (val : Nat → Value), S 0 = (E, H) ∧ S (o :: l).length = r ∧ (∀ k o', (o :: l)[k]? = some o' → stepI P C F base ops (k0 + k) o' (S k) (S (k + 1)) (val k)) ∧
          (∀ k, k ≤ (o :: l).length → (traceI P C F base ops (o :: l) k0 E H)[k]? = some (S k)) := by
      intro E1 H1 v h1 hs ht
      obtain ⟨S, val, h0, hl, hst, htr⟩ := ih (k0 + 1) E1 H1 r h1
      refine ⟨fun k => match k with | 0 => (E, H) | k + 1 => S k, fun k => match k with | 0 => v | k + 1 => val k, rfl, hl, ?_, ?_⟩
      · intro k o' hk
        cases k with
        | zero => simp at hk; subst hk; show stepI P C F base ops (k0 + 0) o (E, H) (S 0) v; rw [h0]; exact hs
        | succ k => have := hst k o' (by simpa using hk); rw [show k0 + 1 + k = k0 + (k + 1) by omega] at this; exact this
      · intro k hk
        rw [ht]
        cases k with
        | zero => rfl
        | succ k => simp only [List.getElem?_cons_succ]; exact htr k (by simpa using hk)
    split at h
    · rename_i hw
      cases hx : aexecI P C F base k0 E H o with
      | none => rw [hx] at h; cases h
      | some q =>
        obtain ⟨v, H1⟩ := q
        rw [hx] at h
        exact go _ _ v h ⟨rfl, .inl ⟨hw, hx⟩⟩ (by simp only [traceI, hw, hx])
    · rename_i hw
      exact go _ _ undef h ⟨rfl, .inr ⟨hw, rfl, rfl⟩⟩ (by simp only [traceI, hw])
    · cases h

/-! ### which operation touches what -/
theorem aop_quiet {ρ : Operand → Value} {op : Op} {v : Value} (hc : cls P op ≠ .eff) (hb : cls P op ≠ .bad) (h : aop P ρ H op = some (v, H')) : H' = H := by
  cases op with
  | call c =>
    obtain ⟨callee, args, types⟩ := c
    cases callee with
    | builtin b =>
      simp only [aop] at h
      cases b <;> first | (exact absurd rfl hc) | (exact absurd rfl hb) | skip
      all_goals
        unfold abuiltin at h
        split at h <;> first
          | (rw [Option.map_eq_some_iff] at h; obtain ⟨_, _, e⟩ := h; cases e; rfl)
          | (split at h <;> first | (cases h; rfl) | (cases h))
          | (cases h)
          | (rename_i e _; cases e)
    | value f => exact absurd rfl hc
    | invoke r m => exact absurd rfl hb
  | move x => simp only [aop] at h; cases h; rfl
  | assign x => simp only [aop] at h; cases h; rfl
  | pick c a b => simp only [aop] at h; split at h <;> cases h; rfl
  | build t ps => simp only [aop, Option.map_eq_some_iff] at h; obtain ⟨_, _, e⟩ := h; cases e; rfl
  | load t a => simp only [aop, Option.map_eq_some_iff] at h; obtain ⟨_, _, e⟩ := h; cases e; rfl
  | nilCheck x => simp only [aop] at h; split at h <;> cases h <;> rfl
  | binOp o t x y yt => simp only [aop, Option.map_eq_some_iff] at h; obtain ⟨_, _, e⟩ := h; cases e; rfl
  | unOp o t x => simp only [aop, Option.map_eq_some_iff] at h; obtain ⟨_, _, e⟩ := h; cases e; rfl
  | convert s t x => simp only [aop] at h; split at h <;> cases h; rfl
  | makeFunc fn f c => cases fn <;> simp only [aop] at h <;> cases h; rfl
  | slice t x lo hi m => cases m <;> simp only [aop] at h <;> first | (cases h) | (rw [Option.map_eq_some_iff] at h; obtain ⟨_, _, e⟩ := h; cases e; rfl)
  | fieldAddr s x f => simp only [aop] at h; (repeat' split at h) <;> cases h; rfl
  | field s x f => simp only [aop] at h; (repeat' split at h) <;> first | (cases h; done) | (rw [Option.map_eq_some_iff] at h; obtain ⟨_, _, e⟩ := h; cases e; rfl)
  | indexAddr t x i => simp only [aop] at h; (repeat' split at h) <;> cases h <;> rfl
  | index t x i => simp only [aop] at h; (repeat' split at h) <;> first | (cases h; done) | (rw [Option.map_eq_some_iff] at h; obtain ⟨_, _, e⟩ := h; cases e; rfl)
  | lookup t m x ok => simp only [aop, Option.map_eq_some_iff] at h; obtain ⟨_, _, e⟩ := h; cases e; rfl
  | extract t i => simp only [aop] at h; split at h <;> first | (cases h; done) | (rw [Option.map_eq_some_iff] at h; obtain ⟨_, _, e⟩ := h; cases e; rfl)
  | _ => first | (exact absurd rfl hc) | (exact absurd rfl hb)

theorem aop_pure {ρ : Operand → Value} {op : Op} {v : Value} (hc : cls P op = .pure) (h : aop P ρ H op = some (v, H')) (H2 : Heap) : aop P ρ H2 op = some (v, H2) := by
  cases op with
  | call c =>
    obtain ⟨callee, args, types⟩ := c
    cases callee with
    | builtin b =>
      simp only [aop] at h ⊢
      have hlen : ∀ (H2 : Heap) x, cls P (.call { callee := .builtin .len, args := args, argTypes := types }) = .pure → ∀ v, alen P H types x = some v → alen P H2 types x = some v := by
        intro H2 x hc v hx
        simp only [cls] at hc
        unfold alen at hx ⊢
        cases ht : types[0]? with
        | none => rw [ht] at hx; cases hx
        | some t =>
          rw [ht] at hx hc
          simp only [Option.bind_some] at hc hx ⊢
          cases hu : P.underlying t with
          | none => rw [hu] at hx; cases hx
          | some d =>
            rw [hu] at hx hc
            cases d <;> first | (cases hc; done) | exact hx | (cases x <;> exact hx)
      cases b <;> first | (cases hc; done) | skip
      all_goals
        unfold abuiltin at h ⊢
        split at h <;> first
          | (rw [Option.map_eq_some_iff] at h; obtain ⟨_, hx, e⟩ := h; cases e; simp [hlen H2 _ hc _ hx]; done)
          | (rw [Option.map_eq_some_iff] at h; obtain ⟨_, hx, e⟩ := h; cases e; simp [hx]; done)
          | (split at h <;> first | (rename_i hx; cases h; simp [hx]; done) | (cases h; done))
          | (cases h; done)
          | (rename_i e _; cases e; done)
    | value f => cases hc
    | invoke r m => cases hc
  | move x => simp only [aop] at h ⊢; cases h; rfl
  | assign x => simp only [aop] at h ⊢; cases h; rfl
  | pick c a b => simp only [aop] at h ⊢; split at h <;> first | (cases h; done) | (rename_i hx; cases h; simp [hx])
  | build t ps => simp only [aop, Option.map_eq_some_iff] at h ⊢; obtain ⟨x, hx, e⟩ := h; cases e; exact ⟨_, hx, rfl⟩
  | nilCheck x => simp only [aop] at h ⊢; split at h <;> first | (cases h; done) | (rename_i hx; cases h; simp [hx])
  | binOp o t x y yt => simp only [aop, Option.map_eq_some_iff] at h ⊢; obtain ⟨x, hx, e⟩ := h; cases e; exact ⟨_, hx, rfl⟩
  | unOp o t x => simp only [aop, Option.map_eq_some_iff] at h ⊢; obtain ⟨x, hx, e⟩ := h; cases e; exact ⟨_, hx, rfl⟩
  | convert s t x => simp only [aop] at h ⊢; split at h <;> first | (cases h; done) | (rename_i h1 h2 h3; cases h; simp [h1, h2, h3])
  | makeFunc fn f c => cases fn <;> simp only [aop] at h ⊢ <;> cases h; rfl
  | fieldAddr s x f => simp only [aop] at h ⊢; (repeat' split at h) <;> first | (cases h; done) | (cases h; simp [*])
  | field s x f => simp only [aop] at h ⊢; (repeat' split at h) <;> first | (cases h; done) | (rw [Option.map_eq_some_iff] at h; obtain ⟨_, hx, e⟩ := h; cases e; simp [*])
  | indexAddr t x i => simp only [aop] at h ⊢; (repeat' split at h) <;> first | (cases h; done) | (cases h; simp [*])
  | index t x i => simp only [aop] at h ⊢; (repeat' split at h) <;> first | (cases h; done) | (rw [Option.map_eq_some_iff] at h; obtain ⟨_, hx, e⟩ := h; cases e; simp [*])
  | extract t i => simp only [aop] at h ⊢; split at h <;> first | (cases h; done) | (rw [Option.map_eq_some_iff] at h; obtain ⟨_, hx, e⟩ := h; cases e; simp [*])
  | _ => cases hc

theorem aop_congr {ρ ρ' : Operand → Value} {op : Op} (h : ∀ x ∈ op.operands, ρ x = ρ' x) : aop P ρ H op = aop P ρ' H op := by
  have pairs : ∀ ps : Array (Nat × Operand), (∀ x ∈ (ps.toList.map (·.2)).toArray, ρ x = ρ' x) →
      (ps.toList.map fun (i, x) => (i, ρ x)) = (ps.toList.map fun (i, x) => (i, ρ' x)) := fun ps hp =>
    List.map_congr_left fun p hm => by
      obtain ⟨i, x⟩ := p
      simp only [hp x (by simp; exact ⟨i, by simpa using hm⟩)]
  cases op with
  | call c =>
    obtain ⟨callee, args, types⟩ := c
    cases callee with
    | builtin b =>
      simp only [aop]
      have : args.toList.map ρ = args.toList.map ρ' := List.map_congr_left fun x hx => h x (by simp [Op.operands, Call.operands]; simpa using hx)
      rw [this]
    | _ => rfl
  | makeFunc fn f c =>
    have h1 : f.map ρ = f.map ρ' := Array.map_congr_left fun x hx => h x (by simp [Op.operands, hx])
    have h2 : c.map ρ = c.map ρ' := Array.map_congr_left fun x hx => h x (by simp [Op.operands, hx])
    cases fn <;> simp only [aop, h1, h2]
  | build t ps => simp only [aop]; rw [pairs ps (by simpa [Op.operands] using h)]
  | buildSlice t n ps => simp only [aop]; rw [pairs ps (by simpa [Op.operands] using h)]
  | slice t x lo hi m =>
    cases m with
    | some m =>
      simp only [aop]
      have h0 := h x (by simp [Op.operands])
      have h1 : lo.map ρ = lo.map ρ' := by cases lo with | none => rfl | some y => simp [h y (by simp [Op.operands])]
      have h2 : hi.map ρ = hi.map ρ' := by cases hi with | none => rfl | some y => simp [h y (by simp [Op.operands])]
      rw [h0, h1, h2, h m (by simp [Op.operands])]
    | none =>
      simp only [aop]
      have h0 := h x (by simp [Op.operands])
      have h1 : lo.map ρ = lo.map ρ' := by cases lo with | none => rfl | some y => simp [h y (by simp [Op.operands])]
      have h2 : hi.map ρ = hi.map ρ' := by cases hi with | none => rfl | some y => simp [h y (by simp [Op.operands])]
      rw [h0, h1, h2]
  | makeMap t r => cases r <;> rfl
  | _ => simp only [Op.operands] at h <;> simp [aop, h]

theorem aexecF_congr {C : Oracle} {E F : Nat → Value} {o : Oper} {ops : Array Oper} (h : ∀ t ∈ o.looksAt ops, E t = F t) : aexecF P C E H o = aexecF P C F H o := by
  have hx : ∀ x ∈ o.op.operands, aevalF E x = aevalF F x := by
    intro x hx
    cases x with
    | tmp t =>
      refine h t ?_
      unfold Oper.looksAt
      rw [List.mem_append]
      left
      rw [List.mem_filterMap]
      exact ⟨.tmp t, by simpa using hx, rfl⟩
    | _ => rfl
  unfold aexecF
  obtain ⟨dst, op, type, pos, after, guard⟩ := o
  cases op with
  | call c =>
    obtain ⟨callee, args, types⟩ := c
    cases callee with
    | value f =>
      simp only
      have h1 := hx f (by simp [Op.operands, Call.operands])
      have h2 : args.toList.map (aevalF E) = args.toList.map (aevalF F) := List.map_congr_left fun x hm => hx x (by simp [Op.operands, Call.operands]; right; simpa using hm)
      rw [h1, h2]
    | _ => exact aop_congr hx
  | _ => exact aop_congr hx
theorem awantF_congr {E F : Nat → Value} {o : Oper} {ops : Array Oper} (h : ∀ t ∈ o.looksAt ops, E t = F t) : awantF ops o E = awantF ops o F := by
  unfold awantF
  cases hg : o.guard with
  | none => rfl
  | some q =>
    obtain ⟨j, want⟩ := q
    simp only
    cases hd : (ops[j]?).bind (·.dst) with
    | none => rfl
    | some d =>
      simp only
      rw [h d (by unfold Oper.looksAt; rw [List.mem_append]; right; simp [hg, hd])]

/-- .. the environment as a function. -/
def aexecIF (P : Program) (C : Oracle) (F : List Nat) (base k : Nat) (E : Nat → Value) (H : Heap) (o : Oper) : Option (Value × Heap) :=
  if F.contains k then afill P (aevalF E) (base + F.idxOf k) H o.op else aexecF P C E H o
theorem aexecIF_get (C : Oracle) (F : List Nat) (base k : Nat) (E : Env) (H : Heap) (o : Oper) : aexecIF P C F base k E.get H o = aexecI P C F base k E H o := by
  unfold aexecIF aexecI
  rw [aexecF_get, aevalF_get]
theorem fillB_congr {ρ ρ' : Operand → Value} {op : Op} (h : ∀ x ∈ op.operands, ρ x = ρ' x) : fillB P ρ op = fillB P ρ' op := by
  unfold fillB
  cases op with
  | buildSlice t n ps =>
    have : (ps.toList.map fun (i, x) => (i, ρ x)) = (ps.toList.map fun (i, x) => (i, ρ' x)) :=
      List.map_congr_left fun p hm => by
        obtain ⟨i, x⟩ := p
        simp only [h x (by simp [Op.operands]; exact ⟨i, by simpa using hm⟩)]
    simp only [this]
  | makeSlice t l c => simp only [h l (by simp [Op.operands]), h c (by simp [Op.operands])]
  | _ => rfl
theorem looks_operands {E F : Nat → Value} {o : Oper} {ops : Array Oper} (h : ∀ t ∈ o.looksAt ops, E t = F t) : ∀ x ∈ o.op.operands, aevalF E x = aevalF F x := by
  intro x hx
  cases x with
  | tmp t =>
    refine h t ?_
    unfold Oper.looksAt
    rw [List.mem_append]
    left
    rw [List.mem_filterMap]
    exact ⟨.tmp t, by simpa using hx, rfl⟩
  | _ => rfl
theorem aexecIF_congr {C : Oracle} {F : List Nat} {base k : Nat} {E G : Nat → Value} {o : Oper} {ops : Array Oper} (h : ∀ t ∈ o.looksAt ops, E t = G t) : aexecIF P C F base k E H o = aexecIF P C F base k G H o := by
  unfold aexecIF
  rw [aexecF_congr h]
  unfold afill
  rw [fillB_congr (looks_operands h)]
theorem aexecIF_lay {C : Oracle} (hC : HoleOk C) {F : List Nat} {base k : Nat} {E : Nat → Value} {o : Oper} {i : Nat} {b : Blk} (hne : F.contains k = true → base + F.idxOf k ≠ i) :
    Up i b H (aexecIF P C F base k E H o) (aexecIF P C F base k E (H.lay i b) o) := by
  intro hf v H' h
  unfold aexecIF at h ⊢
  split at h
  · rename_i h1; rw [if_pos h1]; exact afill_lay (hne h1) hf v H' h
  · rename_i h1
    rw [if_neg h1]
    unfold aexecF at h ⊢
    split at h
    · split at h
      · split at h
        · rename_i h2; rw [if_pos h2]; exact hC _ _ _ _ _ hf v H' h
        · cases h
      · exact hC _ _ _ _ _ hf v H' h
      · cases h
    · exact aop_lay hf v H' h

end Go.Proofs.YtgakioiplkehgaaA.Am
