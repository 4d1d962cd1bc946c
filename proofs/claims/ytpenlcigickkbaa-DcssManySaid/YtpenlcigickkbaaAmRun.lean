/-
A region of operations, calls among them, gone through in the text's order.
-/
import Derived.Test.YtpenlcigickkbaaAmAop
namespace Go.Proofs.YtpenlcigickkbaaA.Am
open Go.RowKit (Below)
variable {P : Program} {μ : Mu} {H H' : Heap} {w : World} {B : Nat}

/-- What a function's call comes to, if the oracle is right. -/
def Comes' (P : Program) (B : Nat) (f : FuncId) (args : List Value) (H : Heap) (v : Value) (H' : Heap) : Prop :=
  ∀ (μ : Mu) (w : World) (args' : List Value), Sim μ H w B → VRs μ args args' →
    Calls P f args'.toArray w fun e w' => ∃ v' μ', e = .returned v' ∧ μ.le μ' ∧ VR μ' v v' ∧ Sim μ' H' w' B ∧ Below B w w'
def OrOk (P : Program) (B : Nat) (C : Oracle) : Prop :=
  ∀ f args H v H', C f args H = some (v, H') →
    (∃ fn, P.funcs[f]? = some fn ∧ fn.body.isSome = true ∧ (fn.name == "runtime.NumGoroutine") = false) ∧ Comes' P B f args H v H'

/-- An environment, as a function of slots, and what the slots hold. -/
def EnvR (μ : Mu) (E : Nat → Value) (tmps : Array Value) : Prop := ∀ t, VR μ (E t) (tmps.getD t undef)
theorem EnvR.mono {μ μ' : Mu} {E : Nat → Value} {tmps : Array Value} (h : EnvR μ E tmps) (hm : μ.le μ') : EnvR μ' E tmps := fun t => (h t).mono hm

def aevalF (E : Nat → Value) : Operand → Value
  | .tmp t => E t
  | .const v => if closedV v then v else unk
  | .global _ => unk
  | .func f => .func (.func f) #[] #[]
theorem aevalF_get (E : Env) : aevalF E.get = aeval E := by funext x; cases x <;> rfl

theorem EnvR.eval {E : Nat → Value} {a : Act} (h : EnvR μ E a.tmps) (x : Operand) : VR μ (aevalF E x) (a.eval x) := by
  cases x with
  | tmp t => exact h t
  | const v =>
    show VR μ (if closedV v then v else unk) v
    split
    · rename_i hc; exact .closed hc
    · exact .unk _
  | global g => exact .unk _
  | func f => exact .func _ _ _ _ _ rfl rfl (fun j h => by simp at h) (fun j h => by simp at h)

theorem EnvR.put {E : Nat → Value} {a : Act} {v v' : Value} (h : EnvR μ E a.tmps) (hv : VR μ v v') (d : Option Nat) (hd : ∀ t, d = some t → t < a.tmps.size) :
    EnvR μ (fun t => if d = some t then v else E t) (a.put d v').tmps := by
  intro t
  cases d with
  | none => simpa [Act.put] using h t
  | some s =>
    simp only [Act.put]
    by_cases e : s = t
    · subst e
      have := hd s rfl
      simp [this, hv]
    · have e2 : (some s : Option Nat) ≠ some t := fun x => e (Option.some.inj x)
      simp only [e2, if_false]
      have := h t
      simpa [Array.getD_eq_getD_getElem?, Array.getElem?_setIfInBounds_ne e] using this
theorem Env.get_put (E : Env) (d : Option Nat) (v : Value) (t : Nat) : (E.put d v).get t = if d = some t then v else E.get t := by
  cases d with
  | none => simp [Env.put]
  | some s =>
    simp only [Env.put, Env.get, Option.some.injEq]
    by_cases e : t = s
    · subst e; simp
    · rw [if_neg e, if_neg (Ne.symm e)]
theorem put_size (a : Act) (d : Option Nat) (v : Value) : (a.put d v).tmps.size = a.tmps.size := by cases d <;> simp [Act.put]
theorem put_defers (a : Act) (d : Option Nat) (v : Value) : (a.put d v).defers = a.defers := by cases d <;> simp [Act.put]

def awantF (ops : Array Oper) (o : Oper) (E : Nat → Value) : Option Bool :=
  match o.guard with
  | none => some true
  | some (j, want) => match (ops[j]?).bind (·.dst) with
    | some d => match E d with
      | .bool b => some (b == want)
      | .tuple vs => if vs.isEmpty then some false else none
      | _ => none
    | none => none
theorem awantF_get (ops : Array Oper) (o : Oper) (E : Env) : awantF ops o E.get = awant ops o E := rfl

theorem awant_sound {ops : Array Oper} {o : Oper} {E : Nat → Value} {a : Act} {b : Bool} (hE : EnvR μ E a.tmps) (h : awantF ops o E = some b) : Region.wanted o (yielded ops a.tmps) = b := by
  unfold awantF at h
  unfold Region.wanted
  cases hg : o.guard with
  | none => rw [hg] at h; cases h; rfl
  | some q =>
    obtain ⟨j, want⟩ := q
    rw [hg] at h
    simp only at h ⊢
    unfold yielded
    cases hd : (ops[j]?).bind (·.dst) with
    | none => rw [hd] at h; cases h
    | some d =>
      rw [hd] at h
      simp only at h
      have hr := hE d
      split at h
      · rename_i c e
        cases h
        rw [e] at hr
        have e2 := hr.bool
        have e3 : a.tmps[d]? = some (.bool c) := by
          rw [Array.getD_eq_getD_getElem?] at e2
          cases hx : a.tmps[d]? with
          | none => rw [hx] at e2; simp [undef] at e2
          | some x => rw [hx] at e2; simp at e2; rw [e2]
        simp only [Option.bind_some, e3]
        cases c <;> cases want <;> rfl
      · rename_i vs e
        split at h
        · rename_i hemp
          cases h
          rw [e] at hr
          obtain ⟨vs', e2, hvs⟩ := hr.tuple_inv
          simp only [Option.bind_some]
          rw [Array.getD_eq_getD_getElem?] at e2
          cases hx : a.tmps[d]? with
          | none => cases want <;> rfl
          | some x => rw [hx] at e2; simp at e2; subst e2; cases want <;> rfl
        · cases h
      · cases h

/-- One operation, calls among them. -/
def aexecF (P : Program) (C : Oracle) (E : Nat → Value) (H : Heap) (o : Oper) : Option (Value × Heap) :=
  match o.op with
  | .call { callee := .value f, args, .. } => match aevalF E f with
    | .func (.func g) first captured => C g (first.toList ++ args.toList.map (aevalF E) ++ captured.toList) H
    | _ => none
  | op => aop P (aevalF E) H op
theorem aexecF_get (C : Oracle) (E : Env) (H : Heap) (o : Oper) : aexecF P C E.get H o = aexec P C E H o := by
  obtain ⟨dst, op, type, pos, after, guard⟩ := o
  cases op with
  | call c =>
    obtain ⟨callee, args, types⟩ := c
    cases callee <;> simp only [aexecF, aexec, aevalF_get] <;> rfl
  | _ => simp only [aexecF, aexec, aevalF_get]

theorem aexec_sound {C : Oracle} {E : Nat → Value} {o : Oper} {v : Value} {a : Act} {K : Act → World → Prop} {Q : Exit → Act → World → Prop} (hC : OrOk P B C) (hS : Sim μ H w B) (hE : EnvR μ E a.tmps)
    (h : aexecF P C E H o = some (v, H'))
    (hK : ∀ v' μ' w', μ.le μ' → VR μ' v v' → Sim μ' H' w' B → Below B w w' → K (a.put o.dst v') w') : o.wp P a w K Q := by
  unfold aexecF at h
  split at h
  · rename_i f args argTypes ho
    split at h
    · rename_i g first captured hf
      obtain ⟨⟨fn, hfn, hb, hnm⟩, hcom⟩ := hC _ _ _ _ _ h
      have hfr := hE.eval f
      rw [hf] at hfr
      obtain ⟨first', captured', e, h1, h2⟩ := hfr.func_inv
      have hargs : VRs μ (first.toList ++ args.toList.map (aevalF E) ++ captured.toList) (first'.toList ++ args.toList.map a.eval ++ captured'.toList) :=
        (h1.append (VRs.map hE.eval args.toList)).append h2
      have hcall := hcom μ w _ hS hargs
      have harr : (first'.toList ++ args.toList.map a.eval ++ captured'.toList).toArray = first' ++ args.map a.eval ++ captured' := by
        rw [← Array.toList_inj]; simp
      rw [harr] at hcall
      unfold Oper.wp
      have hrun : (execOp a.eval o).run P w = .ok (.enter g (first' ++ args.map a.eval ++ captured')) w := by
        unfold execOp
        rw [ho]
        have hb' : ¬ fn.body = none := by intro e; rw [e] at hb; simp at hb
        have hnm' : ¬ fn.name = "runtime.NumGoroutine" := by simpa using hnm
        simp [resolve, Deferred.ofValue, e, invoke, callFunc, hfn, hnm', hb']
      rw [hrun, Oper.upon_enter]
      refine hcall.mono ?_
      rintro e w' ⟨v', μ', rfl, hle, hv, hS', hB⟩
      exact hK v' μ' w' hle hv hS' hB
    · cases h
  · obtain ⟨v', μ', w', hr, hle, hv, hS', hB⟩ := aop_sound (o := o) hS hE.eval h
    unfold Oper.wp
    rcases hr with hr | ⟨hr, rfl⟩
    · rw [hr]; exact hK v' μ' w' hle hv hS' hB
    · rw [hr]; exact hK undef μ' w' hle hv hS' hB

/-- The operations one behind the other. -/
theorem runOps_sound {C : Oracle} {ops : Array Oper} {N : Nat} {Q : Exit → Act → World → Prop} (hC : OrOk P B C) : ∀ (l : List Oper) (E : Env) (H : Heap) (E' : Env) (H' : Heap) (μ : Mu) (a : Act) (w : World),
    runOps P C ops l E H = some (E', H') → (∀ o ∈ l, ∀ d, o.dst = some d → d < N) → N ≤ a.tmps.size → Sim μ H w B → EnvR μ E.get a.tmps →
    (∀ a' w' μ', μ.le μ' → EnvR μ' E'.get a'.tmps → a'.defers = a.defers → a'.tmps.size = a.tmps.size → Sim μ' H' w' B → Below B w w' → Q .normal a' w') → wpList P ops Q l a w := by
  intro l
  induction l with
  | nil =>
    intro E H E' H' μ a w h _ _ hS hE hQ
    simp only [runOps] at h; cases h
    exact hQ a w μ μ.le_refl hE rfl rfl hS (Below.refl _ _)
  | cons o r ih =>
    intro E H E' H' μ a w h hd hN hS hE hQ
    simp only [runOps] at h
    unfold wpList
    have hdo : ∀ t, o.dst = some t → t < a.tmps.size := fun t ht => Nat.lt_of_lt_of_le (hd o (by simp) t ht) hN
    split at h
    · rename_i hw
      rw [awant_sound hE (by rw [awantF_get]; exact hw), if_pos rfl]
      left
      cases hx : aexec P C E H o with
      | none => rw [hx] at h; cases h
      | some q =>
        obtain ⟨v, H1⟩ := q
        rw [hx] at h
        simp only at h
        rw [← aexecF_get] at hx
        refine aexec_sound hC hS hE hx ?_
        intro v' μ' w' hle hv hS' hB
        refine ih _ _ _ _ μ' _ w' h (fun o ho => hd o (by simp [ho])) (by rw [put_size]; exact hN) hS' ?_ ?_
        · have := EnvR.put (hE.mono hle) hv o.dst hdo
          intro t
          rw [Env.get_put]; exact this t
        · intro a' w'' μ'' hle' hE' hdf hsz hS'' hB'
          exact hQ a' w'' μ'' (Mu.le_trans hle hle') hE' (by rw [hdf, put_defers]) (by rw [hsz, put_size]) hS'' (hB.trans hB')
    · rename_i hw
      rw [awant_sound hE (by rw [awantF_get]; exact hw)]
      simp only [Bool.false_eq_true, if_false]
      refine ih _ _ _ _ μ _ w h (fun o ho => hd o (by simp [ho])) (by rw [put_size]; exact hN) hS ?_ ?_
      · have := EnvR.put hE (VRs.tuple (c := #[]) (c' := #[]) .nil) o.dst hdo
        intro t
        rw [Env.get_put]; exact this t
      · intro a' w'' μ'' hle' hE' hdf hsz hS'' hB'
        exact hQ a' w'' μ'' hle' hE' (by rw [hdf, put_defers]) (by rw [hsz, put_size]) hS'' hB'
    · cases h

end Go.Proofs.YtpenlcigickkbaaA.Am
