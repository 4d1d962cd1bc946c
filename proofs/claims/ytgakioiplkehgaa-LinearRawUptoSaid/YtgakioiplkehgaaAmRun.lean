/-
A region of operations, calls among them, gone through in the text's order.
-/
import Derived.Test.YtgakioiplkehgaaAmAop
import Derived.Test.YtgakioiplkehgaaAmHole
import Derived.OrdersIn
import Derived.TacticsIn
import Derived.Sort.LoopGhostIn
import Derived.RangeFuncIn
import Derived.RangeFuncSeq
import Derived.RangeFuncRecord
namespace Go.Proofs.YtgakioiplkehgaaA.Am
open Go.RowKit (Below)
variable {P : Program} {μ : Mu} {H H' : Heap} {w : World} {B : Nat}

/-- The fence that lets all in, in a round. -/
abbrev FR (ro : Option Nat) : Fence := { Fence.wide with round := ro }
theorem callsR {ro : Option Nat} {n : Nat} {f : FuncId} {args : Array Value} {R : Ending → World → Prop} (h : Calls P f args w R) : CallsIn (FR ro) n P f args w R := callsIn_wide (n := n).2 h

/-- What is behind a call. -/
def CPost (P : Program) (B : Nat) (μ : Mu) (w : World) (v : Value) (H' : Heap) : Ending → World → Prop :=
  fun e w' => ∃ v' μ', e = .returned v' ∧ μ.le μ' ∧ VR μ' v v' ∧ Sim P μ' H' w' B ∧ Bel B w w'
/-- What a function's call comes to, if the oracle is right. -/
def Comes' (P : Program) (B : Nat) (f : FuncId) (args : List Value) (H : Heap) (v : Value) (H' : Heap) : Prop :=
  ∀ (μ : Mu) (w : World) (args' : List Value), Sim P μ H w B → VRs μ args args' → Calls P f args'.toArray w (CPost P B μ w v H')
/-- What a round's call comes to. -/
def ComesY (P : Program) (B : Nat) (i : Nat) (args : List Value) (H : Heap) (v : Value) (H' : Heap) : Prop :=
  ∀ (ro : Option Nat) (n : Nat) (μ : Mu) (w : World) (args' : List Value) (l : Loc), Sim P μ H w B → VRs μ args args' → μ i = some l → YieldAt (FR ro) n P l.b args'.toArray w (CPost P B μ w v H')
structure OrOk (P : Program) (B : Nat) (C : Oracle) : Prop where
  told : ∀ f args H v H', C f args H = some (v, H') →
    (f < P.funcs.size → (∃ fn, P.funcs[f]? = some fn ∧ fn.body.isSome = true ∧ (fn.name == "runtime.NumGoroutine") = false) ∧ Comes' P B f args H v H') ∧
    (∀ i, f = P.funcs.size + i → ComesY P B i args H v H')
  hole : HoleOk C

def aevalF (E : Nat → Value) : Operand → Value
  | .tmp t => E t
  | .const v => if closedV v then v else unk
  | .global _ => unk
  | .func f => .func (.func f) #[] #[]
theorem aevalF_get (E : Env) : aevalF E.get = aeval E := by funext x; cases x <;> rfl

theorem EnvR.eval {E : Nat → Value} {a : Act} (h : EnvR μ E a.tmps) (x : Operand) : VR μ (aevalF E x) (a.eval x) := by
  cases x with
  | tmp t => exact h t
  | const v =>
    show VR μ (if closedV v then v else unk) v
    split
    · rename_i hc; exact .closed hc
    · exact .unk _
  | global g => exact .unk _
  | func f => exact .func _ _ _ _ _ rfl rfl rfl (fun j h => by simp at h) (fun j h => by simp at h)

theorem EnvR.put {E : Nat → Value} {a : Act} {v v' : Value} (h : EnvR μ E a.tmps) (hv : VR μ v v') (d : Option Nat) (hd : ∀ t, d = some t → t < a.tmps.size) :
    EnvR μ (fun t => if d = some t then v else E t) (a.put d v').tmps := by
  intro t
  cases d with
  | none => simpa [Act.put] using h t
  | some s =>
    simp only [Act.put]
    by_cases e : s = t
    · subst e
      have := hd s rfl
      simp [this, hv]
    · have e2 : (some s : Option Nat) ≠ some t := fun x => e (Option.some.inj x)
      simp only [e2, if_false]
      have := h t
      simpa [Array.getD_eq_getD_getElem?, Array.getElem?_setIfInBounds_ne e] using this
theorem Env.get_put (E : Env) (d : Option Nat) (v : Value) (t : Nat) : (E.put d v).get t = if d = some t then v else E.get t := by
  cases d with
  | none => simp [Env.put]
  | some s =>
    simp only [Env.put, Env.get, Option.some.injEq]
    by_cases e : t = s
    · subst e; simp
    · rw [if_neg e, if_neg (Ne.symm e)]
theorem put_size (a : Act) (d : Option Nat) (v : Value) : (a.put d v).tmps.size = a.tmps.size := by cases d <;> simp [Act.put]
theorem put_defers (a : Act) (d : Option Nat) (v : Value) : (a.put d v).defers = a.defers := by cases d <;> simp [Act.put]

def awantF (ops : Array Oper) (o : Oper) (E : Nat → Value) : Option Bool :=
  match o.guard with
  | none => some true
  | some (j, want) => match (ops[j]?).bind (·.dst) with
    | some d => match E d with
      | .bool b => some (b == want)
      | .tuple vs => if vs.isEmpty then some false else none
      | _ => none
    | none => none
theorem awantF_get (ops : Array Oper) (o : Oper) (E : Env) : awantF ops o E.get = awant ops o E := rfl

theorem awant_sound {ops : Array Oper} {o : Oper} {E : Nat → Value} {a : Act} {b : Bool} (hE : EnvR μ E a.tmps) (h : awantF ops o E = some b) : Region.wanted o (yielded ops a.tmps) = b := by
  unfold awantF at h
  unfold Region.wanted
  cases hg : o.guard with
  | none => rw [hg] at h; cases h; rfl
  | some q =>
    obtain ⟨j, want⟩ := q
    rw [hg] at h
    simp only at h ⊢
    unfold yielded
    cases hd : (ops[j]?).bind (·.dst) with
    | none => rw [hd] at h; cases h
    | some d =>
      rw [hd] at h
      simp only at h
      have hr := hE d
      split at h
      · rename_i c e
        cases h
        rw [e] at hr
        have e2 := hr.bool
        have e3 : a.tmps[d]? = some (.bool c) := by
          rw [Array.getD_eq_getD_getElem?] at e2
          cases hx : a.tmps[d]? with
          | none => rw [hx] at e2; simp [undef] at e2
          | some x => rw [hx] at e2; simp at e2; rw [e2]
        simp only [Option.bind_some, e3]
        cases c <;> cases want <;> rfl
      · rename_i vs e
        split at h
        · rename_i hemp
          cases h
          rw [e] at hr
          obtain ⟨vs', e2, hvs⟩ := hr.tuple_inv
          simp only [Option.bind_some]
          rw [Array.getD_eq_getD_getElem?] at e2
          cases hx : a.tmps[d]? with
          | none => cases want <;> rfl
          | some x => rw [hx] at e2; simp at e2; subst e2; cases want <;> rfl
        · cases h
      · cases h

/-- One operation, calls among them. -/
def aexecF (P : Program) (C : Oracle) (E : Nat → Value) (H : Heap) (o : Oper) : Option (Value × Heap) :=
  match o.op with
  | .call { callee := .value f, args, .. } => match aevalF E f with
    | .func (.func g) first captured => if g < P.funcs.size then C g (first.toList ++ args.toList.map (aevalF E) ++ captured.toList) H else none
    | .func (.yield i) _ _ => C (P.funcs.size + i) (args.toList.map (aevalF E)) H
    | _ => none
  | op => aop P (aevalF E) H op
theorem aexecF_get (C : Oracle) (E : Env) (H : Heap) (o : Oper) : aexecF P C E.get H o = aexec P C E H o := by
  obtain ⟨dst, op, type, pos, after, guard⟩ := o
  cases op with
  | call c =>
    obtain ⟨callee, args, types⟩ := c
    cases callee <;> simp only [aexecF, aexec, aevalF_get] <;> rfl
  | _ => simp only [aexecF, aexec, aevalF_get]

theorem aexec_soundR {ro : Option Nat} {n : Nat} {C : Oracle} {E : Nat → Value} {o : Oper} {v : Value} {a : Act} {K : Act → World → Prop} {Q : Exit → Act → World → Prop} (hC : OrOk P B C) (hS : Sim P μ H w B) (hE : EnvR μ E a.tmps)
    (h : aexecF P C E H o = some (v, H'))
    (hK : ∀ v' μ' w', μ.le μ' → VR μ' v v' → Sim P μ' H' w' B → Bel B w w' → K (a.put o.dst v') w') : o.wpIn (FR ro) n P a w K Q := by
  have hnd : ∀ c, o.op ≠ .defer c := by
    intro c e
    unfold aexecF at h
    rw [e] at h
    simp [aop] at h
  refine ⟨fun _ _ => trivial, ?_⟩
  rw [Oper.semAt_eq _ _ _ hnd]
  unfold aexecF at h
  split at h
  · rename_i f args argTypes ho
    split at h
    · rename_i g first captured hf
      split at h
      case isFalse => cases h
      rename_i hgs
      obtain ⟨⟨fn, hfn, hb, hnm⟩, hcom⟩ := (hC.told _ _ _ _ _ h).1 hgs
      have hfr := hE.eval f
      rw [hf] at hfr
      obtain ⟨first', captured', e, h1, h2⟩ := hfr.func_inv rfl
      have hargs : VRs μ (first.toList ++ args.toList.map (aevalF E) ++ captured.toList) (first'.toList ++ args.toList.map a.eval ++ captured'.toList) :=
        (h1.append (VRs.map hE.eval args.toList)).append h2
      have hcall := hcom μ w _ hS hargs
      have harr : (first'.toList ++ args.toList.map a.eval ++ captured'.toList).toArray = first' ++ args.map a.eval ++ captured' := by
        rw [← Array.toList_inj]; simp
      rw [harr] at hcall
      have hrun : (execOp a.eval o).run P w = .ok (.enter g (first' ++ args.map a.eval ++ captured')) w := by
        unfold execOp
        rw [ho]
        have hb' : ¬ fn.body = none := by intro e; rw [e] at hb; simp at hb
        have hnm' : ¬ fn.name = "runtime.NumGoroutine" := by simpa using hnm
        simp [resolve, Deferred.ofValue, e, invoke, callFunc, hfn, hnm', hb']
      rw [hrun, Oper.uponIn_enter]
      refine ⟨fun h => by simp [Fence.wide] at h, (callsR hcall).mono ?_⟩
      rintro e w' ⟨v', μ', rfl, hle, hv, hS', hB⟩
      exact hK v' μ' w' hle hv hS' hB
    · rename_i i f1 c1 hf
      have hfr := hE.eval f
      rw [hf] at hfr
      obtain ⟨_, _, l, hl, e⟩ := hfr.yld_inv
      have hy := (hC.told _ _ _ _ _ h).2 i rfl ro (n - 1) μ w _ l hS (VRs.map hE.eval args.toList) hl
      have harr : (args.toList.map a.eval).toArray = args.map a.eval := by rw [← Array.toList_inj]; simp
      rw [harr] at hy
      obtain ⟨fn, tmps, assign, body, hrun, hR⟩ := hy
      have hex : (execOp a.eval o).run P w = .ok (.round l.b fn tmps assign body) w := by
        unfold execOp
        rw [ho]
        simp [resolve, Deferred.ofValue, e, invoke, hrun]
      rw [hex, Oper.uponIn_round]
      refine ⟨fun h => by simp [Fence.wide] at h, hR.mono ?_⟩
      rintro e w' ⟨v', μ', rfl, hle, hv, hS', hB⟩
      exact hK v' μ' w' hle hv hS' hB
    · cases h
  · obtain ⟨v', μ', w', hr, hle, hv, hS', hB⟩ := aop_sound (o := o) hS hE.eval h
    rcases hr with hr | ⟨hr, rfl⟩
    · rw [hr]; exact hK v' μ' w' hle hv hS' hB
    · rw [hr]; exact hK undef μ' w' hle hv hS' hB

/-- The operations one behind the other. -/
theorem runOps_soundR {ro : Option Nat} {n : Nat} {C : Oracle} {ops : Array Oper} {N : Nat} {Q : Exit → Act → World → Prop} (hC : OrOk P B C) : ∀ (l : List Oper) (E : Env) (H : Heap) (E' : Env) (H' : Heap) (μ : Mu) (a : Act) (w : World),
    runOps P C ops l E H = some (E', H') → (∀ o ∈ l, ∀ d, o.dst = some d → d < N) → N ≤ a.tmps.size → Sim P μ H w B → EnvR μ E.get a.tmps →
    (∀ a' w' μ', μ.le μ' → EnvR μ' E'.get a'.tmps → a'.defers = a.defers → a'.tmps.size = a.tmps.size → Sim P μ' H' w' B → Bel B w w' → Q .normal a' w') → wpListIn (FR ro) n P ops Q l a w := by
  intro l
  induction l with
  | nil =>
    intro E H E' H' μ a w h _ _ hS hE hQ
    simp only [runOps] at h; cases h
    exact hQ a w μ μ.le_refl hE rfl rfl hS (Bel.refl _ _)
  | cons o r ih =>
    intro E H E' H' μ a w h hd hN hS hE hQ
    simp only [runOps] at h
    unfold wpListIn
    have hdo : ∀ t, o.dst = some t → t < a.tmps.size := fun t ht => Nat.lt_of_lt_of_le (hd o (by simp) t ht) hN
    split at h
    · rename_i hw
      rw [awant_sound hE (by rw [awantF_get]; exact hw), if_pos rfl]
      cases hx : aexec P C E H o with
      | none => rw [hx] at h; cases h
      | some q =>
        obtain ⟨v, H1⟩ := q
        rw [hx] at h
        simp only at h
        rw [← aexecF_get] at hx
        refine aexec_soundR hC hS hE hx ?_
        intro v' μ' w' hle hv hS' hB
        refine ih _ _ _ _ μ' _ w' h (fun o ho => hd o (by simp [ho])) (by rw [put_size]; exact hN) hS' ?_ ?_
        · have := EnvR.put (hE.mono hle) hv o.dst hdo
          intro t
          rw [Env.get_put]; exact this t
        · intro a' w'' μ'' hle' hE' hdf hsz hS'' hB'
          exact hQ a' w'' μ'' (Mu.le_trans hle hle') hE' (by rw [hdf, put_defers]) (by rw [hsz, put_size]) hS'' (hB.trans hB')
    · rename_i hw
      rw [awant_sound hE (by rw [awantF_get]; exact hw)]
      simp only [Bool.false_eq_true, if_false]
      refine ⟨fun _ _ => trivial, ih _ _ _ _ μ _ w h (fun o ho => hd o (by simp [ho])) (by rw [put_size]; exact hN) hS ?_ ?_⟩
      · have := EnvR.put hE (VRs.tuple (c := #[]) (c' := #[]) .nil) o.dst hdo
        intro t
        rw [Env.get_put]; exact this t
      · intro a' w'' μ'' hle' hE' hdf hsz hS'' hB'
        exact hQ a' w'' μ'' hle' hE' (by rw [hdf, put_defers]) (by rw [hsz, put_size]) hS'' hB'
    · cases h

end Go.Proofs.YtgakioiplkehgaaA.Am
