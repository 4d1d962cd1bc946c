/-
Operators on two values: numbers, bools, texts, what is nil, structs of these.
-/
import Derived.Test.YtgakioiplkehgaaAmOps
namespace Go.Proofs.YtgakioiplkehgaaA.Am
open Go.RowKit (Below)
variable {P : Program} {μ : Mu} {H H' : Heap} {w : World} {B : Nat}

theorem aequal_sound : ∀ (d : Nat) {t : TypeId} {x y x' y' : Value} {b : Bool}, VR μ x x' → VR μ y y' → aequal P d t x y = some b → ∀ w, (Op.equalIn d t x' y').run P w = .ok b w := by
  intro d
  induction d with
  | zero => intro t x y x' y' b hx hy h; simp [aequal] at h
  | succ d ih =>
    intro t x y x' y' b hx hy h w
    unfold aequal at h
    split at h
    · rename_i a c hu
      rw [hx.bool, hy.bool]; cases h; simp [Op.equalIn, run_underlying hu]
    · rename_i k a k' c hu
      rw [hx.int, hy.int]
      split at h
      · rename_i e; cases h; simp [Op.equalIn, run_underlying hu, e]
      · cases h
    · rename_i a c hu
      rw [hx.string, hy.string]; cases h; simp [Op.equalIn, run_underlying hu]
    · rename_i c hu
      obtain ⟨c', rfl, hn⟩ := hy.pointer_inv
      rw [hx.pnil]; cases h; simp [Op.equalIn, run_underlying hu, hn]
    · rename_i a hu
      obtain ⟨i, off, l, rfl, hl, rfl⟩ := hx.ptr_inv
      rw [hy.pnil]; cases h; simp [Op.equalIn, run_underlying hu]
    · rename_i n c a n' c' hu
      obtain ⟨rfl, rfl, rfl⟩ := hx.slice_nil
      obtain ⟨_, a', c2, rfl, hn, _⟩ := hy.slice_any
      cases h; simp [Op.equalIn, run_underlying hu, hn]
    · rename_i a n c n' c' hu
      obtain ⟨rfl, rfl, rfl⟩ := hy.slice_nil
      obtain ⟨_, a', c2, rfl, hn, _⟩ := hx.slice_any
      cases h
      cases a' with
      | none => simp at hn
      | some a' => simp [Op.equalIn, run_underlying hu]
    · rename_i hu
      rw [hx.nilFunc, hy.nilFunc]; cases h; simp [Op.equalIn, run_underlying hu]
    · rename_i hu
      obtain ⟨fn', f', c', rfl⟩ := hy.func_any
      rw [hx.nilFunc]; cases h; simp [Op.equalIn, run_underlying hu]
    · rename_i hu
      obtain ⟨fn', f', c', rfl⟩ := hx.func_any
      rw [hy.nilFunc]; cases h; simp [Op.equalIn, run_underlying hu]
    · rename_i fields xs ys hu
      obtain ⟨xs', rfl, hxs⟩ := hx.agg_inv
      obtain ⟨ys', rfl, hys⟩ := hy.agg_inv
      split at h
      · cases h
      · rename_i hs
        have hs' : P.stoodInHeld t = false := by simpa using hs
        have key : ∀ (l : List Field), eqFields P (aequal P d) xs ys l = some b → (forIn (m := Sem) l ((none : Option Bool), ()) fun f __s =>
            if f.name = "_" then pure (ForInStep.yield (none, ()))
            else do
              let u ← part f.type xs' f.offset
              let v ← part f.type ys' f.offset
              let e ← Op.equalIn d f.type u v
              if e = false then pure (ForInStep.done (some false, ())) else pure (ForInStep.yield (none, ()))).run P w = .ok (if b then (none, ()) else (some false, ())) w := by
          intro l
          induction l with
          | nil => intro hb; simp only [eqFields] at hb; cases hb; rfl
          | cons f r ihl =>
            intro hb
            simp only [eqFields] at hb
            rw [List.forIn_cons]
            by_cases hn : f.name = "_"
            · rw [if_pos hn] at hb
              simp only [hn, if_true, Sem.run_bind, Sem.run_pure, Result.andThen_ok]
              exact ihl hb
            · rw [if_neg hn] at hb
              cases hu1 : apart P f.type xs f.offset with
              | none => simp only [hu1] at hb; cases hb
              | some u =>
                cases hv1 : apart P f.type ys f.offset with
                | none => simp only [hu1, hv1] at hb; cases hb
                | some v =>
                  simp only [hu1, hv1] at hb
                  obtain ⟨u', ru, vu⟩ := apart_sound hxs hu1 w
                  obtain ⟨v', rv, vv⟩ := apart_sound hys hv1 w
                  cases he : aequal P d f.type u v with
                  | none => rw [he] at hb; cases hb
                  | some e =>
                    have hr := ih vu vv he w
                    rw [he] at hb
                    cases e with
                    | false =>
                      cases hb
                      simp [hn, ru, rv, hr]
                    | true =>
                      simp only [hn, if_false, Sem.run_bind, ru, rv, hr, Result.andThen_ok, Bool.true_eq_false, Sem.run_pure]
                      exact ihl hb
        have k := key fields.toList h
        simp [Op.equalIn, run_underlying hu, hs']
        rw [← Array.forIn_toList, k]
        cases b <;> simp
    · cases h

theorem aarith_sound {op : BinOp} {k : IntKind} {a b : Int} {v : Value} (hs : op ≠ .shl ∧ op ≠ .shr) (h : aarith op k a b = some v) (t : TypeId) (w : World) :
    (binOp op t (.int k a) (.int k b)).run P w = .ok v w ∧ plainV v = true := by
  cases op <;> simp only [aarith] at h <;> first
    | (exact absurd rfl hs.1) | (exact absurd rfl hs.2)
    | (cases h; exact ⟨by simp [binOp, Op.intArith, Op.intCmp, Op.intBits, bits], rfl⟩)
    | (split at h
       · cases h
       · rename_i hb; cases h; exact ⟨by simp [binOp, Op.intDiv, hb], rfl⟩)
theorem ashift_sound {op : BinOp} {k k' : IntKind} {a b : Int} {v : Value} (hs : op = .shl ∨ op = .shr) (h : ashift op k a b = some v) (t : TypeId) (w : World) :
    (binOp op t (.int k a) (.int k' b)).run P w = .ok v w ∧ plainV v = true := by
  unfold ashift at h
  split at h
  · cases h
  · rename_i hb
    rcases hs with rfl | rfl <;> (simp only at h; cases h; exact ⟨by simp [binOp, Op.shift, hb], rfl⟩)
theorem astr_sound {op : BinOp} {a b : ByteArray} {v : Value} (h : astr op a b = some v) (t : TypeId) (w : World) :
    (binOp op t (.string a) (.string b)).run P w = .ok v w ∧ plainV v = true := by
  cases op <;> simp only [astr, strLess] at h <;> first
    | (cases h; exact ⟨by simp [binOp, Op.stringOp], rfl⟩)
    | (cases h)

theorem guard_other {op : BinOp} {t : TypeId} {ox oy : Operand} {x y : Value} (h1 : x ≠ .nilIface) (h2 : ∀ c, x ≠ .agg c) (w : World) :
    (eqGuard op t ox oy x y).run P w = .ok () w := by
  by_cases hop : op = .eql ∨ op = .neq
  · rcases hop with rfl | rfl <;> (cases x <;> first | rfl | (exact absurd rfl h1) | (exact absurd rfl (h2 _)))
  · cases op <;> first | rfl | (exact absurd (.inl rfl) hop) | (exact absurd (.inr rfl) hop)
theorem guard_agg {op : BinOp} {t : TypeId} {ox oy : Operand} {x y : Array Value} (h : P.eqGuardType P.depth t = false) (w : World) :
    (eqGuard op t ox oy (.agg x) (.agg y)).run P w = .ok () w := by
  by_cases hop : op = .eql ∨ op = .neq
  · rcases hop with rfl | rfl <;> simp [eqGuard, h]
  · cases op <;> first | rfl | (exact absurd (.inl rfl) hop) | (exact absurd (.inr rfl) hop)

theorem abin_sound {op : BinOp} {t : TypeId} {x y x' y' v : Value} (hx : VR μ x x') (hy : VR μ y y') (h : abin P op t x y = some v) (ox oy : Operand) (w : World) :
    (do eqGuard op t ox oy x' y'; binOp op t x' y').run P w = .ok v w ∧ plainV v = true := by
  have viaEq : ∀ {op : BinOp} {x y : Value}, VR μ x x' → VR μ y y' →
      (match op with | .eql => (aequal P Op.maxDepth t x y).map Value.bool | .neq => (aequal P Op.maxDepth t x y).map fun b => Value.bool (!b) | _ => none) = some v →
      (∀ w, (binOp .eql t x' y').run P w = (do pure (Value.bool (← Op.equal t x' y')) : Sem Value).run P w) →
      (∀ w, (binOp .neq t x' y').run P w = (do pure (Value.bool (!(← Op.equal t x' y'))) : Sem Value).run P w) → (binOp op t x' y').run P w = .ok v w ∧ plainV v = true := by
    intro op x y hx hy h e1 e2
    split at h
    · rw [Option.map_eq_some_iff] at h
      obtain ⟨b, hb, rfl⟩ := h
      rw [e1]; exact ⟨by simp [Op.equal, aequal_sound _ hx hy hb w], rfl⟩
    · rw [Option.map_eq_some_iff] at h
      obtain ⟨b, hb, rfl⟩ := h
      rw [e2]; exact ⟨by simp [Op.equal, aequal_sound _ hx hy hb w], rfl⟩
    · cases h
  unfold abin at h
  split at h
  · rename_i k a k' b
    obtain rfl := hx.int
    obtain rfl := hy.int
    simp only [Sem.run_bind, guard_other (P := P) (op := op) (t := t) (ox := ox) (oy := oy) (x := .int k a) (y := .int k' b) (by simp) (by simp) w, Result.andThen_ok]
    split at h
    · exact ashift_sound (.inl rfl) h t w
    · exact ashift_sound (.inr rfl) h t w
    · rename_i n1 n2
      split at h
      · rename_i e; subst e; exact aarith_sound ⟨fun e => n1 e, fun e => n2 e⟩ h t w
      · cases h
  · rename_i a b
    obtain rfl := hx.string
    obtain rfl := hy.string
    simp only [Sem.run_bind, guard_other (P := P) (op := op) (t := t) (ox := ox) (oy := oy) (x := .string a) (y := .string b) (by simp) (by simp) w, Result.andThen_ok]
    exact astr_sound h t w
  · obtain ⟨a', rfl, ha⟩ := hx.agg_inv
    obtain ⟨b', rfl, hb⟩ := hy.agg_inv
    split at h
    · cases h
    · rename_i hg
      simp only [Sem.run_bind, guard_agg (P := P) (op := op) (t := t) (ox := ox) (oy := oy) (x := a') (y := b') (by simpa using hg) w, Result.andThen_ok]
      exact viaEq hx hy h (fun _ => rfl) (fun _ => rfl)
  · obtain rfl := hx.bool
    obtain rfl := hy.bool
    simp only [Sem.run_bind, guard_other (P := P) (op := op) (t := t) (ox := ox) (oy := oy) (x := .bool _) (y := .bool _) (by simp) (by simp) w, Result.andThen_ok]
    exact viaEq hx hy h (fun _ => rfl) (fun _ => rfl)
  · obtain ⟨a', rfl, _⟩ := hx.pointer_inv
    obtain ⟨b', rfl, _⟩ := hy.pointer_inv
    simp only [Sem.run_bind, guard_other (P := P) (op := op) (t := t) (ox := ox) (oy := oy) (x := .pointer a') (y := .pointer b') (by simp) (by simp) w, Result.andThen_ok]
    exact viaEq hx hy h (fun _ => rfl) (fun _ => rfl)
  · obtain ⟨_, a', c', rfl, _⟩ := hx.slice_any
    obtain ⟨_, b', d', rfl, _⟩ := hy.slice_any
    simp only [Sem.run_bind, guard_other (P := P) (op := op) (t := t) (ox := ox) (oy := oy) (x := .slice a' _ c') (y := .slice b' _ d') (by simp) (by simp) w, Result.andThen_ok]
    exact viaEq hx hy h (fun _ => rfl) (fun _ => rfl)
  · obtain rfl := hx.nilFunc
    obtain rfl := hy.nilFunc
    simp only [Sem.run_bind, guard_other (P := P) (op := op) (t := t) (ox := ox) (oy := oy) (x := .nilFunc) (y := .nilFunc) (by simp) (by simp) w, Result.andThen_ok]
    exact viaEq hx hy h (fun _ => rfl) (fun _ => rfl)
  · obtain rfl := hx.nilFunc
    obtain ⟨fn', f', c', rfl⟩ := hy.func_any
    simp only [Sem.run_bind, guard_other (P := P) (op := op) (t := t) (ox := ox) (oy := oy) (x := .nilFunc) (y := .func _ f' c') (by simp) (by simp) w, Result.andThen_ok]
    exact viaEq hx hy h (fun _ => rfl) (fun _ => rfl)
  · obtain rfl := hy.nilFunc
    obtain ⟨fn', f', c', rfl⟩ := hx.func_any
    simp only [Sem.run_bind, guard_other (P := P) (op := op) (t := t) (ox := ox) (oy := oy) (x := .func _ f' c') (y := .nilFunc) (by simp) (by simp) w, Result.andThen_ok]
    exact viaEq hx hy h (fun _ => rfl) (fun _ => rfl)
  · cases h

theorem aun_sound {op : UnOp} {x x' v : Value} (hx : VR μ x x') (h : aun op x = some v) (w : World) : (Op.unary op x').run P w = .ok v w ∧ plainV v = true := by
  unfold aun at h
  split at h
  · obtain rfl := hx.int; cases h; exact ⟨by simp [Op.unary, Op.intArith], rfl⟩
  · obtain rfl := hx.bool; cases h; exact ⟨by simp [Op.unary], rfl⟩
  · cases h

end Go.Proofs.YtgakioiplkehgaaA.Am
