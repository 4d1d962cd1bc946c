/-
The code and the calls: what the abstract machine comes to, the model's machine comes to.
-/
import Derived.Test.YtgakioiplkehgaaAmDraw2
import Derived.Test.YtgakioiplkehgaaAmOth
import Derived.Deep.LoopGhost
import Derived.Scope
import Derived.RangeFuncLeaves
namespace Go.Proofs.YtgakioiplkehgaaA.Am
open Go.RowKit (Below)
variable {P : Program} {μ : Mu} {H H' : Heap} {w : World} {B : Nat}

def toExit : AExit → Exit
  | .normal => .normal
  | .exit id => .exit id
  | .ret => .ret

/-- Behind a piece of code. -/
def Post (P : Program) (B : Nat) (keep : List Nat) (μ : Mu) (a : Act) (w : World) (r : AExit × List Value × Heap) (x : Exit) (a' : Act) (w' : World) : Prop :=
  x = toExit r.1 ∧ ∃ μ', μ.le μ' ∧ EnvR μ' (Env.get (keep.zip r.2.1)) a'.tmps ∧ Marks w w' a a' ∧ a'.tmps.size = a.tmps.size ∧ Sim P μ' r.2.2 w' B ∧ Bel B w w'

theorem Post.trans {keep : List Nat} {μ μ1 : Mu} {a a1 : Act} {w w1 : World} {r : AExit × List Value × Heap} {x : Exit} {a' : Act} {w' : World}
    (hle : μ.le μ1) (hd : Marks w w1 a a1) (hs : a1.tmps.size = a.tmps.size) (hb : Bel B w w1) (h : Post P B keep μ1 a1 w1 r x a' w') : Post P B keep μ a w r x a' w' := by
  obtain ⟨hx, μ', h1, h2, h3, h4, h5, h6⟩ := h
  exact ⟨hx, μ', Mu.le_trans hle h1, h2, hd.trans hb h6 h3, h4.trans hs, h5, hb.trans h6⟩

theorem zip_get (E : Nat → Value) : ∀ (keep : List Nat) (t : Nat), Env.get (keep.zip (keep.map E)) t = if t ∈ keep then E t else unk
  | [], t => by simp [Env.get]
  | k :: r, t => by
    simp only [List.map_cons, List.zip_cons_cons, Env.get]
    by_cases e : t = k
    · subst e; simp
    · rw [if_neg e, zip_get E r t]; simp [e]
theorem EnvR.keep {E : Nat → Value} {tmps : Array Value} (h : EnvR μ E tmps) (keep : List Nat) : EnvR μ (Env.get (keep.zip (keep.map E))) tmps := by
  intro t
  rw [zip_get]
  split
  · exact h t
  · exact .unk _

theorem stepR_scope {b : Frame} {c : Code} {k : List Item} {a : Act} {cs : List Frame} : step P (lone (b.atR a (.code (.scope c) :: k)) cs w) = .next (lone (b.atR a (.code c :: .inScope c :: k)) cs w) :=
  step_lone_go (by simp [stepG, stepG.exec, Frame.atR])
theorem stepR_inScope {b : Frame} {c : Code} {k : List Item} {a : Act} {cs : List Frame} : step P (lone (b.atR a (.inScope c :: k)) cs w) = .next (lone (b.atR a k) cs w) :=
  step_lone_go (by simp [stepG, stepG.exec, Frame.atR])
theorem wpIn_scope_straight {F : Fence} {n : Nat} {Q : Exit → Act → World → Prop} {a : Act} {c : Code} (h : c.wpIn F n P (Exit.noGoto Q) a w) : (Code.scope c).wpIn F n P Q a w := by
  intro b k cs hro hb hr
  have h0 : (lone (b.atR a (.code (.scope c) :: k)) cs w).fenced P F := fenced_calm hb hr rfl
  obtain ⟨e, a₁, w₁, hq, harr⟩ := h b (.inScope c :: k) cs hro hb hr
  cases e with
  | normal => exact ⟨.normal, a₁, w₁, hq, .head h0 stepR_scope (StepsIn.trans harr (.one (fenced_calm hb hr rfl) stepR_inScope))⟩
  | exit id =>
    have hx : exitTo id (.inScope c :: k) = exitTo id k := by simp [exitTo]
    exact ⟨.exit id, a₁, w₁, hq, fun k' hk => .head h0 stepR_scope (harr.1 k' (by rw [hx]; exact hk)),
      fun hr' hk => let ⟨k₁, h1, h2⟩ := harr.2 hr' (by rw [hx]; exact hk); ⟨k₁, h1, .head h0 stepR_scope h2⟩⟩
  | goto l => exact hq.elim
  | ret => exact ⟨_, a₁, w₁, hq, .of_steps (.one h0 stepR_scope) harr⟩
  | panic ch => exact ⟨_, a₁, w₁, hq, .of_steps (.one h0 stepR_scope) harr⟩
  | outgrown => exact ⟨_, a₁, w₁, hq, .of_steps (.one h0 stepR_scope) harr⟩
theorem lp_of {ro : Option Nat} {w w1 : World} (hro : ∀ l₀, ro = some l₀ → ∃ r, w.heap[l₀]? = some (.loop r)) (h : Bel B w w1) : ∀ l₀, ro = some l₀ → ∃ r, w1.heap[l₀]? = some (.loop r) := fun l₀ e => by
  obtain ⟨r, hr⟩ := hro l₀ e
  obtain ⟨r', h1, _⟩ := h.loops _ _ hr
  exact ⟨r', h1⟩

theorem region_soundR {ro : Option Nat} {rm : Nat} {C : Oracle} {keep : List Nat} {N id : Nat} {ops : Array Oper} {draw : Bool} {vs : List Value} {a : Act} {r : AExit × List Value × Heap} (hC : OrOk P B C) (hm : P.follows .mixedOrders = true)
    (hok : okRegion P N ops draw = true) (n : Nat) (h : ev P C keep n (.region id ops draw) vs H = some r) (hN : N ≤ a.tmps.size) (hS : Sim P μ H w B) (hE : EnvR μ (Env.get (keep.zip vs)) a.tmps) :
    (Code.region id ops draw).wpIn (FR ro) rm P (Post P B keep μ a w r) a w := by
  simp only [ev] at h
  cases hr : runRegion P C ops draw (keep.zip vs) H with
  | none => rw [hr] at h; cases h
  | some q =>
    obtain ⟨E', H'⟩ := q
    rw [hr] at h
    simp only at h; cases h
    have fin : ∀ a' w' μ', μ.le μ' → EnvR μ' E'.get a'.tmps → a'.defers = a.defers → a'.tmps.size = a.tmps.size → Sim P μ' H' w' B → Bel B w w' →
        Post P B keep μ a w (.normal, keep.map E'.get, H') .normal a' w' :=
      fun a' w' μ' h1 h2 h3 h4 h5 h6 => ⟨rfl, μ', h1, h2.keep keep, .of_eq h3, h4, h5, h6⟩
    cases draw with
    | true => exact draw_soundR hC hm hok hr hN hS hE fin
    | false =>
      refine wpIn_region_list ?_
      simp only [okRegion, Bool.and_eq_true, List.all_eq_true] at hok
      refine runOps_soundR (N := N) hC ops.toList _ _ _ _ μ a w (by simpa [runRegion] using hr) ?_ hN hS hE fin
      intro o ho d hd
      have := hok.1 o ho
      rw [hd] at this
      simpa using this

/-- A range over a function. -/
theorem rf_sound {ro : Option Nat} {rm : Nat} {C : Oracle} {keep : List Nat} {N n : Nat} {g : Operand} {ps : Array Tmp} {x y : Code} {vs : List Value} {r : AExit × List Value × Heap} {a : Act} (hC : OrOk P B C)
    (hro : ∀ l₀, ro = some l₀ → ∃ r, w.heap[l₀]? = some (.loop r)) (hok : okCode P N (.rangeFunc g ps x y) = true) (h : ev P C keep n (.rangeFunc g ps x y) vs H = some r) (hN : N ≤ a.tmps.size) (hS : Sim P μ H w B)
    (hE : EnvR μ (Env.get (keep.zip vs)) a.tmps) : (Code.rangeFunc g ps x y).wpIn (FR ro) rm P (Post P B keep μ a w r) a w := by
  simp only [ev] at h
  split at h
  case h_2 => cases h
  rename_i gf first captured hg
  split at h
  case isFalse => cases h
  rename_i hgs
  cases hc : C gf (first.toList ++ [.func (.yield H.length) #[] #[]] ++ captured.toList) (H.newO (.loop ⟨keep, vs, ps, x, y⟩ .ready)) with
  | none => rw [hc] at h; cases h
  | some q =>
    obtain ⟨v, H2⟩ := q
    rw [hc] at h
    simp only at h
    obtain ⟨⟨fn, hfn, hb, hnm⟩, hcom⟩ := (hC.told _ _ _ _ _ hc).1 hgs
    have hfr := hE.eval g
    rw [aevalF_get, hg] at hfr
    obtain ⟨first', captured', eg, e1, e2⟩ := hfr.func_inv rfl
    refine wpIn_rangeFunc ?_
    intro fnn _
    obtain ⟨l, mk, w1, rc, henter, hl1, p1, p2, p3, p4, p5, p6, hle, hB1, hw1, hM1⟩ := enter_loop hro hS fnn a ps x y
    obtain ⟨hmu, hS1⟩ := hS.newO hw1 hB1.size hle (o := .loop ⟨keep, vs, ps, x, y⟩ .ready)
      ⟨rc, N, hl1, p1, p2, p3, by rw [p4]; exact hN, by simpa [okCode] using hok, by rw [p4]; exact hE, p5, p6⟩
    have hargs : VRs (μ.up H.length ⟨l, 0, 0, 0⟩) (first.toList ++ [.func (.yield H.length) #[] #[]] ++ captured.toList) (first'.toList ++ [.func (.yield l) #[] #[]] ++ captured'.toList) :=
      ((e1.mono hmu).append (.cons (.yld _ ⟨l, 0, 0, 0⟩ Mu.up_self) .nil)).append (e2.mono hmu)
    have hcall := hcom _ w1 _ hS1 hargs
    have harr : (first'.toList ++ [Value.func (.yield l) #[] #[]] ++ captured'.toList).toArray = first' ++ #[Value.func (.yield l) #[] #[]] ++ captured' := by
      rw [← Array.toList_inj]; simp
    rw [harr] at hcall
    have hb' : ¬ fn.body = none := by intro e; rw [e] at hb; simp at hb
    have hnm' : ¬ fn.name = "runtime.NumGoroutine" := by simpa using hnm
    refine ⟨l, mk, w1, { target := .fn (.func gf) captured', args := first' ++ #[.func (.yield l) #[] #[]] }, w1, gf, first' ++ #[.func (.yield l) #[] #[]] ++ captured', w1, henter, ?_, ?_, ?_, ?_, ?_⟩
    · simp [resolve, eg, Deferred.ofValue]; rfl
    · intro _ _; trivial
    · simp [invoke, callFunc, hfn, hnm', hb']
    · intro h; simp [Fence.wide] at h
    have hci : CallsIn (FR ro) (rm - 1) P gf (first' ++ #[Value.func (.yield l) #[] #[]] ++ captured') w1 _ := callsR hcall
    refine hci.mono ?_
    rintro e w2 ⟨v', μ2, rfl, hle2, _, hS2, hB2⟩
    have hm2 : μ2 H.length = some ⟨l, 0, 0, 0⟩ := hle2 _ _ Mu.up_self
    have hmu2 := Mu.le_trans hmu hle2
    cases ho : H2.oth H.length with
    | none => rw [ho] at h; simp [endL] at h
    | some o =>
      rw [ho] at h
      cases o with
      | tab k es => simp [endL] at h
      | loop L s =>
        obtain ⟨l2, hl2, hBl, r2, N2, k1, k2, k3, k4, k5, k6, k7, k8⟩ := hS2.oth.ok _ _ ho
        rw [hm2] at hl2; cases hl2
        have hnb : r2.state ≠ .busy := by
          intro e
          cases s with
          | ready => rw [k8.1] at e; cases e
          | busy => simp [endL] at h
          | ret => rw [k8.1] at e; cases e
          | exit id => rw [k8.1] at e; cases e
        have hend := run_endLoop (P := P) k1 hnb
        have hS3 : Sim P μ2 (H2.kill H.length) (w2.putObj l (.loop { r2 with state := .exhausted })) B := hS2.killO ho hm2
        have hB3 : Bel B w2 (w2.putObj l (.loop { r2 with state := .exhausted })) := Bel.putLoop k1 hBl rfl
        have hB4 := hB1.trans (hB2.trans hB3)
        have hM : Marks w (w2.putObj l (.loop { r2 with state := .exhausted })) a { a with defers := mk ++ a.defers } := hM1.trans hB1 (hB2.trans hB3) (.of_eq rfl)
        generalize w2.putObj l (.loop { r2 with state := .exhausted }) = W at hend hS3 hB3 hB4 hM
        refine ⟨r2.pending, W, hend, ?_⟩
        cases s with
        | ready =>
          simp only [endL] at h; cases h
          rw [k8.2]
          exact ⟨rfl, μ2, hmu2, hE.mono hmu2, hM, rfl, hS3, hB4⟩
        | busy => simp [endL] at h
        | ret =>
          simp only [endL] at h; cases h
          rw [k8.2]
          exact wpIn_ret ⟨rfl, μ2, hmu2, hE.mono hmu2, hM, rfl, hS3, hB4⟩
        | exit id =>
          simp only [endL] at h; cases h
          rw [k8.2]
          exact wpIn_exit ⟨rfl, μ2, hmu2, hE.mono hmu2, hM, rfl, hS3, hB4⟩

theorem ev_soundR {ro : Option Nat} {rm : Nat} {C : Oracle} {keep : List Nat} {N n : Nat} (hC : OrOk P B C) (hm : P.follows .mixedOrders = true) : ∀ (c : Code) (vs : List Value) (H : Heap) (r : AExit × List Value × Heap) (μ : Mu) (a : Act) (w : World),
    (∀ l₀, ro = some l₀ → ∃ r, w.heap[l₀]? = some (.loop r)) → okCode P N c = true → ev P C keep n c vs H = some r → N ≤ a.tmps.size → Sim P μ H w B → EnvR μ (Env.get (keep.zip vs)) a.tmps → c.wpIn (FR ro) rm P (Post P B keep μ a w r) a w := by
  intro c
  induction c with
  | skip =>
    intro vs H r μ a w hro _ h hN hS hE
    simp only [ev] at h; cases h
    exact wpIn_skip ⟨rfl, μ, μ.le_refl, hE, .of_eq rfl, rfl, hS, Bel.refl _ _⟩
  | label l =>
    intro vs H r μ a w hro _ h hN hS hE
    simp only [ev] at h; cases h
    exact wpIn_label ⟨rfl, μ, μ.le_refl, hE, .of_eq rfl, rfl, hS, Bel.refl _ _⟩
  | exit id =>
    intro vs H r μ a w hro _ h hN hS hE
    simp only [ev] at h; cases h
    exact wpIn_exit ⟨rfl, μ, μ.le_refl, hE, .of_eq rfl, rfl, hS, Bel.refl _ _⟩
  | ret =>
    intro vs H r μ a w hro _ h hN hS hE
    simp only [ev] at h; cases h
    exact wpIn_ret ⟨rfl, μ, μ.le_refl, hE, .of_eq rfl, rfl, hS, Bel.refl _ _⟩
  | goto l => intro vs H r μ a w _ _ h; simp only [ev] at h; cases h
  | refuse s => intro vs H r μ a w _ _ h; simp only [ev] at h; cases h
  | rangeFunc f ps x y _ _ => intro vs H r μ a w hro hok h hN hS hE; exact rf_sound hC hro hok h hN hS hE
  | region id ops draw =>
    intro vs H r μ a w hro hok h hN hS hE
    exact region_soundR hC hm hok n h hN hS hE
  | seq x y ihx ihy =>
    intro vs H r μ a w hro hok h hN hS hE
    simp only [okCode, Bool.and_eq_true] at hok
    simp only [ev] at h
    cases hx : ev P C keep n x vs H with
    | none => rw [hx] at h; cases h
    | some q =>
      refine wpIn_seq (wpIn_mono (ihx vs H q μ a w hro hok.1 hx hN hS hE) ?_)
      rintro e a1 w1 hp
      obtain ⟨e1, vs1, H1⟩ := q
      rw [hx] at h
      have hp' := hp
      obtain ⟨rfl, μ1, h1, h2, h3, h4, h5, h6⟩ := hp
      cases e1 with
      | normal =>
        simp only at h
        exact wpIn_mono (ihy vs1 H1 r μ1 a1 w1 (lp_of hro h6) hok.2 h (by rw [h4]; exact hN) h5 h2) fun _ _ _ hq => hq.trans h1 h3 h4 h6
      | exit id => simp only at h; cases h; exact hp'
      | ret => simp only at h; cases h; exact hp'
  | cond c x y ihx ihy =>
    intro vs H r μ a w hro hok h hN hS hE
    simp only [okCode, Bool.and_eq_true] at hok
    simp only [ev] at h
    split at h
    · rename_i t hc
      have hv := hE.eval c
      rw [aevalF_get, hc] at hv
      refine wpIn_cond hv.bool ?_
      cases t with
      | true => simp only [if_true] at h ⊢; exact ihx vs H r μ a w hro hok.1 h hN hS hE
      | false => simp only [Bool.false_eq_true, if_false] at h ⊢; exact ihy vs H r μ a w hro hok.2 h hN hS hE
    · cases h
  | block id c ih =>
    intro vs H r μ a w hro hok h hN hS hE
    simp only [ev] at h
    cases hx : ev P C keep n c vs H with
    | none => rw [hx] at h; cases h
    | some q =>
      refine wpIn_block (wpIn_mono (ih vs H q μ a w hro hok hx hN hS hE) ?_)
      rintro e a1 w1 hp
      obtain ⟨e1, vs1, H1⟩ := q
      rw [hx] at h
      have hp' := hp
      obtain ⟨rfl, rest⟩ := hp
      cases e1 with
      | normal => simp only at h; cases h; exact hp'
      | ret => simp only at h; cases h; exact hp'
      | exit id' =>
        simp only at h
        by_cases e : id' = id
        · rw [if_pos e] at h; cases h
          simp only [toExit, Exit.inBlock, e, if_true]
          exact ⟨rfl, rest⟩
        · rw [if_neg e] at h; cases h
          simp only [toExit, Exit.inBlock, e, if_false]
          exact ⟨rfl, rest⟩
  | scope c ih =>
    intro vs H r μ a w hro hok h hN hS hE
    simp only [ev] at h
    refine wpIn_scope_straight (wpIn_mono (ih vs H r μ a w hro hok h hN hS hE) ?_)
    rintro e a1 w1 hp
    have hp' := hp
    obtain ⟨rfl, rest⟩ := hp
    cases hr : r.1 <;> simp only [toExit, Exit.noGoto, hr] at hp' ⊢ <;> exact hp'
  | loop c ih =>
    intro vs H r μ a w hro hok h hN hS hE
    simp only [ev] at h
    -- the number of rounds goes down
    refine wpIn_loop_ghost (fun k a1 w1 => ∃ vs1 H1 μ1, iter k (ev P C keep n c) vs1 H1 = some r ∧ μ.le μ1 ∧ EnvR μ1 (Env.get (keep.zip vs1)) a1.tmps ∧ Marks w w1 a a1 ∧ a1.tmps.size = a.tmps.size ∧ Sim P μ1 H1 w1 B ∧ Bel B w w1) n
      ⟨vs, H, μ, h, μ.le_refl, hE, .of_eq rfl, rfl, hS, Bel.refl _ _⟩ ?_
    rintro k a1 w1 ⟨vs1, H1, μ1, hit, g1, g2, g3, g4, g5, g6⟩
    cases k with
    | zero => simp only [iter] at hit; cases hit
    | succ k =>
      simp only [iter] at hit
      cases hx : ev P C keep n c vs1 H1 with
      | none => rw [hx] at hit; cases hit
      | some q =>
        refine wpIn_mono (ih vs1 H1 q μ1 a1 w1 (lp_of hro g6) hok hx (by rw [g4]; exact hN) g5 g2) ?_
        rintro e a2 w2 hp
        obtain ⟨e1, vs2, H2⟩ := q
        rw [hx] at hit
        have hp' := hp
        obtain ⟨rfl, μ2, h1, h2, h3, h4, h5, h6⟩ := hp
        cases e1 with
        | normal =>
          simp only at hit
          exact ⟨k, Nat.lt_succ_self k, vs2, H2, μ2, hit, Mu.le_trans g1 h1, h2, g3.trans g6 h6 h3, h4.trans g4, h5, g6.trans h6⟩
        | exit id => simp only at hit; cases hit; exact hp'.trans g1 g3 g4 g6
        | ret => simp only at hit; cases hit; exact hp'.trans g1 g3 g4 g6

theorem putPs_sound : ∀ (ps : List Nat) (args args' : List Value) (E : Env) (tmps : Array Value), EnvR μ E.get tmps → VRs μ args args' → (∀ p ∈ ps, p < tmps.size) →
    EnvR μ (putPs E (ps.zip args)).get ((ps.zip args').foldl (fun t p => t.setIfInBounds p.1 p.2) tmps) ∧ ((ps.zip args').foldl (fun (t : Array Value) p => t.setIfInBounds p.1 p.2) tmps).size = tmps.size := by
  intro ps
  induction ps with
  | nil => intro args args' E tmps h _ _; exact ⟨h, rfl⟩
  | cons p ps ih =>
    intro args args' E tmps h ha hp
    cases args with
    | nil => rw [ha.nil_inv]; exact ⟨h, rfl⟩
    | cons v args =>
      obtain ⟨v', y, rfl, h1, h2⟩ := ha.uncons
      simp only [List.zip_cons_cons, putPs, List.foldl_cons]
      have := ih args y (E.put (some p) v) (tmps.setIfInBounds p v') ?_ h2 (fun q hq => by simpa using hp q (by simp [hq]))
      · refine ⟨this.1, by rw [this.2]; simp⟩
      · intro t
        rw [Env.get_put]
        have hpl := hp p (by simp)
        by_cases e : p = t
        · subst e; simp [hpl, h1]
        · rw [if_neg (fun x => e (Option.some.inj x))]
          have := h t
          simpa [Array.getD_eq_getD_getElem?, Array.getElem?_setIfInBounds_ne e] using this
theorem foldl_zip_list (ps : Array Tmp) (args : Array Value) (tmps : Array Value) :
    (ps.zip args).foldl (fun tmps (t, a) => tmps.setIfInBounds t a) tmps = (ps.toList.zip args.toList).foldl (fun t p => t.setIfInBounds p.1 p.2) tmps := by
  rw [← Array.foldl_toList, Array.toList_zip]

theorem endR_sound {i : Nat} {e : AExit} {v : Value} {l : Loc} (h : endR i e H = some (v, H')) (hS : Sim P μ H w B) (hl : μ i = some l) :
    ∃ w', (Instr.endRound l.b (match e with | .normal => none | .ret => some .ret | .exit id => some (.exit id))).run P w = .ok v w' ∧ plainV v = true ∧ Sim P μ H' w' B ∧ Bel B w w' := by
  unfold endR at h
  split at h
  case h_2 => cases h
  rename_i L ho
  cases h
  obtain ⟨l2, hl2, hBl, r2, N2, k1, k2, k3, k4, k5, k6, k7, k8⟩ := hS.oth.ok _ _ ho
  rw [hl] at hl2; cases hl2
  have hlt := (Array.getElem?_eq_some_iff.1 k1).1
  cases e with
  | normal => exact ⟨_, run_endRound _ k1, rfl, hS.putO (o' := .loop L (.of .normal)) ho hl ⟨_, N2, World.putObj_heap_same hlt, k2, k3, k4, k5, k6, k7, ⟨rfl, rfl⟩⟩, Bel.putLoop k1 hBl rfl⟩
  | ret => exact ⟨_, run_endRound _ k1, rfl, hS.putO (o' := .loop L (.of .ret)) ho hl ⟨_, N2, World.putObj_heap_same hlt, k2, k3, k4, k5, k6, k7, ⟨rfl, rfl⟩⟩, Bel.putLoop k1 hBl rfl⟩
  | exit id => exact ⟨_, run_endRound _ k1, rfl, hS.putO (o' := .loop L (.of (.exit id))) ho hl ⟨_, N2, World.putObj_heap_same hlt, k2, k3, k4, k5, k6, k7, ⟨rfl, rfl⟩⟩, Bel.putLoop k1 hBl rfl⟩

/-- A round. -/
theorem around_sound {C : Oracle} {n i : Nat} {args : List Value} {v : Value} (hC : OrOk P B C) (hm : P.follows .mixedOrders = true) (h : around P C n i args H = some (v, H')) : ComesY P B i args H v H' := by
  intro ro rn μ w args' l hS hargs hl
  unfold around at h
  split at h
  case h_2 => cases h
  rename_i L ho
  split at h
  case isFalse => cases h
  rename_i hlen
  obtain ⟨l2, hl2, hBl, r, N, k1, k2, k3, k4, k5, k6, k7, k8, k9⟩ := hS.oth.ok _ _ ho
  rw [hl] at hl2; cases hl2
  simp only [okCode, Bool.and_eq_true, List.all_eq_true, decide_eq_true_eq] at k6
  obtain ⟨⟨hps, hka⟩, hkb⟩ := k6
  have hsz : args'.toArray.size = r.params.size := by rw [k2]; have := hargs.1; simp; omega
  have hpar := putPs_sound L.ps.toList args args' (L.keep.zip L.vs) r.tmps k7 hargs (fun p hp => Nat.lt_of_lt_of_le (hps p hp) k5)
  refine ⟨r.fn, _, r.assign, r.body, run_yield k1 hsz, roundIn_of_wpIn trivial ?_⟩
  rw [k2, foldl_zip_list, k3, k4]
  have hlp : ∀ {w1 : World} {r1 : Loop}, w1.heap[l.b]? = some (.loop r1) → ∀ l₀, some l.b = some l₀ → ∃ r, w1.heap[l₀]? = some (.loop r) := fun hr l₀ e => by cases e; exact ⟨_, hr⟩
  cases ha : ev P C L.keep n L.assign (L.keep.map (putPs (L.keep.zip L.vs) (L.ps.toList.zip args)).get) H with
  | none => rw [ha] at h; cases h
  | some q =>
    obtain ⟨e1, vs1, H1⟩ := q
    rw [ha] at h
    cases e1 with
    | ret => cases h
    | exit id => cases h
    | normal =>
      simp only at h
      refine wpIn_mono (ev_soundR (ro := some l.b) (rm := rn) (N := N) hC hm L.assign _ H _ μ { tmps := _, defers := [] } w (hlp k1) hka ha (by simpa [hpar.2] using k5) hS (hpar.1.keep L.keep)) ?_
      rintro e a1 w1 ⟨rfl, μ1, h1, h2, h3, h4, h5, h6⟩
      simp only [toExit]
      split at h
      case h_2 => cases h
      rename_i L1 ho1
      obtain ⟨l3, hl3, hBl3, r3, N3, m1, m2, m3, m4, m5, m6, m7, m8, m9⟩ := h5.oth.ok _ _ ho1
      have hl1 := h1 _ _ hl
      rw [hl1] at hl3; cases hl3
      have hlt := (Array.getElem?_eq_some_iff.1 m1).1
      refine ⟨_, run_beginRound m1 m8, ?_⟩
      have hS2 : Sim P μ1 (H1.putO i (.loop L1 .busy)) (w1.putObj l.b (.loop { r3 with state := .busy })) B :=
        h5.putO ho1 hl1 ⟨_, N3, World.putObj_heap_same hlt, m2, m3, m4, m5, m6, m7, rfl⟩
      have hB2 : Bel B w1 (w1.putObj l.b (.loop { r3 with state := .busy })) := Bel.putLoop m1 hBl rfl
      cases hb : ev P C L.keep n L.body vs1 (H1.putO i (.loop L1 .busy)) with
      | none => rw [hb] at h; cases h
      | some q2 =>
        obtain ⟨e2, vs2, H2⟩ := q2
        rw [hb] at h
        simp only at h
        refine wpIn_mono (ev_soundR (ro := some l.b) (rm := rn) (N := N) hC hm L.body vs1 _ _ μ1 a1 _ (hlp (World.putObj_heap_same hlt)) hkb hb (by rw [h4]; simpa [hpar.2] using k5) hS2 h2) ?_
        rintro e a2 w2 ⟨rfl, μ2, g1, g2, g3, g4, g5, g6⟩
        obtain ⟨w3, hrun, hp, hS3, hB3⟩ := endR_sound h g5 (g1 _ _ hl1)
        have hB := h6.trans (hB2.trans (g6.trans hB3))
        cases e2 <;> exact ⟨v, w3, hrun, v, μ2, rfl, Mu.le_trans h1 g1, .plain _ hp, hS3, hB⟩

def resRun (tmps : Array Value) : ResultVar → Sem Value
  | .tmp t => pure (tmps.getD t undef)
  | .cell ad t => do loadVar t (← asAddr (tmps.getD ad undef))
theorem results_eq (fn : Func) (tmps : Array Value) : results fn tmps = (do let vs ← fn.results.mapM (resRun tmps); pure (if h : vs.size = 1 then vs[0] else .tuple vs)) := by
  unfold results
  congr 1

theorem ares_sound {fn : Func} {E : Env} {a : Act} {v : Value} (hS : Sim P μ H w B) (hE : EnvR μ E.get a.tmps) (h : ares P fn E H = some v) : ∃ v', (results fn a.tmps).run P w = .ok v' w ∧ VR μ v v' := by
  unfold ares at h
  rw [Option.map_eq_some_iff] at h
  obtain ⟨vs, hvs, rfl⟩ := h
  have key : ∀ (l : List ResultVar) (vs : List Value), l.mapM (fun (r : ResultVar) => match r with
      | .tmp t => some (E.get t)
      | .cell ad t => ldVar P t (E.get ad) H) = some vs →
      ∃ vs', (l.mapM (resRun a.tmps)).run P w = .ok vs' w ∧ VRs μ vs vs' := by
    intro l
    induction l with
    | nil => intro vs h; simp at h; subst h; exact ⟨[], rfl, .nil⟩
    | cons r l ih =>
      intro vs h
      rw [List.mapM_cons] at h
      simp only [Option.bind_eq_bind, Option.bind_eq_some_iff] at h
      obtain ⟨v, hv, vs2, h2, e⟩ := h
      cases e
      obtain ⟨vs', hr, hrel⟩ := ih vs2 h2
      have h1 : ∃ v', (resRun a.tmps r).run P w = .ok v' w ∧ VR μ v v' := by
        cases r with
        | tmp t => simp only at hv; cases hv; exact ⟨_, rfl, hE t⟩
        | cell ad t =>
          simp only at hv
          have hp := hE ad
          obtain ⟨v', hr1, hr2⟩ := ldVar_sound (P := P) hS hp hv
          refine ⟨v', ?_, hr2⟩
          have hptr : ∃ x, E.get ad = .pointer (some x) := by
            unfold ldVar at hv
            split at hv
            · rename_i e; exact ⟨_, e⟩
            · cases hv
          obtain ⟨x, e⟩ := hptr
          rw [e] at hp
          obtain ⟨i, off, l, _, _, e2⟩ := hp.ptr_inv
          rw [e2] at hr1
          unfold resRun
          simp only [e2]
          simpa [Instr.loadAt, Instr.sureAddr, asAddr] using hr1
      obtain ⟨v', hv1, hv2⟩ := h1
      refine ⟨v' :: vs', ?_, .cons hv2 hrel⟩
      rw [List.mapM_cons]
      simp only [Sem.run_bind, hv1, Result.andThen_ok, hr, Sem.run_pure]
  obtain ⟨vs', hr, hrel⟩ := key _ _ hvs
  have hrun : (results fn a.tmps).run P w = .ok (if h : vs'.toArray.size = 1 then vs'.toArray[0] else .tuple vs'.toArray) w := by
    rw [results_eq, Array.mapM_eq_mapM_toList]
    simp only [Sem.run_bind, Sem.run_map, hr, Result.andThen_ok, Sem.run_pure]
  refine ⟨_, hrun, ?_⟩
  match vs, hrel with
  | [], hrel => rw [hrel.nil_inv]; exact VRs.tuple (c := #[]) (c' := #[]) .nil
  | [v], hrel =>
    obtain ⟨v', y, rfl, h1, h2⟩ := hrel.uncons
    rw [h2.nil_inv]; exact h1
  | v1 :: v2 :: r, hrel =>
    obtain ⟨u1, y, rfl, h1, h2⟩ := hrel.uncons
    obtain ⟨u2, y2, rfl, h3, h4⟩ := h2.uncons
    have : ¬ (u1 :: u2 :: y2).toArray.size = 1 := by simp
    rw [dif_neg this]
    exact VRs.tuple (by simpa using hrel)

theorem leaves_marks {fn : Func} {tmps : Array Value} {rm : Nat} {R : Ending → World → Prop} {w0 : World} (hB0 : B ≤ w0.heap.size) : ∀ (Ds : List Nat) (w : World), Ds.Nodup → (∀ D ∈ Ds, w0.heap.size ≤ D ∧ w.heap[D]? = some (.deferred (some []))) →
    Sim P μ H w B → Bel B w0 w → (∀ w', Sim P μ H w' B → Bel B w0 w' → LeavesIn (FR none) rm P fn tmps R [] .returning w') → LeavesInM (FR none) rm P fn tmps R (Ds.map markD) .returning w := by
  intro Ds
  induction Ds with
  | nil => intro w _ _ hS hB hk; exact hk w hS hB
  | cons D Ds ih =>
    intro w hn hD hS hB hk
    rw [List.nodup_cons] at hn
    obtain ⟨hn1, hn2⟩ := hn
    obtain ⟨h1, h2⟩ := hD D (by simp)
    refine ⟨by simp, .inl ⟨D, _, rfl, run_takeDeferred h2, ih _ hn2 ?_ (hS.putElse h2 rfl (fun _ e => by cases e) (fun _ _ e => by cases e)) (hB.putDfr h2 (Nat.le_trans hB0 h1) h1) hk⟩⟩
    intro E hE
    refine ⟨(hD E (by simp [hE])).1, ?_⟩
    rw [World.putObj_heap_other (by rintro rfl; exact hn1 hE)]
    exact (hD E (by simp [hE])).2

theorem no_y {f : FuncId} {i : Nat} (h : f < P.funcs.size) (e : f = P.funcs.size + i) : False := by
  subst e
  exact absurd h (Nat.not_lt.2 (Nat.le_add_right _ _))
theorem acall_sound {bad : List FuncId} {G : Oracle} (hok : okProg P bad = true) (hGh : HoleOk G) (hG : ∀ f args H v H', bad.contains f = true → G f args H = some (v, H') →
      (∃ fn, P.funcs[f]? = some fn ∧ fn.body.isSome = true ∧ (fn.name == "runtime.NumGoroutine") = false) ∧ Comes' P B f args H v H') : ∀ n, OrOk P B (acall P bad G n) := by
  simp only [okProg, Bool.and_eq_true] at hok
  obtain ⟨hm, hall⟩ := hok
  intro n
  induction n with
  | zero => exact ⟨fun f args H v H' h => (by simp only [acall] at h; cases h), acall_lay hGh _⟩
  | succ n ih =>
    refine ⟨fun f args H v H' h => ?_, acall_lay hGh _⟩
    simp only [acall] at h
    split at h
    · rename_i hb
      obtain ⟨⟨fn, hfn, h1⟩, h2⟩ := hG f args H v H' hb h
      have hlt := (Array.getElem?_eq_some_iff.1 hfn).1
      exact ⟨fun _ => ⟨⟨fn, hfn, h1⟩, h2⟩, fun i e => (no_y hlt e).elim⟩
    · rename_i hb
      split at h
      · rename_i fn hfn
        have hlt : f < P.funcs.size := (Array.getElem?_eq_some_iff.1 hfn).1
        refine ⟨fun _ => ?_, fun i e => (no_y hlt e).elim⟩
        split at h
        · rename_i c hc
          have hof := List.all_eq_true.1 hall f (List.mem_range.2 hlt)
          have hb' : bad.contains f = false := by simpa using hb
          rw [hb', hfn] at hof
          simp only [Bool.false_or, okFunc, hc, Bool.and_eq_true, Bool.not_eq_true'] at hof
          obtain ⟨hname, hcode⟩ := hof
          refine ⟨⟨fn, hfn, by rw [hc]; rfl, hname⟩, ?_⟩
          intro μ w args' hS hargs
          refine (callsIn_wide (n := 0)).1 (callsIn_of_wp_marks (F := FR none) hfn hc trivial ?_)
          have hinit : EnvR μ (Env.get ((keepOf fn).zip ((keepOf fn).map fun t => args.getD t undef))) (args'.toArray ++ Array.replicate (fn.ntmps - args'.toArray.size) undef) := by
            refine EnvR.keep (E := fun t => args.getD t undef) ?_ _
            intro t
            have hu : VR μ undef undef := VRs.tuple (c := #[]) (c' := #[]) .nil
            show VR μ (args.getD t undef) _
            rw [List.getD_eq_getElem?_getD, Array.getD_eq_getD_getElem?, Array.getElem?_append]
            cases hx : args[t]? with
            | none =>
              have h1 : args.length ≤ t := List.getElem?_eq_none_iff.1 hx
              rw [if_neg (by have := hargs.1; simp; omega), Array.getElem?_replicate]
              split <;> exact hu
            | some x =>
              obtain ⟨x', e, r⟩ := hargs.2 t x hx
              have h1 : t < args'.length := (List.getElem?_eq_some_iff.1 e).1
              rw [if_pos (by simpa using h1)]
              simpa [e] using r
          have go : ∀ r, ev P (acall P bad G n) (keepOf fn) n c ((keepOf fn).map fun t => args.getD t undef) H = some r → (r.1 = .normal ∨ r.1 = .ret) → (ares P fn ((keepOf fn).zip r.2.1) r.2.2).map (·, r.2.2) = some (v, H') →
              c.wpIn (FR none) 0 P (bodyPostM (FR none) 0 P fn (CPost P B μ w v H'))
                { tmps := args'.toArray ++ Array.replicate (fn.ntmps - args'.toArray.size) undef, defers := [] } w := by
            intro r hev hx hres
            rw [Option.map_eq_some_iff] at hres
            obtain ⟨v2, hres, e⟩ := hres
            cases e
            refine wpIn_mono (ev_soundR (ro := none) (N := fn.ntmps) ih hm c _ H r μ _ w (fun _ e => by cases e) hcode hev (by simp; omega) hS hinit) ?_
            rintro e a' w' ⟨rfl, μ', h1, h2, ⟨Ds, d1, d2, d3⟩, h4, h5, h6⟩
            have key : LeavesInM (FR none) 0 P fn a'.tmps (CPost P B μ w v r.2.2) a'.defers .returning w' := by
              rw [d1, List.append_nil]
              refine leaves_marks hS.base Ds w' d2 d3 h5 h6 ?_
              intro w'' h5 h6
              obtain ⟨v', hr1, hr2⟩ := ares_sound (P := P) h5 h2 hres
              exact ⟨v', hr1, v', μ', rfl, h1, hr2, h5, h6⟩
            rcases hx with hx | hx <;> rw [hx] <;> exact key
          split at h
          · rename_i vs H2 hev; exact go _ hev (.inl rfl) h
          · rename_i vs H2 hev; exact go _ hev (.inr rfl) h
          · cases h
        · cases h
      · rename_i hfn
        have hge : P.funcs.size ≤ f := by
          by_cases hl : f < P.funcs.size
          · rw [Array.getElem?_eq_getElem hl] at hfn; cases hfn
          · exact Nat.le_of_not_lt hl
        refine ⟨fun hl => absurd hl (Nat.not_lt.2 hge), ?_⟩
        rintro i rfl
        rw [show P.funcs.size + i - P.funcs.size = i by omega] at h
        exact around_sound ih hm h

theorem acall_lt {bad : List FuncId} {G : Oracle} {n : Nat} {f : FuncId} {args : List Value} {r : Value × Heap} (hS : Sim P μ H w w.heap.size) (hb : bad.contains f = true → G f args H = some r → f < P.funcs.size)
    (h : acall P bad G n f args H = some r) : f < P.funcs.size := by
  cases n with
  | zero => simp only [acall] at h; cases h
  | succ n =>
    simp only [acall] at h
    split at h
    · rename_i hbad; exact hb hbad h
    · split at h
      · rename_i fn hfn; exact (Array.getElem?_eq_some_iff.1 hfn).1
      · unfold around at h
        split at h
        · rename_i L ho
          obtain ⟨l, _, h1, h2⟩ := hS.oth.ok _ _ ho
          have := h2.lt
          omega
        · cases h

/-- No function is told from without. -/
def noG : Oracle := fun _ _ _ => none
theorem noG_hole : HoleOk noG := fun _ _ _ _ _ _ _ _ h => by simp [noG] at h
/-- What a law needs: it answers true, and nothing that was there has turned. -/
theorem law_true {bad : List FuncId} {n : Nat} {f : FuncId} {args args' : List Value} (hok : okProg P bad = true) (h : acall P bad noG n f args H = some (.bool true, H')) (hS : Sim P μ H w w.heap.size) (ha : VRs μ args args') :
    Calls P f args'.toArray w fun e w' => e = .returned (.bool true) ∧ Below w.heap.size w w' := by
  have hs := acall_sound (B := w.heap.size) hok (G := noG) noG_hole (fun f args H v H' _ h => by simp [noG] at h) n |>.told f args H _ H' h
  refine (((hs.1 (acall_lt hS (fun _ h => by simp [noG] at h) h)).2) μ w args' hS ha).mono ?_
  rintro e w' ⟨v', μ', rfl, _, hv, _, hb⟩
  exact ⟨by rw [hv.bool], hb.below⟩
theorem Sim.empty (w : World) : Sim P (fun _ => none) [] w w.heap.size :=
  ⟨Nat.le_refl _, fun i b h => by simp [Heap.get] at h, fun _ _ => rfl, fun i j b c l m h => by simp [Heap.get] at h, fun i b l h => by simp [Heap.get] at h, ⟨fun i o h => by simp [Heap.oth] at h, fun i j o p l m h => by simp [Heap.oth] at h⟩, fun i h => by simp at h⟩

end Go.Proofs.YtgakioiplkehgaaA.Am
