/-
The code and the calls: what the abstract machine comes to, the model's machine comes to.
-/
import Derived.Test.YtpenlcigickkbaaAmDraw2
import Derived.Deep.LoopGhost
import Derived.Scope
namespace Go.Proofs.YtpenlcigickkbaaA.Am
open Go.RowKit (Below)
variable {P : Program} {μ : Mu} {H H' : Heap} {w : World} {B : Nat}

def toExit : AExit → Exit
  | .normal => .normal
  | .exit id => .exit id
  | .ret => .ret

/-- Behind a piece of code. -/
def Post (B : Nat) (keep : List Nat) (μ : Mu) (a : Act) (w : World) (r : AExit × List Value × Heap) (x : Exit) (a' : Act) (w' : World) : Prop :=
  x = toExit r.1 ∧ ∃ μ', μ.le μ' ∧ EnvR μ' (Env.get (keep.zip r.2.1)) a'.tmps ∧ a'.defers = a.defers ∧ a'.tmps.size = a.tmps.size ∧ Sim μ' r.2.2 w' B ∧ Below B w w'

theorem Post.trans {keep : List Nat} {μ μ1 : Mu} {a a1 : Act} {w w1 : World} {r : AExit × List Value × Heap} {x : Exit} {a' : Act} {w' : World}
    (hle : μ.le μ1) (hd : a1.defers = a.defers) (hs : a1.tmps.size = a.tmps.size) (hb : Below B w w1) (h : Post B keep μ1 a1 w1 r x a' w') : Post B keep μ a w r x a' w' := by
  obtain ⟨hx, μ', h1, h2, h3, h4, h5, h6⟩ := h
  exact ⟨hx, μ', Mu.le_trans hle h1, h2, h3.trans hd, h4.trans hs, h5, hb.trans h6⟩

theorem zip_get (E : Nat → Value) : ∀ (keep : List Nat) (t : Nat), Env.get (keep.zip (keep.map E)) t = if t ∈ keep then E t else unk
  | [], t => by simp [Env.get]
  | k :: r, t => by
    simp only [List.map_cons, List.zip_cons_cons, Env.get]
    by_cases e : t = k
    · subst e; simp
    · rw [if_neg e, zip_get E r t]; simp [e]
theorem EnvR.keep {E : Nat → Value} {tmps : Array Value} (h : EnvR μ E tmps) (keep : List Nat) : EnvR μ (Env.get (keep.zip (keep.map E))) tmps := by
  intro t
  rw [zip_get]
  split
  · exact h t
  · exact .unk _

theorem region_sound {C : Oracle} {keep : List Nat} {N id : Nat} {ops : Array Oper} {draw : Bool} {vs : List Value} {a : Act} {r : AExit × List Value × Heap} (hC : OrOk P B C) (hm : P.follows .mixedOrders = true)
    (hok : okRegion N ops draw = true) (n : Nat) (h : ev P C keep n (.region id ops draw) vs H = some r) (hN : N ≤ a.tmps.size) (hS : Sim μ H w B) (hE : EnvR μ (Env.get (keep.zip vs)) a.tmps) :
    (Code.region id ops draw).wp P (Post B keep μ a w r) a w := by
  simp only [ev] at h
  cases hr : runRegion P C ops draw (keep.zip vs) H with
  | none => rw [hr] at h; cases h
  | some q =>
    obtain ⟨E', H'⟩ := q
    rw [hr] at h
    simp only at h; cases h
    have fin : ∀ a' w' μ', μ.le μ' → EnvR μ' E'.get a'.tmps → a'.defers = a.defers → a'.tmps.size = a.tmps.size → Sim μ' H' w' B → Below B w w' →
        Post B keep μ a w (.normal, keep.map E'.get, H') .normal a' w' :=
      fun a' w' μ' h1 h2 h3 h4 h5 h6 => ⟨rfl, μ', h1, h2.keep keep, h3, h4, h5, h6⟩
    cases draw with
    | true => exact draw_sound hC hm hok hr hN hS hE fin
    | false =>
      refine wp_region_list ?_
      simp only [okRegion, Bool.and_eq_true, List.all_eq_true] at hok
      refine runOps_sound (N := N) hC ops.toList _ _ _ _ μ a w (by simpa [runRegion] using hr) ?_ hN hS hE fin
      intro o ho d hd
      have := hok.1 o ho
      rw [hd] at this
      simpa using this

theorem ev_sound {C : Oracle} {keep : List Nat} {N n : Nat} (hC : OrOk P B C) (hm : P.follows .mixedOrders = true) : ∀ (c : Code) (vs : List Value) (H : Heap) (r : AExit × List Value × Heap) (μ : Mu) (a : Act) (w : World),
    okCode N c = true → ev P C keep n c vs H = some r → N ≤ a.tmps.size → Sim μ H w B → EnvR μ (Env.get (keep.zip vs)) a.tmps → c.wp P (Post B keep μ a w r) a w := by
  intro c
  induction c with
  | skip =>
    intro vs H r μ a w _ h hN hS hE
    simp only [ev] at h; cases h
    exact wp_skip ⟨rfl, μ, μ.le_refl, hE, rfl, rfl, hS, Below.refl _ _⟩
  | label l =>
    intro vs H r μ a w _ h hN hS hE
    simp only [ev] at h; cases h
    exact wp_label ⟨rfl, μ, μ.le_refl, hE, rfl, rfl, hS, Below.refl _ _⟩
  | exit id =>
    intro vs H r μ a w _ h hN hS hE
    simp only [ev] at h; cases h
    exact wp_exit ⟨rfl, μ, μ.le_refl, hE, rfl, rfl, hS, Below.refl _ _⟩
  | ret =>
    intro vs H r μ a w _ h hN hS hE
    simp only [ev] at h; cases h
    exact wp_ret ⟨rfl, μ, μ.le_refl, hE, rfl, rfl, hS, Below.refl _ _⟩
  | goto l => intro vs H r μ a w _ h; simp only [ev] at h; cases h
  | refuse s => intro vs H r μ a w _ h; simp only [ev] at h; cases h
  | rangeFunc f ps x y _ _ => intro vs H r μ a w _ h; simp only [ev] at h; cases h
  | region id ops draw =>
    intro vs H r μ a w hok h hN hS hE
    exact region_sound hC hm hok n h hN hS hE
  | seq x y ihx ihy =>
    intro vs H r μ a w hok h hN hS hE
    simp only [okCode, Bool.and_eq_true] at hok
    simp only [ev] at h
    cases hx : ev P C keep n x vs H with
    | none => rw [hx] at h; cases h
    | some q =>
      refine wp_seq (wp_mono (ihx vs H q μ a w hok.1 hx hN hS hE) ?_)
      rintro e a1 w1 hp
      obtain ⟨e1, vs1, H1⟩ := q
      rw [hx] at h
      have hp' := hp
      obtain ⟨rfl, μ1, h1, h2, h3, h4, h5, h6⟩ := hp
      cases e1 with
      | normal =>
        simp only at h
        exact wp_mono (ihy vs1 H1 r μ1 a1 w1 hok.2 h (by rw [h4]; exact hN) h5 h2) fun _ _ _ hq => hq.trans h1 h3 h4 h6
      | exit id => simp only at h; cases h; exact hp'
      | ret => simp only at h; cases h; exact hp'
  | cond c x y ihx ihy =>
    intro vs H r μ a w hok h hN hS hE
    simp only [okCode, Bool.and_eq_true] at hok
    simp only [ev] at h
    split at h
    · rename_i t hc
      have hv := hE.eval c
      rw [aevalF_get, hc] at hv
      refine wp_cond hv.bool ?_
      cases t with
      | true => simp only [if_true] at h ⊢; exact ihx vs H r μ a w hok.1 h hN hS hE
      | false => simp only [Bool.false_eq_true, if_false] at h ⊢; exact ihy vs H r μ a w hok.2 h hN hS hE
    · cases h
  | block id c ih =>
    intro vs H r μ a w hok h hN hS hE
    simp only [ev] at h
    cases hx : ev P C keep n c vs H with
    | none => rw [hx] at h; cases h
    | some q =>
      refine wp_block (wp_mono (ih vs H q μ a w hok hx hN hS hE) ?_)
      rintro e a1 w1 hp
      obtain ⟨e1, vs1, H1⟩ := q
      rw [hx] at h
      have hp' := hp
      obtain ⟨rfl, rest⟩ := hp
      cases e1 with
      | normal => simp only at h; cases h; exact hp'
      | ret => simp only at h; cases h; exact hp'
      | exit id' =>
        simp only at h
        by_cases e : id' = id
        · rw [if_pos e] at h; cases h
          simp only [toExit, Exit.inBlock, e, if_true]
          exact ⟨rfl, rest⟩
        · rw [if_neg e] at h; cases h
          simp only [toExit, Exit.inBlock, e, if_false]
          exact ⟨rfl, rest⟩
  | scope c ih =>
    intro vs H r μ a w hok h hN hS hE
    simp only [ev] at h
    refine wp_scope_straight (wp_mono (ih vs H r μ a w hok h hN hS hE) ?_)
    rintro e a1 w1 hp
    have hp' := hp
    obtain ⟨rfl, rest⟩ := hp
    cases hr : r.1 <;> simp only [toExit, Exit.noGoto, hr] at hp' ⊢ <;> exact hp'
  | loop c ih =>
    intro vs H r μ a w hok h hN hS hE
    simp only [ev] at h
    -- the number of rounds goes down
    refine wp_loop_ghost (fun k a1 w1 => ∃ vs1 H1 μ1, iter k (ev P C keep n c) vs1 H1 = some r ∧ μ.le μ1 ∧ EnvR μ1 (Env.get (keep.zip vs1)) a1.tmps ∧ a1.defers = a.defers ∧ a1.tmps.size = a.tmps.size ∧ Sim μ1 H1 w1 B ∧ Below B w w1) n
      ⟨vs, H, μ, h, μ.le_refl, hE, rfl, rfl, hS, Below.refl _ _⟩ ?_
    rintro k a1 w1 ⟨vs1, H1, μ1, hit, g1, g2, g3, g4, g5, g6⟩
    cases k with
    | zero => simp only [iter] at hit; cases hit
    | succ k =>
      simp only [iter] at hit
      cases hx : ev P C keep n c vs1 H1 with
      | none => rw [hx] at hit; cases hit
      | some q =>
        refine wp_mono (ih vs1 H1 q μ1 a1 w1 hok hx (by rw [g4]; exact hN) g5 g2) ?_
        rintro e a2 w2 hp
        obtain ⟨e1, vs2, H2⟩ := q
        rw [hx] at hit
        have hp' := hp
        obtain ⟨rfl, μ2, h1, h2, h3, h4, h5, h6⟩ := hp
        cases e1 with
        | normal =>
          simp only at hit
          exact ⟨k, Nat.lt_succ_self k, vs2, H2, μ2, hit, Mu.le_trans g1 h1, h2, h3.trans g3, h4.trans g4, h5, g6.trans h6⟩
        | exit id => simp only at hit; cases hit; exact hp'.trans g1 g3 g4 g6
        | ret => simp only at hit; cases hit; exact hp'.trans g1 g3 g4 g6

def resRun (tmps : Array Value) : ResultVar → Sem Value
  | .tmp t => pure (tmps.getD t undef)
  | .cell ad t => do loadVar t (← asAddr (tmps.getD ad undef))
theorem results_eq (fn : Func) (tmps : Array Value) : results fn tmps = (do let vs ← fn.results.mapM (resRun tmps); pure (if h : vs.size = 1 then vs[0] else .tuple vs)) := by
  unfold results
  congr 1

theorem ares_sound {fn : Func} {E : Env} {a : Act} {v : Value} (hS : Sim μ H w B) (hE : EnvR μ E.get a.tmps) (h : ares P fn E H = some v) : ∃ v', (results fn a.tmps).run P w = .ok v' w ∧ VR μ v v' := by
  unfold ares at h
  rw [Option.map_eq_some_iff] at h
  obtain ⟨vs, hvs, rfl⟩ := h
  have key : ∀ (l : List ResultVar) (vs : List Value), l.mapM (fun (r : ResultVar) => match r with
      | .tmp t => some (E.get t)
      | .cell ad t => ldVar P t (E.get ad) H) = some vs →
      ∃ vs', (l.mapM (resRun a.tmps)).run P w = .ok vs' w ∧ VRs μ vs vs' := by
    intro l
    induction l with
    | nil => intro vs h; simp at h; subst h; exact ⟨[], rfl, .nil⟩
    | cons r l ih =>
      intro vs h
      rw [List.mapM_cons] at h
      simp only [Option.bind_eq_bind, Option.bind_eq_some_iff] at h
      obtain ⟨v, hv, vs2, h2, e⟩ := h
      cases e
      obtain ⟨vs', hr, hrel⟩ := ih vs2 h2
      have h1 : ∃ v', (resRun a.tmps r).run P w = .ok v' w ∧ VR μ v v' := by
        cases r with
        | tmp t => simp only at hv; cases hv; exact ⟨_, rfl, hE t⟩
        | cell ad t =>
          simp only at hv
          have hp := hE ad
          obtain ⟨v', hr1, hr2⟩ := ldVar_sound (P := P) hS hp hv
          refine ⟨v', ?_, hr2⟩
          have hptr : ∃ x, E.get ad = .pointer (some x) := by
            unfold ldVar at hv
            split at hv
            · rename_i e; exact ⟨_, e⟩
            · cases hv
          obtain ⟨x, e⟩ := hptr
          rw [e] at hp
          obtain ⟨i, off, l, _, _, e2⟩ := hp.ptr_inv
          rw [e2] at hr1
          unfold resRun
          simp only [e2]
          simpa [Instr.loadAt, Instr.sureAddr, asAddr] using hr1
      obtain ⟨v', hv1, hv2⟩ := h1
      refine ⟨v' :: vs', ?_, .cons hv2 hrel⟩
      rw [List.mapM_cons]
      simp only [Sem.run_bind, hv1, Result.andThen_ok, hr, Sem.run_pure]
  obtain ⟨vs', hr, hrel⟩ := key _ _ hvs
  have hrun : (results fn a.tmps).run P w = .ok (if h : vs'.toArray.size = 1 then vs'.toArray[0] else .tuple vs'.toArray) w := by
    rw [results_eq, Array.mapM_eq_mapM_toList]
    simp only [Sem.run_bind, Sem.run_map, hr, Result.andThen_ok, Sem.run_pure]
  refine ⟨_, hrun, ?_⟩
  match vs, hrel with
  | [], hrel => rw [hrel.nil_inv]; exact VRs.tuple (c := #[]) (c' := #[]) .nil
  | [v], hrel =>
    obtain ⟨v', y, rfl, h1, h2⟩ := hrel.uncons
    rw [h2.nil_inv]; exact h1
  | v1 :: v2 :: r, hrel =>
    obtain ⟨u1, y, rfl, h1, h2⟩ := hrel.uncons
    obtain ⟨u2, y2, rfl, h3, h4⟩ := h2.uncons
    have : ¬ (u1 :: u2 :: y2).toArray.size = 1 := by simp
    rw [dif_neg this]
    exact VRs.tuple (by simpa using hrel)

theorem acall_sound {bad : List FuncId} {G : Oracle} (hok : okProg P bad = true) (hG : ∀ f args H v H', bad.contains f = true → G f args H = some (v, H') →
      (∃ fn, P.funcs[f]? = some fn ∧ fn.body.isSome = true ∧ (fn.name == "runtime.NumGoroutine") = false) ∧ Comes' P B f args H v H') : ∀ n, OrOk P B (acall P bad G n) := by
  simp only [okProg, Bool.and_eq_true] at hok
  obtain ⟨hm, hall⟩ := hok
  intro n
  induction n with
  | zero => intro f args H v H' h; simp only [acall] at h; cases h
  | succ n ih =>
    intro f args H v H' h
    simp only [acall] at h
    split at h
    · rename_i hb; exact hG f args H v H' hb h
    · rename_i hb
      split at h
      · rename_i fn hfn
        split at h
        · rename_i c hc
          have hlt : f < P.funcs.size := (Array.getElem?_eq_some_iff.1 hfn).1
          have hof := List.all_eq_true.1 hall f (List.mem_range.2 hlt)
          have hb' : bad.contains f = false := by simpa using hb
          rw [hb', hfn] at hof
          simp only [Bool.false_or, okFunc, hc, Bool.and_eq_true, Bool.not_eq_true'] at hof
          obtain ⟨hname, hcode⟩ := hof
          refine ⟨⟨fn, hfn, by rw [hc]; rfl, hname⟩, ?_⟩
          intro μ w args' hS hargs
          refine calls_of_wp hfn hc ?_
          have hinit : EnvR μ (Env.get ((keepOf fn).zip ((keepOf fn).map fun t => args.getD t undef))) (args'.toArray ++ Array.replicate (fn.ntmps - args'.toArray.size) undef) := by
            refine EnvR.keep (E := fun t => args.getD t undef) ?_ _
            intro t
            have hu : VR μ undef undef := VRs.tuple (c := #[]) (c' := #[]) .nil
            show VR μ (args.getD t undef) _
            rw [List.getD_eq_getElem?_getD, Array.getD_eq_getD_getElem?, Array.getElem?_append]
            cases hx : args[t]? with
            | none =>
              have h1 : args.length ≤ t := List.getElem?_eq_none_iff.1 hx
              rw [if_neg (by have := hargs.1; simp; omega), Array.getElem?_replicate]
              split <;> exact hu
            | some x =>
              obtain ⟨x', e, r⟩ := hargs.2 t x hx
              have h1 : t < args'.length := (List.getElem?_eq_some_iff.1 e).1
              rw [if_pos (by simpa using h1)]
              simpa [e] using r
          have go : ∀ r, ev P (acall P bad G n) (keepOf fn) n c ((keepOf fn).map fun t => args.getD t undef) H = some r → (r.1 = .normal ∨ r.1 = .ret) → (ares P fn ((keepOf fn).zip r.2.1) r.2.2).map (·, r.2.2) = some (v, H') →
              c.wp P (bodyPost P fn fun e w' => ∃ v' μ', e = .returned v' ∧ μ.le μ' ∧ VR μ' v v' ∧ Sim μ' H' w' B ∧ Below B w w')
                { tmps := args'.toArray ++ Array.replicate (fn.ntmps - args'.toArray.size) undef, defers := [] } w := by
            intro r hev hx hres
            rw [Option.map_eq_some_iff] at hres
            obtain ⟨v2, hres, e⟩ := hres
            cases e
            refine wp_mono (ev_sound (N := fn.ntmps) ih hm c _ H r μ _ w hcode hev (by simp; omega) hS hinit) ?_
            rintro e a' w' ⟨rfl, μ', h1, h2, h3, h4, h5, h6⟩
            obtain ⟨v', hr1, hr2⟩ := ares_sound (P := P) h5 h2 hres
            rcases hx with hx | hx <;> rw [hx] <;> exact ⟨h3, v', hr1, v', μ', rfl, h1, hr2, h5, h6⟩
          split at h
          · rename_i vs H2 hev; exact go _ hev (.inl rfl) h
          · rename_i vs H2 hev; exact go _ hev (.inr rfl) h
          · cases h
        · cases h
      · cases h

/-- No function is told from without. -/
def noG : Oracle := fun _ _ _ => none
/-- What a law needs: it answers true, and nothing that was there has turned. -/
theorem law_true {bad : List FuncId} {n : Nat} {f : FuncId} {args args' : List Value} (hok : okProg P bad = true) (h : acall P bad noG n f args H = some (.bool true, H')) (hS : Sim μ H w w.heap.size) (ha : VRs μ args args') :
    Calls P f args'.toArray w fun e w' => e = .returned (.bool true) ∧ Below w.heap.size w w' := by
  have hs := acall_sound (B := w.heap.size) hok (G := noG) (fun f args H v H' _ h => by simp [noG] at h) n f args H _ H' h
  refine (hs.2 μ w args' hS ha).mono ?_
  rintro e w' ⟨v', μ', rfl, _, hv, _, hb⟩
  exact ⟨by rw [hv.bool], hb⟩
theorem Sim.empty (w : World) : Sim (fun _ => none) [] w w.heap.size :=
  ⟨Nat.le_refl _, fun i b h => by simp [Heap.get] at h, fun _ _ => rfl, fun i j b c l m h => by simp [Heap.get] at h, fun i b l h => by simp [Heap.get] at h⟩

end Go.Proofs.YtpenlcigickkbaaA.Am
