
/- LinearOrder's plain law: operations one behind the other, told with what a map answers. -/
import Derived.Test.YtgakioiplkehgaaLinL
namespace Go.Proofs.Ytgakioiplkehgaa.Fun
open Go Go.RowKit Go.Proofs.YtgakioiplkehgaaA.Am
set_option linter.unusedVariables false
set_option linter.unusedSimpArgs false
set_option linter.unnecessarySimpa false
set_option maxRecDepth 10000
def zop : OpV := ⟨0, 0, 0⟩
def opOf (z : Int) : OpV := ⟨1 + z % 10, z.tdiv 10 % 12, z.tdiv 120 % 20⟩
def thr (i : Nat) : Int := (i : Int).tmod 5
def ev1 (i : Nat) (op : OpV) : EvV := ⟨1, thr i, i, op, res0, 0⟩
def ev2 (i : Nat) : EvV := ⟨2, thr i, i, zop, res0, 0⟩
def ev3 (i : Nat) (r : ResV) : EvV := ⟨3, thr i, i, zop, r, 0⟩
/-- What an operation's events are but the last one. -/
def blk0 (p : PL) (i : Nat) (op : OpV) : List EvV := ev1 i op :: if trn p op then [ev2 i] else []
def logTo (zs : List Int) : Nat → List EvV × PL
  | 0 => ([], [])
  | i + 1 => ((logTo zs i).1 ++ (blk0 (logTo zs i).2 i (opOf (zs.getD i 0)) ++ [ev3 i (ans (logTo zs i).2 (opOf (zs.getD i 0)))]), aft (logTo zs i).2 (opOf (zs.getD i 0)))
def steps : StV → List EvV → Option StV
  | S, [] => some S
  | S, e :: L => match step S e with
    | none => none
    | some S' => steps S' L
theorem steps_app : ∀ {L M : List EvV} {S S' : StV}, steps S L = some S' → steps S (L ++ M) = steps S' M
  | [], M, S, S', h => by cases h; rfl
  | e :: L, M, S, S', h => by
    simp only [steps] at h
    simp only [List.cons_append, steps]
    cases hs : step S e with
    | none => rw [hs] at h; cases h
    | some S1 =>
      rw [hs] at h
      exact steps_app h
theorem check_app : ∀ {L M : List EvV} {S S' : StV} {i : Nat}, steps S L = some S' → check (L ++ M) S i = check M S' (i + L.length)
  | [], M, S, S', i, h => by cases h; rfl
  | e :: L, M, S, S', i, h => by
    simp only [steps] at h
    simp only [List.cons_append, check]
    cases hs : step S e with
    | none => rw [hs] at h; cases h
    | some S1 =>
      rw [hs] at h
      simp only
      rw [check_app h, List.length_cons]
      congr 1; omega
theorem check_ok {L : List EvV} {S S' : StV} {i : Nat} (h : steps S L = some S') : check L S i = -1 := by
  have := check_app (M := []) (i := i) h
  rw [List.append_nil] at this
  rw [this]; rfl
theorem opOf_ok (z : Int) : 1 ≤ (opOf z).kind ∧ (opOf z).kind ≤ 10 := by
  have h1 := Int.emod_nonneg z (show (10 : Int) ≠ 0 by omega)
  have h2 := Int.emod_lt_of_pos z (show (0 : Int) < 10 by omega)
  simp only [opOf]; omega
theorem opOf_w (z : Int) : OpOk (opOf z) := by
  have h1 := Int.emod_nonneg z (show (10 : Int) ≠ 0 by omega)
  have h2 := Int.emod_lt_of_pos z (show (0 : Int) < 10 by omega)
  have h3 := Int.emod_nonneg (z.tdiv 10) (show (12 : Int) ≠ 0 by omega)
  have h4 := Int.emod_lt_of_pos (z.tdiv 10) (show (0 : Int) < 12 by omega)
  have h5 := Int.emod_nonneg (z.tdiv 120) (show (20 : Int) ≠ 0 by omega)
  have h6 := Int.emod_lt_of_pos (z.tdiv 120) (show (0 : Int) < 20 by omega)
  exact ⟨⟨by simp only [opOf]; omega, by simp only [opOf]; omega⟩, ⟨by simp only [opOf]; omega, by simp only [opOf]; omega⟩, by simp only [opOf]; omega, by simp only [opOf]; omega⟩
theorem ans_why {p : PL} {op : OpV} (h : 1 ≤ op.kind ∧ op.kind ≤ 10) : (ans p op).why = 0 := by
  unfold ans
  have rF : ∀ t, (resF t).why = 0 := fun t => by unfold resF; split <;> rfl
  repeat' split
  all_goals first | exact rF _ | rfl | (exfalso; omega)
theorem ans_n {p : PL} {op : OpV} : 0 ≤ (ans p op).n ∧ ((ans p op).n ≤ p.length ∨ (ans p op).n ≤ 0) := by
  unfold ans
  have rF : ∀ t, (resF t).n = 0 := fun t => by unfold resF; split <;> rfl
  have := rng_len op.key op.value p
  repeat' split
  all_goals first | (rw [rF]; simp; done) | (simp only [resW]; simp; done) | (simp only; omega)
/-- All calls are back, the map is p, i operations were begun. -/
structure Idle (S : StV) (p : PL) (i : Nat) : Prop where
  calls : S.calls = []
  now : S.now = p
  inv : S.inv = i
  ne : 0 < S.maps.length
theorem thr_nn (i : Nat) : ¬ thr i < 0 := by
  unfold thr
  have := Int.tmod_nonneg 5 (show (0 : Int) ≤ (i : Int) by omega)
  omega
/-- Behind an operation's invocation and its taking place. -/
theorem blk0_steps {S : StV} {p : PL} {i : Nat} {op : OpV} (h : Idle S p i) (hk : 1 ≤ op.kind ∧ op.kind ≤ 10) (hi : i < 1000000) :
    ∃ S' c, steps S (blk0 p i op) = some S' ∧ S'.calls = [(thr i, c)] ∧ c.op = op ∧ c.no = i ∧ S'.inv = (i + 1 : Nat) ∧ S'.now = aft p op ∧ 0 < S'.maps.length ∧
      ∀ r, may S'.maps c r = if trn p op then resEq r (ans p op) else if decide (op.kind ≤ 3) && resEq r (resW 8) then true else if decide (op.kind > 4) && resEq r (resW 9) then true else resEq r (ans p op) := by
  have hw : IntKind.i64.wrap ((i : Int) + 1) = ((i + 1 : Nat) : Int) := by rw [w64 (by omega)]; omega
  obtain ⟨c, ec⟩ : ∃ c : CallV, c = ⟨op, i, S.maps.length - 1, none⟩ := ⟨_, rfl⟩
  obtain ⟨S1, e1⟩ : ∃ S1 : StV, S1 = ⟨S.maps, [(thr i, c)], (i + 1 : Nat)⟩ := ⟨_, rfl⟩
  have s1 : step S (ev1 i op) = some S1 := by
    unfold step
    rw [if_neg (by simp [ev1]), if_pos (by rfl)]
    rw [if_neg]
    · rw [e1, ec, h.calls, h.inv, hw]; rfl
    · rintro (g | g | g | g | g)
      · exact thr_nn i g
      · rw [h.calls] at g; simp [kidx] at g
      · simp only [ev1] at g; omega
      · simp only [ev1] at g; omega
      · exact g (by simp [ev1, h.inv])
  have n1 : S1.now = p := by rw [← h.now, e1]; rfl
  have hdrop : S.maps.drop (S.maps.length - 1) = [p] := by
    have hn := h.now
    have hp := h.ne
    unfold StV.now at hn
    rw [List.getD_eq_getElem?_getD, List.getElem?_eq_getElem (by omega), Option.getD_some] at hn
    rw [List.drop_eq_getElem_cons (by omega), hn, List.drop_eq_nil_of_le (by omega)]
  cases ht : trn p op with
  | true =>
    obtain ⟨c', ec'⟩ : ∃ c' : CallV, c' = ⟨op, i, S.maps.length - 1, some p⟩ := ⟨_, rfl⟩
    obtain ⟨S2, e2⟩ : ∃ S2 : StV, S2 = ⟨S.maps ++ [aft p op], [(thr i, c')], (i + 1 : Nat)⟩ := ⟨_, rfl⟩
    have s2 : step S1 (ev2 i) = some S2 := by
      have hidx : kidx S1.calls (ev2 i).thread = some 0 := by rw [e1]; simp [kidx, ev2]
      have hget : S1.calls[0]? = some (thr i, c) := by rw [e1]; rfl
      unfold step
      rw [if_neg (by simp [ev2]), if_neg (by simp [ev2]), if_pos (by rfl), hidx]
      simp only [hget]
      rw [if_neg]
      · rw [n1, e2, ec', e1, ec]; rfl
      · rintro (g | g | g)
        · exact g (by rw [ec]; rfl)
        · rw [ec] at g; cases g
        · rw [n1, ec] at g; simp only at g; rw [ht] at g; cases g
    refine ⟨S2, c', ?_, by rw [e2], by rw [ec'], by rw [ec'], by rw [e2], ?_, by rw [e2]; simp, fun r => ?_⟩
    · simp only [blk0, ht, if_true, steps, s1, s2]
    · rw [e2]; simp [StV.now]
    · rw [ec']; rfl
  | false =>
    refine ⟨S1, c, ?_, by rw [e1], by rw [ec], by rw [ec], by rw [e1], ?_, by rw [e1]; exact h.ne, fun r => ?_⟩
    · simp only [blk0, ht, Bool.false_eq_true, if_false, steps, s1]
    · rw [n1]; unfold aft; rw [ht]; rfl
    · have hm : S1.maps.drop c.frm = [p] := by rw [e1, ec]; exact hdrop
      unfold may
      rw [hm, ec]
      simp [ht]
theorem ret_step {S : StV} {i : Nat} {c : CallV} {r : ResV} (hc : S.calls = [(thr i, c)]) (hn : c.no = i) : step S (ev3 i r) = if may S.maps c r = false then none else some { S with calls := [] } := by
  have hidx : kidx S.calls (ev3 i r).thread = some 0 := by rw [hc]; simp [kidx, ev3]
  have hget : S.calls[0]? = some (thr i, c) := by rw [hc]; rfl
  unfold step
  rw [if_neg (by simp [ev3]), if_neg (by simp [ev3]), if_neg (by simp [ev3]), if_pos (by rfl), hidx]
  simp only [hget]
  by_cases hm : may S.maps c r = false
  · rw [if_pos (.inr hm), if_pos hm]
  · rw [if_neg (by rintro (g | g); exact g (by rw [hn]; rfl); exact hm g), if_neg hm, hc]; rfl
theorem may_self {S : StV} {c : CallV} {p : PL} {op : OpV} (h : ∀ r, may S.maps c r = if trn p op then resEq r (ans p op) else if decide (op.kind ≤ 3) && resEq r (resW 8) then true else if decide (op.kind > 4) && resEq r (resW 9) then true else resEq r (ans p op)) : may S.maps c (ans p op) = true := by
  rw [h, resEq_self]
  repeat' split
  all_goals rfl
theorem logTo_idle (zs : List Int) : ∀ i, i ≤ 1000 → ∃ S, steps st0 (logTo zs i).1 = some S ∧ Idle S (logTo zs i).2 i
  | 0, _ => ⟨st0, rfl, ⟨rfl, rfl, rfl, by simp [st0]⟩⟩
  | i + 1, hi => by
    obtain ⟨S, h1, h2⟩ := logTo_idle zs i (by omega)
    obtain ⟨S', c, g1, g2, g3, g4, g5, g6, g7, g8⟩ := blk0_steps h2 (opOf_ok (zs.getD i 0)) (by omega)
    have hr := ret_step (r := ans (logTo zs i).2 (opOf (zs.getD i 0))) g2 g4
    rw [may_self g8] at hr
    simp only [Bool.true_eq_false, if_false] at hr
    refine ⟨{ S' with calls := [] }, ?_, ⟨rfl, g6, g5, g7⟩⟩
    simp only [logTo]
    rw [steps_app h1, steps_app g1]
    simp only [steps, hr]
theorem logTo_len2 (zs : List Int) : ∀ i, (logTo zs i).2.length ≤ i
  | 0 => Nat.le_refl _
  | i + 1 => by
    have := logTo_len2 zs i
    simp only [logTo]
    unfold aft
    have h1 := len_mput (logTo zs i).2 (opOf (zs.getD i 0)).key (opOf (zs.getD i 0)).value
    have h2 := len_mdel (logTo zs i).2 (opOf (zs.getD i 0)).key
    repeat' split
    all_goals first | omega | (split at h1 <;> omega)
theorem logTo_w (zs : List Int) : ∀ i, W64s (logTo zs i).2
  | 0 => fun z hz => by cases hz
  | i + 1 => (logTo_w zs i).aft (opOf_w _)
theorem logTo_asc (zs : List Int) : ∀ i, Asc (keysOf (logTo zs i).2)
  | 0 => .nil
  | i + 1 => by
    have := logTo_asc zs i
    simp only [logTo]
    unfold aft
    repeat' split
    · exact asc_mdel this _
    · exact asc_mput this _ _
    · exact this
theorem logTo_len1 (zs : List Int) : ∀ i, (logTo zs i).1.length ≤ 3 * i
  | 0 => Nat.le_refl _
  | i + 1 => by
    have := logTo_len1 zs i
    simp only [logTo, blk0, List.length_append, List.length_cons, List.length_nil]
    split <;> simp <;> omega
theorem logTo_lists (zs : List Int) : ∀ i, ∀ e ∈ (logTo zs i).1, e.res.list.length ≤ i
  | 0 => fun e he => by cases he
  | i + 1 => fun e he => by
    simp only [logTo] at he
    rcases List.mem_append.1 he with he | he
    · have := logTo_lists zs i e he; omega
    · rcases List.mem_append.1 he with he | he
      · have : e.res = res0 := by
          unfold blk0 at he
          rcases List.mem_cons.1 he with rfl | he
          · rfl
          · split at he
            · rw [List.mem_singleton.1 he]; rfl
            · cases he
        rw [this]; simp [res0]
      · rw [List.mem_singleton.1 he]
        have := ans_len (op := opOf (zs.getD i 0)) (logTo_len2 zs i)
        simp only [ev3]; omega
theorem logTo_ns (zs : List Int) : ∀ i, ∀ e ∈ (logTo zs i).1, 0 ≤ e.res.n ∧ e.res.n ≤ i
  | 0 => fun e he => by cases he
  | i + 1 => fun e he => by
    simp only [logTo] at he
    rcases List.mem_append.1 he with he | he
    · have := logTo_ns zs i e he; omega
    · rcases List.mem_append.1 he with he | he
      · have : e.res = res0 := by
          unfold blk0 at he
          rcases List.mem_cons.1 he with rfl | he
          · rfl
          · split at he
            · rw [List.mem_singleton.1 he]; rfl
            · cases he
        rw [this]; simp [res0]; omega
      · rw [List.mem_singleton.1 he]
        have h1 := ans_n (p := (logTo zs i).2) (op := opOf (zs.getD i 0))
        have h2 := logTo_len2 zs i
        simp only [ev3]; omega
/-- An answer that is turned is the first event that is not right. -/
theorem logTo_turn (zs : List Int) : ∀ i, i ≤ 1000 → ∀ k e, (logTo zs i).1[k]? = some e → e.kind = 3 → ∃ S, steps st0 ((logTo zs i).1.take k) = some S ∧ step S { e with res := { e.res with n := e.res.n + 1 } } = none
  | 0, _, k, e, h, _ => by simp [logTo] at h
  | i + 1, hi, k, e, h, hk => by
    obtain ⟨S, h1, h2⟩ := logTo_idle zs i (by omega)
    simp only [logTo] at h ⊢
    have hop := opOf_ok (zs.getD i 0)
    generalize opOf (zs.getD i 0) = op at *
    rcases Nat.lt_or_ge k (logTo zs i).1.length with g | g
    · rw [List.getElem?_append_left g] at h
      obtain ⟨S', k1, k2⟩ := logTo_turn zs i (by omega) k e h hk
      exact ⟨S', by rw [List.take_append_of_le_length (by omega)]; exact k1, k2⟩
    · rw [List.getElem?_append_right g] at h
      obtain ⟨j, ej⟩ : ∃ j, j = k - (logTo zs i).1.length := ⟨_, rfl⟩
      rw [← ej] at h
      have hkj : k = (logTo zs i).1.length + j := by omega
      rcases Nat.lt_or_ge j (blk0 (logTo zs i).2 i op).length with g' | g'
      · exfalso
        rw [List.getElem?_append_left g'] at h
        have he := List.mem_of_getElem? h
        unfold blk0 at he
        rcases List.mem_cons.1 he with rfl | he
        · simp [ev1] at hk
        · split at he
          · rw [List.mem_singleton.1 he] at hk; simp [ev2] at hk
          · cases he
      · rw [List.getElem?_append_right g'] at h
        have hj : j = (blk0 (logTo zs i).2 i op).length := by
          have := (List.getElem?_eq_some_iff.1 h).1
          simp at this; omega
        subst hj
        rw [Nat.sub_self] at h
        have he : e = ev3 i (ans (logTo zs i).2 op) := by simpa using h.symm
        obtain ⟨S', c, g1, g2, g3, g4, g5, g6, g7, g8⟩ := blk0_steps h2 hop (by omega)
        refine ⟨S', ?_, ?_⟩
        · rw [hkj, List.take_length_add_append, List.take_left', steps_app h1, g1]
          rfl
        · have e3 : { e with res := { e.res with n := e.res.n + 1 } } = ev3 i { ans (logTo zs i).2 op with n := (ans (logTo zs i).2 op).n + 1 } := by rw [he]; rfl
          rw [e3, ret_step g2 g4, if_pos]
          rw [g8]
          have hw := ans_why (p := (logTo zs i).2) hop
          have hn : ∀ x : Int, ¬ x + 1 = x := fun x => by omega
          have r8 : resEq { ans (logTo zs i).2 op with n := (ans (logTo zs i).2 op).n + 1 } (resW 8) = false := by simp [resEq, resW, hw]
          have r9 : resEq { ans (logTo zs i).2 op with n := (ans (logTo zs i).2 op).n + 1 } (resW 9) = false := by simp [resEq, resW, hw]
          have r0 : resEq { ans (logTo zs i).2 op with n := (ans (logTo zs i).2 op).n + 1 } (ans (logTo zs i).2 op) = false := by simp [resEq, hn]
          rw [r8, r9, r0]; simp
end Go.Proofs.Ytgakioiplkehgaa.Fun
