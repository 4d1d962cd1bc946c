
/- linear's checker: what each kind of event does. Over the abstract machine. -/
import Derived.Test.YtgakioiplkehgaaFun1
import Derived.Test.YtgakioiplkehgaaFun2
import Derived.Test.YtgakioiplkehgaaLinC2
namespace Go.Proofs.Ytgakioiplkehgaa.Fun
open Go Go.RowKit Go.Proofs.YtgakioiplkehgaaA.Am
set_option linter.unusedVariables false
set_option linter.unusedSimpArgs false
set_option linter.unnecessarySimpa false
set_option maxRecDepth 10000
/-- A log's event, its list. -/
def EvR (H : Heap) (o : Owner) (q : Int) (x : Value) (e : EvV) : Prop := ∃ s, x = evA e s ∧ SlR H o q s e.res.list
/-- What an event comes to. -/
def StepR (H : Heap) (o : Owner) (c : Nat) (S : StV) (e : EvV) (N : Nat) (f : FuncId) (x : Value) : Prop :=
  ∃ H' o', run KG N f [pv c, x] H = some (.bool (step S e).isSome, H') ∧ Fr H o H' o' [-20, -21, -22, -24] ∧ ∀ S', step S e = some S' → LinR H' o' c S'
theorem mlook_no {H : Heap} {t : Nat} {es : List (Int × Value)} {n : Int} {z : Value} (h : H.oth t = some (.tab .i64 es)) (hf : es.find? (fun e => e.1 == n) = none) : mlook .i64 z false (.map (some t)) (cv n) H = some z := by
  simp [mlook, h, hf]
theorem mlook_yes {H : Heap} {t : Nat} {es : List (Int × Value)} {n : Int} {z : Value} {x : Int × Value} (h : H.oth t = some (.tab .i64 es)) (hf : es.find? (fun e => e.1 == n) = some x) : mlook .i64 z false (.map (some t)) (cv n) H = some x.2 := by
  simp [mlook, h, hf]
theorem tab_find {cs : List (Int × Nat × CallV)} {n : Int} : (cs.map fun x => (x.1, pv x.2.1)).find? (fun e => e.1 == n) = (cs.find? fun e => e.1 == n).map fun x => (x.1, pv x.2.1) := by
  rw [List.find?_map]; rfl
theorem tab_kidx {cs : List (Int × Nat × CallV)} {n : Int} : kidx (cs.map fun x => (x.1, x.2.2)) n = kidx cs n := kidx_map _ cs n
theorem tab_idx {cs : List (Int × Nat × CallV)} {n : Int} : (cs.map fun x => (x.1, pv x.2.1)).findIdx? (fun e => e.1 == n) = kidx cs n := by
  unfold kidx; rw [List.findIdx?_map]; rfl
section
variable {H : Heap} {o : Owner} {q : Int} {n c : Nat} {S : StV} {e : EvV} {x : Value}
/-- Loaded. -/
theorem loaded_runs (h : LinR H o c S) (he : EvR H o q x e) (hl : e.res.list.length ≤ 4194303) (hms : S.maps.length ≤ 65000) (hk : e.kind = 4) (hn : 4194304 < n) : StepR H o c S e (n + 18) 34 x := by
  obtain ⟨sm, bm, t, ms, cs, ty, hp, em, ec, hne, hfr⟩ := h
  obtain ⟨s, rfl, hs⟩ := he
  have hml : ms.length ≤ 65000 := by rw [em] at hms; simpa using hms
  obtain ⟨a, m', es⟩ := hs.isSlice
  unfold StepR
  rw [F34_eq]
  have b1 := boxE e es H
  obtain ⟨H1, e1⟩ : ∃ z, z = H.new ⟨evCells e s, 31, 1, false⟩ := ⟨_, rfl⟩
  rw [← e1] at b1
  have x1 : Ext H H1 := by rw [e1]; exact (Ext.refl H).new _
  have f1 := x1.fr o (-9)
  have g1 : H1.get H.length = some ⟨evCells e s, 31, 1, false⟩ := by rw [e1]; exact get_new
  have l1 : H1.length = H.length + 1 := by rw [e1, new_len]
  have L11 := ld1_pv H.length 11 H1 g1
  obtain ⟨H2, r2, x2⟩ := read_runs (n := n + 12) (hs.fr f1 (by simp)) hl (by omega)
  have p1 := hp.fr f1
  unfold step
  rw [if_pos hk]
  by_cases hasc : Asc (keysOf e.res.list)
  case neg =>
    rw [if_neg hasc] at r2
    refine ⟨H2, _, ?_, (f1.wk (by simp)).tr0 (x2.fr _ (-9)), fun S' h' => ?_⟩
    · rw [if_neg (by rintro ⟨h, _⟩; exact hasc h)]
      simp -implicitDefEqProofs [F34, b1, fad_pv, L11, r2, ext_i, not_bool, pick_bool]
    · rw [if_neg (by rintro ⟨h, _⟩; exact hasc h)] at h'; cases h'
  rw [if_pos hasc] at r2
  obtain ⟨r2, m2⟩ := r2
  have f2 := x2.fr (o.from H.length (-9)) H1.length
  have p2 := p1.fr f2
  have f12 : Fr H o H2 ((o.from H.length (-9)).from H1.length H1.length) [-20, -21, -22, -24] := (f1.wk (by simp)).tr0 f2
  have C1 := ld1_pv c 1 H2 p2.blk
  have C0 := ld1_pv c 0 H2 p2.blk
  have mlen2 : mlen (.map (some t)) H2 = some (cv cs.length) := by simp [mlen, p2.tab]
  by_cases hcs : cs = []
  case neg =>
    have hpos : 0 < cs.length := List.length_pos_iff.2 hcs
    have hpos' : (cs.length : Int) > 0 := by omega
    have hne' : ¬ S.calls = [] := by rw [ec]; simpa using hcs
    refine ⟨H2, _, ?_, f12, fun S' h' => ?_⟩
    · rw [if_neg (by rintro ⟨_, h, _⟩; exact hne' h)]
      simp -implicitDefEqProofs [-gt_iff_lt, F34, b1, fad_pv, L11, r2, ext_i, not_bool, pick_bool, nck_pv, C1, mlen2, gtr_int, hpos, hpos']
    · rw [if_neg (by rintro ⟨_, h, _⟩; exact hne' h)] at h'; cases h'
  subst hcs
  simp only [List.length_nil, Int.natCast_zero] at mlen2
  obtain ⟨y, hy, hym⟩ := last_ex hne
  have rnow := now_runs (G := KG) (n := n + 16) p2 (by omega) hy hne
  have rlen := Len_runs (G := KG) (n := n + 16) (p2.maps y hym)
  have hnow := now_eq em hy
  by_cases hz : y.2 = []
  case neg =>
    have hpos : 0 < y.2.length := List.length_pos_iff.2 hz
    have hpos' : (y.2.length : Int) > 0 := by omega
    refine ⟨H2, _, ?_, f12, fun S' h' => ?_⟩
    · rw [if_neg (by rintro ⟨_, _, h⟩; rw [hnow] at h; exact hz h)]
      simp -implicitDefEqProofs [-gt_iff_lt, F34, b1, fad_pv, L11, r2, ext_i, not_bool, pick_bool, nck_pv, C1, mlen2, gtr_int, rnow, rlen, hpos, hpos']
    · rw [if_neg (by rintro ⟨_, _, h⟩; rw [hnow] at h; exact hz h)] at h'; cases h'
  rw [hz] at rlen
  simp only [List.length_nil, Int.natCast_zero] at rlen
  have hcond : Asc (keysOf e.res.list) ∧ S.calls = [] ∧ S.now = [] := ⟨hasc, by rw [ec]; rfl, by rw [hnow]; exact hz⟩
  rw [if_pos hcond]
  have bs := bsM1 H1.length H2
  obtain ⟨H3, e3⟩ : ∃ z, z = H2.new ⟨[pv H1.length], 48, 1, false⟩ := ⟨_, rfl⟩
  rw [← e3] at bs
  have x3 : Ext H2 H3 := by rw [e3]; exact (Ext.refl H2).new _
  have g3 : H3.get H2.length = some ⟨[pv H1.length], 48, 1, false⟩ := by rw [e3]; exact get_new
  have f3 := x3.fr ((o.from H.length (-9)).from H1.length H1.length) (-9)
  have p3 := p2.fr f3
  have m3 := m2.fr f3 (by simp)
  obtain ⟨s', H4, o4, b4, ra, sl4, f4, ow4⟩ := p3.sl.app1 (tE := 48) (by_ := 8) g3 rfl (by omega) (by simp; omega)
  have blk4 : H4.get c = some ⟨[sm, .map (some t), cv S.inv], ty, 1, false⟩ := by rw [f4.same c (get_lt p3.blk) (by rw [p3.oc]; simp)]; exact p3.blk
  have oc4 : o4 c = -20 := by rw [f4.own c (get_lt p3.blk)]; exact p3.oc
  have st := st_1 c 0 s' H4 blk4 rfl (by simp) (by obtain ⟨a, k, c, rfl⟩ := sl4.isSlice; rfl) (by obtain ⟨a, k, c, rfl⟩ := sl4.isSlice; rfl) (by obtain ⟨a, k, c, rfl⟩ := sl4.isSlice; rfl)
  simp only [List.set_cons_zero] at st
  obtain ⟨H5, e5⟩ : ∃ z, z = H4.put c ⟨[s', .map (some t), cv S.inv], ty, 1, false⟩ := ⟨_, rfl⟩
  rw [← e5] at st
  have f5 : Fr H4 o4 H5 o4 [-20] := by rw [e5]; exact (Fr.refl _ _ _).put fun _ => by simp [oc4]
  refine ⟨H5, o4, ?_, ((f12.tr0 f3).tr (f4.wk (by simp))).tr (f5.wk (by simp)), fun S' h' => ?_⟩
  · simp -implicitDefEqProofs [-gt_iff_lt, F34, b1, fad_pv, L11, r2, ext_i, not_bool, pick_bool, nck_pv, C1, C0, mlen2, gtr_int, rnow, rlen, bs, ra, st]
  · cases h'
    have tab4 : H4.oth t = some (.tab .i64 []) := by rw [f4.oth t (oth_lt p3.tab) (by rw [p3.ot]; simp)]; exact p3.tab
    refine ⟨s', b4, t, ms ++ [(H1.length, e.res.list)], [], ty, ⟨by rw [e5]; exact get_put blk4, by rw [f5.own c (get_lt blk4)]; exact oc4, ?_, ?_, ?_, ?_, .nil, fun y hy => by cases hy⟩, by simp [em], by simp [hcond.2.1], by simp, fun y hy => by cases hy⟩
    · rw [f5.oth t (oth_lt tab4) (by rw [f4.own t (oth_lt p3.tab), p3.ot]; simp)]
      exact tab4
    · rw [f5.own t (oth_lt tab4), f4.own t (oth_lt p3.tab)]; exact p3.ot
    · have := sl4.fr f5 (by simp)
      simpa using this
    · intro y hy
      rcases List.mem_append.1 hy with hy | hy
      · exact ((p3.maps y hy).fr f4 (by simp)).fr f5 (by simp)
      · have : y = (H1.length, e.res.list) := by simpa using hy
        subst this
        exact (m3.fr f4 (by simp)).fr f5 (by simp)
/-- Invoked. -/
theorem begun_runs (h : LinR H o c S) (he : EvR H o q x e) (hms : S.maps.length ≤ 65000) (hk : e.kind = 1) : StepR H o c S e (n + 18) 35 x := by
  obtain ⟨sm, bm, t, ms, cs, ty, hp, em, ec, hne, hfr⟩ := h
  obtain ⟨s, rfl, hs⟩ := he
  have hml : ms.length ≤ 65000 := by rw [em] at hms; simpa using hms
  have hpos : 0 < ms.length := List.length_pos_iff.2 hne
  obtain ⟨a, m', es⟩ := hs.isSlice
  unfold StepR
  rw [F35_eq]
  have b1 := boxE e es H
  obtain ⟨H1, e1⟩ : ∃ z, z = H.new ⟨evCells e s, 31, 1, false⟩ := ⟨_, rfl⟩
  rw [← e1] at b1
  have x1 : Ext H H1 := by rw [e1]; exact (Ext.refl H).new _
  have f1 := x1.fr o (-9)
  have g1 : H1.get H.length = some ⟨evCells e s, 31, 1, false⟩ := by rw [e1]; exact get_new
  have p1 := hp.fr f1
  have E0 : ld1 (.pointer (some ⟨H.length, 1, none⟩)) H1 = some (cv e.thread) := ld1_pv H.length 1 H1 g1
  have E2 : ld1 (.pointer (some ⟨H.length, 2, none⟩)) H1 = some (cv e.no) := ld1_pv H.length 2 H1 g1
  have E3 : ld1 (.pointer (some ⟨H.length, 3, none⟩)) H1 = some (cv e.op.kind) := ld1_pv H.length 3 H1 g1
  have C1 : ld1 (.pointer (some ⟨c, 1, none⟩)) H1 = some (.map (some t)) := ld1_pv c 1 H1 p1.blk
  have C2 : ld1 (.pointer (some ⟨c, 2, none⟩)) H1 = some (cv S.inv) := ld1_pv c 2 H1 p1.blk
  have hkx : kidx S.calls e.thread = kidx cs e.thread := by rw [ec]; exact tab_kidx
  have f1' : Fr H o H1 (o.from H.length (-9)) [-20, -21, -22, -24] := f1.wk (by simp)
  unfold step
  rw [if_neg (by omega), if_pos hk, hkx]
  have bad : (e.thread < 0 ∨ (kidx cs e.thread).isSome = true ∨ e.op.kind < 1 ∨ e.op.kind > 10 ∨ e.no ≠ S.inv) →
      F35 (run KG (n + 17)) (n + 17) (pv c) (evA e s) H = some (.bool false, H1) := by
    intro hbad
    by_cases k1 : e.thread < 0
    · simp -implicitDefEqProofs [F35, b1, fad_pv, E0, lss_int, k1, pick_bool]
    cases hx : kidx cs e.thread with
    | some j =>
      obtain ⟨y, hy1, hy2, hy3⟩ := kidx_some hx
      have ml := mlook_yes (z := .pointer none) p1.tab (n := e.thread) (x := (y.1, pv y.2.1)) (by rw [tab_find, hy3]; rfl)
      simp -implicitDefEqProofs [F35, b1, fad_pv, nck_pv, E0, C1, lss_int, k1, pick_bool, ml, ptr_neq_nil _ uC]
    | none =>
      have ml := mlook_no (z := .pointer none) p1.tab (n := e.thread) (by rw [tab_find, kidx_none hx]; rfl)
      by_cases k2 : e.op.kind < 1
      · simp -implicitDefEqProofs [F35, b1, fad_pv, nck_pv, E0, E3, C1, lss_int, k1, k2, pick_bool, ml, ptr_neq_nil _ uC]
      by_cases k3 : e.op.kind > 10
      · simp -implicitDefEqProofs [-gt_iff_lt, F35, b1, fad_pv, nck_pv, E0, E3, C1, lss_int, gtr_int, k1, k2, k3, pick_bool, ml, ptr_neq_nil _ uC]
      · have k4 : ¬ e.no = S.inv := by
          rcases hbad with g | g | g | g | g
          · exact absurd g k1
          · rw [hx] at g; simp at g
          · exact absurd g k2
          · exact absurd g k3
          · exact g
        simp -implicitDefEqProofs [-gt_iff_lt, F35, b1, fad_pv, nck_pv, E0, E2, E3, C1, C2, lss_int, gtr_int, neq_int, k1, k2, k3, k4, pick_bool, ml, ptr_neq_nil _ uC]
  by_cases hc : e.thread < 0 ∨ (kidx cs e.thread).isSome = true ∨ e.op.kind < 1 ∨ e.op.kind > 10 ∨ e.no ≠ S.inv
  · rw [if_pos hc]
    exact ⟨H1, _, bad hc, f1', fun S' h' => by cases h'⟩
  rw [if_neg hc]
  have k1 : ¬ e.thread < 0 := fun h => hc (.inl h)
  have kx : kidx cs e.thread = none := by
    cases hx : kidx cs e.thread with
    | none => rfl
    | some j => exact absurd (.inr (.inl (by rw [hx]; rfl))) hc
  have k2 : ¬ e.op.kind < 1 := fun h => hc (.inr (.inr (.inl h)))
  have k3 : ¬ e.op.kind > 10 := fun h => hc (.inr (.inr (.inr (.inl h))))
  have k4 : e.no = S.inv := Classical.byContradiction fun h => hc (.inr (.inr (.inr (.inr h))))
  have ml := mlook_no (z := .pointer none) p1.tab (n := e.thread) (by rw [tab_find, kidx_none kx]; rfl)
  have nq : abin Try.prog .neq 3 (cv e.no) (cv S.inv) = some (.bool false) := by rw [neq_int, k4]; simp
  -- the count turns
  obtain ⟨iv, eiv⟩ : ∃ iv, iv = IntKind.i64.wrap (S.inv + 1) := ⟨_, rfl⟩
  have st2 := st_1 c 2 (cv iv) H1 p1.blk rfl (by simp) rfl rfl rfl
  obtain ⟨H2, e2⟩ : ∃ z, z = H1.put c ⟨[sm, .map (some t), cv iv], ty, 1, false⟩ := ⟨_, rfl⟩
  have st2' : stS 1 (.pointer (some ⟨c, 2, none⟩)) (cv iv) H1 = some (undef, H2) := by rw [e2]; exact st2
  have f2 : Fr H1 (o.from H.length (-9)) H2 (o.from H.length (-9)) [-20] := by rw [e2]; exact (Fr.refl _ _ _).put fun _ => by simp [p1.oc]
  have blk2 : H2.get c = some ⟨[sm, .map (some t), cv iv], ty, 1, false⟩ := by rw [e2]; exact get_put p1.blk
  have hcl := get_lt hp.blk
  have g2 : H2.get H.length = some ⟨evCells e s, 31, 1, false⟩ := by rw [e2, get_put_ne (by omega)]; exact g1
  have tab2 : H2.oth t = some (.tab .i64 (cs.map fun x => (x.1, pv x.2.1))) := by rw [f2.oth t (oth_lt p1.tab) (by rw [p1.ot]; simp)]; exact p1.tab
  have sl2 := p1.sl.fr f2 (by simp)
  have D1 : ld1 (.pointer (some ⟨c, 1, none⟩)) H2 = some (.map (some t)) := ld1_pv c 1 H2 blk2
  have D0 : ld1 (pv c) H2 = some sm := ld1_pv c 0 H2 blk2
  have D0' : ld1 (.pointer (some ⟨c, 0 + 0, none⟩)) H2 = some sm := D0
  have E0' : ld1 (.pointer (some ⟨H.length, 1, none⟩)) H2 = some (cv e.thread) := ld1_pv H.length 1 H2 g2
  have E2' : ld1 (.pointer (some ⟨H.length, 2, none⟩)) H2 = some (cv e.no) := ld1_pv H.length 2 H2 g2
  have hsl := sl2.len
  simp only [List.length_map] at hsl
  have hw : IntKind.i64.wrap ((ms.length : Int) - 1) = ((ms.length - 1 : Nat) : Int) := by rw [w64 (by omega)]; omega
  -- the call
  obtain ⟨cl, ecl⟩ : ∃ cl : CallV, cl = ⟨e.op, e.no, ms.length - 1, none⟩ := ⟨_, rfl⟩
  have ab : abuild Try.prog 94 [(0, opA e.op), (1, cv e.no), (2, cv (ms.length - 1 : Nat))] = some (.agg #[cv e.op.kind, cv e.op.key, cv e.op.value, cv e.no, cv (ms.length - 1 : Nat), .bool false, cv 0, .bool false, cv 0, cv 0, cv 0, nils]) := abC _ _ _
  obtain ⟨H3, e3⟩ : ∃ z, z = H2.new ⟨callCells cl res0 nils, 94, 1, false⟩ := ⟨_, rfl⟩
  have bx : boxS 94 (.agg #[cv e.op.kind, cv e.op.key, cv e.op.value, cv e.no, cv (ms.length - 1 : Nat), .bool false, cv 0, .bool false, cv 0, cv 0, cv 0, nils]) H2 = some (pv H2.length, H3) := by
    rw [e3, ecl]; simp [boxS, Value.cells, oneCell, newBlk, res0]; rfl
  have f3 : Fr H2 (o.from H.length (-9)) H3 ((o.from H.length (-9)).up H2.length (-22)) [] := by rw [e3]; exact (Fr.refl _ _ _).new _ _
  have g3 : H3.get H2.length = some ⟨callCells cl res0 nils, 94, 1, false⟩ := by rw [e3]; exact get_new
  have tab3 : H3.oth t = some (.tab .i64 (cs.map fun x => (x.1, pv x.2.1))) := by rw [f3.oth t (oth_lt tab2) (by simp)]; exact tab2
  have blk3 : H3.get c = some ⟨[sm, .map (some t), cv iv], ty, 1, false⟩ := by rw [f3.same c (get_lt blk2) (by simp)]; exact blk2
  have D1' : ld1 (.pointer (some ⟨c, 1, none⟩)) H3 = some (.map (some t)) := ld1_pv c 1 H3 blk3
  have g2' : H3.get H.length = some ⟨evCells e s, 31, 1, false⟩ := by rw [f3.same _ (get_lt g2) (by simp)]; exact g2
  have E0'' : ld1 (.pointer (some ⟨H.length, 1, none⟩)) H3 = some (cv e.thread) := ld1_pv H.length 1 H3 g2'
  have put : Go.Proofs.YtgakioiplkehgaaA.Am.mput .i64 (.map (some t)) (cv e.thread) (pv H2.length) H3 = some (undef, H3.putO t (.tab .i64 ((cs ++ [(e.thread, H2.length, cl)]).map fun x => (x.1, pv x.2.1)))) := by
    have : tput (cs.map fun x => (x.1, pv x.2.1)) e.thread (pv H2.length) = (cs ++ [(e.thread, H2.length, cl)]).map fun x => (x.1, pv x.2.1) := by
      unfold tput
      rw [tab_idx, kx]; simp
    simp [Go.Proofs.YtgakioiplkehgaaA.Am.mput, tab3, this]
  obtain ⟨H4, e4⟩ : ∃ z, z = H3.putO t (.tab .i64 ((cs ++ [(e.thread, H2.length, cl)]).map fun x => (x.1, pv x.2.1))) := ⟨_, rfl⟩
  rw [← e4] at put
  have ot3 : ((o.from H.length (-9)).up H2.length (-22)) t = -24 := by rw [f3.own t (oth_lt tab2)]; exact p1.ot
  have f4 : Fr H3 ((o.from H.length (-9)).up H2.length (-22)) H4 ((o.from H.length (-9)).up H2.length (-22)) [-24] := by rw [e4]; exact (Fr.refl _ _ _).putO fun _ => by simp [ot3]
  have evm : eqV (.map (some t)) (.map (some t)) = true := by simp [eqV, eqV1]
  refine ⟨H4, (o.from H.length (-9)).up H2.length (-22), ?_, ((f1'.tr (f2.wk (by simp))).tr0 f3).tr (f4.wk (by simp)), fun S' h' => ?_⟩
  · simp -implicitDefEqProofs [-gt_iff_lt, F35, b1, fad_pv, nck_pv, E0, E2, E3, C1, C2, lss_int, gtr_int, nq, k1, k2, k3, pick_bool, ml, ptr_neq_nil _ uC, add_int, ← eiv, st2', D1, D1', D0, E0', E2', E0'', ldE3 g2, hsl, sub_int, hw, ab, bx, put, evm]
  · cases h'
    have cs2 : ∀ y ∈ cs, CallR H4 ((o.from H.length (-9)).up H2.length (-22)) y.2.1 y.2.2 := fun y hy => (((p1.calls y hy).fr f2 (by simp) (by simp)).fr f3 (by simp) (by simp)).fr f4 (by simp) (by simp)
    refine ⟨sm, bm, t, ms, cs ++ [(e.thread, H2.length, cl)], ty, ⟨?_, ?_, ?_, ?_, ?_, ?_, ?_, ?_⟩, em, ?_, hne, ?_⟩
    · rw [f4.same c (by have := f3.size; have := f2.size; have := x1.size; omega) (by rw [f3.own c (get_lt blk2), p1.oc]; simp), f3.same c (get_lt blk2) (by simp), blk2, eiv]
    · rw [f3.own c (get_lt blk2)]; exact p1.oc
    · rw [e4]; exact oth_putO tab3
    · exact ot3
    · exact (sl2.fr f3 (by simp)).fr f4 (by simp)
    · exact fun y hy => (((p1.maps y hy).fr f2 (by simp)).fr f3 (by simp)).fr f4 (by simp)
    · rw [List.map_append, List.nodup_append]
      refine ⟨p1.nd, by simp, fun a ha b hb => ?_⟩
      simp only [List.map_cons, List.map_nil, List.mem_singleton] at hb
      obtain ⟨y, hy, rfl⟩ := List.mem_map.1 ha
      obtain ⟨_, _, _, gy, _⟩ := p1.calls y hy
      have := get_lt gy
      have := f2.size
      omega
    · intro y hy
      rcases List.mem_append.1 hy with hy | hy
      · exact cs2 y hy
      · have : y = (e.thread, H2.length, cl) := by simpa using hy
        subst this
        exact ⟨res0, nils, _, by rw [f4.same _ (get_lt g3) (by rw [up_self]; simp)]; exact g3, up_self, ⟨_, _, _, rfl⟩, fun a ha => by rw [ecl] at ha; cases ha⟩
    · simp [ec, ecl, em]
    · intro y hy
      rcases List.mem_append.1 hy with hy | hy
      · exact hfr y hy
      · have : y = (e.thread, H2.length, cl) := by simpa using hy
        subst this
        rw [ecl]; simp only; omega
end
end Go.Proofs.Ytgakioiplkehgaa.Fun
