
/- linear's checker: Took, Returned; each event. Over the abstract machine. -/
import Derived.Test.YtgakioiplkehgaaFun1
import Derived.Test.YtgakioiplkehgaaFun2
import Derived.Test.YtgakioiplkehgaaFun3
import Derived.Test.YtgakioiplkehgaaLinC3
namespace Go.Proofs.Ytgakioiplkehgaa.Fun
open Go Go.RowKit Go.Proofs.YtgakioiplkehgaaA.Am
set_option linter.unusedVariables false
set_option linter.unusedSimpArgs false
set_option linter.unnecessarySimpa false
set_option maxRecDepth 10000
theorem st6C {H : Heap} {k : Nat} {a0 a1 a2 a3 a4 a5 b0 b1 b2 b3 b4 b5 : Value} {t : TypeId} (r : ResV) {s : Value} {a : Option Addr} {m n : Nat} (es : s = .slice a m n) (h : H.get k = some ⟨[a0, a1, a2, a3, a4, a5, b0, b1, b2, b3, b4, b5], t, 1, false⟩) :
    stS 6 (.pointer (some ⟨k, 6, none⟩)) (resA r s) H = some (undef, H.put k ⟨[a0, a1, a2, a3, a4, a5, cv r.why, .bool r.found, cv r.key, cv r.value, cv r.n, s], t, 1, false⟩) := by
  subst es
  simp [stS, stCells, h, Value.cells, known, oneCell, splice]
theorem CallR.put_ne {H : Heap} {o : Owner} {k k' : Nat} {c : CallV} {b : Blk} (h : CallR H o k' c) (hk : k' ≠ k) (ok : o k = -22) : CallR (H.put k b) o k' c := by
  obtain ⟨r, s, ty, g, ok', hs, ht⟩ := h
  exact ⟨r, s, ty, by rw [get_put_ne hk]; exact g, ok', hs, fun a ha => ⟨(ht a ha).1, (ht a ha).2.mv fun i hi ho => ⟨get_put_ne (by rintro rfl; rw [ok] at ho; omega), ho⟩⟩⟩
theorem set_same {α : Type} {l : List α} {j : Nat} {a : α} (h : l[j]? = some a) : l.set j a = l := by
  apply List.ext_getElem?
  intro i
  rw [List.getElem?_set]
  split
  · rename_i e
    subst e
    have := (List.getElem?_eq_some_iff.1 h).1
    rw [if_pos this, h]
  · rfl
theorem nodup_idx {α : Type} {l : List α} (h : l.Nodup) {i j : Nat} {a : α} (hi : l[i]? = some a) (hj : l[j]? = some a) : i = j := by
  obtain ⟨hi1, hi2⟩ := List.getElem?_eq_some_iff.1 hi
  obtain ⟨hj1, hj2⟩ := List.getElem?_eq_some_iff.1 hj
  have hp := List.pairwise_iff_getElem.1 h
  rcases Nat.lt_trichotomy i j with g | g | g
  · exact absurd (hi2.trans hj2.symm) (hp i j hi1 hj1 g)
  · exact g
  · exact absurd (hj2.trans hi2.symm) (hp j i hj1 hi1 g)
theorem map_eraseIdx' {α β : Type} (f : α → β) (l : List α) (j : Nat) : (l.eraseIdx j).map f = (l.map f).eraseIdx j := by
  rw [List.eraseIdx_eq_take_drop_succ, List.eraseIdx_eq_take_drop_succ]
  simp [List.map_take, List.map_drop]
section
variable {H : Heap} {o : Owner} {q : Int} {n c : Nat} {S : StV} {e : EvV} {x : Value}
/-- Took. -/
theorem took_runs (h : LinR H o c S) (he : EvR H o q x e) (hms : S.maps.length ≤ 65000) (hb : ∀ m ∈ S.maps, m.length < 4194303) (hk : e.kind = 2) (hn : 4194304 < n) : StepR H o c S e (n + 18) 36 x := by
  obtain ⟨sm, bm, t, ms, cs, ty, hp, em, ec, hne, hfr⟩ := h
  obtain ⟨s, rfl, hs⟩ := he
  have hml : ms.length ≤ 65000 := by rw [em] at hms; simpa using hms
  obtain ⟨a, m', es⟩ := hs.isSlice
  unfold StepR
  rw [F36_eq]
  have b1 := boxE e es H
  obtain ⟨H1, e1⟩ : ∃ z, z = H.new ⟨evCells e s, 31, 1, false⟩ := ⟨_, rfl⟩
  rw [← e1] at b1
  have x1 : Ext H H1 := by rw [e1]; exact (Ext.refl H).new _
  have f1 := x1.fr o (-9)
  obtain ⟨o1, eo1⟩ : ∃ z, z = o.from H.length (-9) := ⟨_, rfl⟩
  rw [← eo1] at f1
  have g1 : H1.get H.length = some ⟨evCells e s, 31, 1, false⟩ := by rw [e1]; exact get_new
  have p1 := hp.fr f1
  have E0 : ld1 (.pointer (some ⟨H.length, 1, none⟩)) H1 = some (cv e.thread) := ld1_pv H.length 1 H1 g1
  have E2 : ld1 (.pointer (some ⟨H.length, 2, none⟩)) H1 = some (cv e.no) := ld1_pv H.length 2 H1 g1
  have C1 : ld1 (.pointer (some ⟨c, 1, none⟩)) H1 = some (.map (some t)) := ld1_pv c 1 H1 p1.blk
  have hkx : kidx S.calls e.thread = kidx cs e.thread := by rw [ec]; exact tab_kidx
  have f1' : Fr H o H1 o1 [-20, -21, -22, -24] := f1.wk (by simp)
  unfold step
  rw [if_neg (by omega), if_neg (by omega), if_pos hk, hkx]
  cases hx : kidx cs e.thread with
  | none =>
    have ml := mlook_no (z := .pointer none) p1.tab (n := e.thread) (by rw [tab_find, kidx_none hx]; rfl)
    refine ⟨H1, _, ?_, f1', fun S' h' => by cases h'⟩
    simp -implicitDefEqProofs [F36, b1, fad_pv, nck_pv, E0, C1, ml, ptr_eql_nil _ uC, pick_bool]
  | some j =>
    obtain ⟨y, hy1, hy2, hy3⟩ := kidx_some hx
    have hmem : y ∈ cs := List.mem_of_getElem? hy1
    have hj : j < cs.length := (List.getElem?_eq_some_iff.1 hy1).1
    have ml := mlook_yes (z := .pointer none) p1.tab (n := e.thread) (x := (y.1, pv y.2.1)) (by rw [tab_find, hy3]; rfl)
    have hcall : S.calls[j]? = some (y.1, y.2.2) := by rw [ec, List.getElem?_map, hy1]; rfl
    simp only [hcall]
    obtain ⟨yk, k, cl⟩ := y
    simp only at ml hcall hmem hy1 ⊢
    obtain ⟨rc, sc, tk, gk, okk, ⟨ac, mc, nc, esc⟩, htk⟩ := p1.calls _ hmem
    simp only at gk okk htk
    have K3 : ld1 (.pointer (some ⟨k, 3, none⟩)) H1 = some (cv cl.no) := ld1_pv k 3 H1 gk
    have K5 : ld1 (.pointer (some ⟨k, 5, none⟩)) H1 = some (.bool cl.took.isSome) := ld1_pv k 5 H1 gk
    obtain ⟨z, hz, hzm⟩ := last_ex hne
    have hnow : S.now = z.2 := now_eq em hz
    rw [hnow]
    by_cases c1 : cl.no = e.no
    case neg =>
      have c1' : decide (cl.no = e.no) = false := decide_eq_false c1
      refine ⟨H1, _, ?_, f1', fun S' h' => by rw [if_pos (.inl c1)] at h'; cases h'⟩
      rw [if_pos (.inl c1)]
      simp -implicitDefEqProofs [F36, b1, fad_pv, nck_pv, E0, E2, C1, ml, ptr_eql_nil _ uC, pick_bool, K3, neq_int, c1]
    cases c2 : cl.took.isSome with
    | true =>
      refine ⟨H1, _, ?_, f1', fun S' h' => by rw [if_pos (.inr (.inl rfl))] at h'; cases h'⟩
      rw [if_pos (.inr (.inl rfl))]
      rw [c2] at K5
      simp -implicitDefEqProofs [F36, b1, fad_pv, nck_pv, E0, E2, C1, ml, ptr_eql_nil _ uC, pick_bool, K3, K5, neq_int, c1]
    | false =>
      rw [c2] at K5
      have rnow := now_runs (G := KG) (n := n + 16) p1 (by omega) hz hne
      obtain ⟨H2, r2, x2⟩ := turns_runs (G := KG) (n := n + 11) (p1.maps z hzm) cl.op (by omega)
      have evO := eqV_opA cl.op
      cases c3 : trn z.2 cl.op with
      | false =>
        rw [c3] at r2
        refine ⟨H2, _, ?_, f1'.tr0 (x2.fr o1 (-9)), fun S' h' => by rw [if_pos (.inr (.inr rfl))] at h'; cases h'⟩
        rw [if_pos (.inr (.inr rfl))]
        simp -implicitDefEqProofs [F36, b1, fad_pv, nck_pv, E0, E2, C1, ml, ptr_eql_nil _ uC, pick_bool, K3, K5, neq_int, c1, rnow, ldC3 gk, ldC3 (x2.get gk), r2, not_bool, evO]
      | true =>
        rw [c3] at r2
        rw [if_neg (by rintro (h | h | h); exact h c1; cases h; cases h)]
        have f2 := x2.fr o1 (-9)
        obtain ⟨o2, eo2⟩ : ∃ z, z = o1.from H1.length (-9) := ⟨_, rfl⟩
        rw [← eo2] at f2
        have p2 := p1.fr f2
        have gk2 := x2.get gk
        have rnow2 := now_runs (G := KG) (n := n + 16) p2 (by omega) hz hne
        obtain ⟨ya, H3, r3, ⟨s3, eya, hs3⟩, x3⟩ := ans_runs (G := KG) (n := n + 9) (p2.maps z hzm) cl.op (by omega)
        subst eya
        have f3 := x3.fr o2 (-23)
        have hs3' : SlR H3 (o2.from H2.length (-23)) (-23) s3 (ans z.2 cl.op).list := slr_of hs3 fun i hi _ => from_ge hi
        obtain ⟨o3, eo3⟩ : ∃ z, z = o2.from H2.length (-23) := ⟨_, rfl⟩
        rw [← eo3] at f3 hs3'
        have p3 := p2.fr f3
        have gk3 := x3.get gk2
        have ok3 : o3 k = -22 := by rw [f3.own k (get_lt gk2), f2.own k (get_lt gk)]; exact okk
        obtain ⟨a3, m3, es3⟩ := hs3.isSlice
        -- what it answers is noted
        have st5 := st_1 k 5 (.bool true) H3 gk3 rfl (by simp) rfl rfl rfl
        simp only [List.set_cons_succ, List.set_cons_zero] at st5
        have st6 := st6C (ans z.2 cl.op) es3 (get_put (c := ⟨[cv cl.op.kind, cv cl.op.key, cv cl.op.value, cv cl.no, cv cl.frm, .bool true, cv rc.why, .bool rc.found, cv rc.key, cv rc.value, cv rc.n, sc], tk, 1, false⟩) gk3)
        rw [put_put] at st6
        obtain ⟨cl', ecl⟩ : ∃ cl' : CallV, cl' = { cl with took := some z.2 } := ⟨_, rfl⟩
        obtain ⟨H5, e5⟩ : ∃ z', z' = H3.put k ⟨callCells cl' (ans z.2 cl.op) s3, tk, 1, false⟩ := ⟨_, rfl⟩
        have st6' : stS 6 (.pointer (some ⟨k, 6, none⟩)) (resA (ans z.2 cl.op) s3) (H3.put k ⟨[cv cl.op.kind, cv cl.op.key, cv cl.op.value, cv cl.no, cv cl.frm, .bool true, cv rc.why, .bool rc.found, cv rc.key, cv rc.value, cv rc.n, sc], tk, 1, false⟩) = some (undef, H5) := by
          rw [st6, e5, ecl]
          rfl
        have f5 : Fr H3 o3 H5 o3 [-22] := by rw [e5]; exact (Fr.refl _ _ _).put fun _ => by simp [ok3]
        have gk5 : H5.get k = some ⟨callCells cl' (ans z.2 cl.op) s3, tk, 1, false⟩ := by rw [e5]; exact get_put gk3
        have p5 : LinP H5 o3 c sm bm t ms (cs.set j (yk, k, cl')) ty S.inv := by
          refine ⟨by rw [f5.same c (get_lt p3.blk) (by rw [p3.oc]; simp)]; exact p3.blk, p3.oc, ?_, p3.ot, p3.sl.fr f5 (by simp), fun w hw => (p3.maps w hw).fr f5 (by simp), ?_, ?_⟩
          · rw [f5.oth t (oth_lt p3.tab) (by rw [p3.ot]; simp), p3.tab, List.map_set]
            rw [set_same]
            rw [List.getElem?_map, hy1]; rfl
          · rw [List.map_set, set_same]
            · exact p3.nd
            · rw [List.getElem?_map, hy1]; rfl
          · intro w hw
            obtain ⟨i, hi⟩ := List.getElem?_of_mem hw
            by_cases hij : j = i
            · subst hij
              rw [List.getElem?_set_self hj] at hi
              cases hi
              exact ⟨ans z.2 cl.op, s3, tk, gk5, ok3, ⟨_, _, _, es3⟩, fun a ha => by
                rw [ecl] at ha
                cases ha
                exact ⟨by rw [ecl], hs3'.fr f5 (by simp)⟩⟩
            · rw [List.getElem?_set_ne hij] at hi
              have hwm : w ∈ cs := List.mem_of_getElem? hi
              have hne' : w.2.1 ≠ k := fun e => hij (nodup_idx p3.nd (a := k) (by rw [List.getElem?_map, hy1]; rfl) (by rw [List.getElem?_map, hi]; simp [e]))
              rw [e5]
              exact (p3.calls w hwm).put_ne hne' ok3
        have C5 : ld1 (pv c) H5 = some sm := ld1_pv c 0 H5 p5.blk
        have rnow5 := now_runs (G := KG) (n := n + 16) p5 (by omega) hz hne
        have op5 : cl'.op = cl.op := by rw [ecl]
        have L5 := ldC3 gk5
        rw [op5] at L5
        obtain ⟨p', H6, r6, x6, _, h6⟩ := after_runs (n := n + 9) (p5.maps z hzm) (by have := hb z.2 (by rw [em]; exact List.mem_map_of_mem hzm); omega) cl.op (by omega)
        obtain ⟨hp6, m6⟩ := h6 c3
        have f6 := x6.fr o3 p'
        obtain ⟨o6, eo6⟩ : ∃ z, z = o3.from H5.length p' := ⟨_, rfl⟩
        have m6' : MapR H6 o6 p' (aft z.2 cl.op) := m6.relabel fun i hi ho => by
          rcases Nat.lt_or_ge i H5.length with g | g
          · rw [from_lt g] at ho; omega
          · rw [eo6, from_ge g]
        rw [← eo6] at f6
        have p6 := p5.fr f6
        have C6 : ld1 (pv c) H6 = some sm := ld1_pv c 0 H6 p6.blk
        have bs := bsM1 p' H6
        obtain ⟨H7, e7⟩ : ∃ z, z = H6.new ⟨[pv p'], 48, 1, false⟩ := ⟨_, rfl⟩
        rw [← e7] at bs
        have x7 : Ext H6 H7 := by rw [e7]; exact (Ext.refl H6).new _
        have g7 : H7.get H6.length = some ⟨[pv p'], 48, 1, false⟩ := by rw [e7]; exact get_new
        have f7 := x7.fr o6 (-9)
        obtain ⟨o7, eo7⟩ : ∃ z, z = o6.from H6.length (-9) := ⟨_, rfl⟩
        rw [← eo7] at f7
        have p7 := p6.fr f7
        have m7 := m6'.fr f7 (by simp)
        have C7 : ld1 (pv c) H7 = some sm := ld1_pv c 0 H7 p7.blk
        obtain ⟨s', H8, o8, b8, ra, sl8, f8, ow8⟩ := p7.sl.app1 (tE := 48) (by_ := 8) g7 rfl (by omega) (by simp; omega)
        have blk8 : H8.get c = some ⟨[sm, .map (some t), cv S.inv], ty, 1, false⟩ := by rw [f8.same c (get_lt p7.blk) (by rw [p7.oc]; simp)]; exact p7.blk
        have oc8 : o8 c = -20 := by rw [f8.own c (get_lt p7.blk)]; exact p7.oc
        have st9 := st_1 c 0 s' H8 blk8 rfl (by simp) (by obtain ⟨a, k, c, rfl⟩ := sl8.isSlice; rfl) (by obtain ⟨a, k, c, rfl⟩ := sl8.isSlice; rfl) (by obtain ⟨a, k, c, rfl⟩ := sl8.isSlice; rfl)
        simp only [List.set_cons_zero] at st9
        obtain ⟨H9, e9⟩ : ∃ z, z = H8.put c ⟨[s', .map (some t), cv S.inv], ty, 1, false⟩ := ⟨_, rfl⟩
        rw [← e9] at st9
        have f9 : Fr H8 o8 H9 o8 [-20] := by rw [e9]; exact (Fr.refl _ _ _).put fun _ => by simp [oc8]
        have evS := p1.sl.eqV
        have nq : abin Try.prog .neq 3 (cv cl.no) (cv e.no) = some (.bool false) := by rw [neq_int, c1]; simp
        have fA : Fr H o H9 o8 [-20, -21, -22, -24] := ((((((f1'.tr0 f2).tr0 f3).tr (f5.wk (by simp))).tr0 f6).tr0 f7).tr (f8.wk (by simp))).tr (f9.wk (by simp))
        refine ⟨H9, o8, ?_, fA, fun S' h' => ?_⟩
        · simp -implicitDefEqProofs [F36, b1, fad_pv, nck_pv, E0, E2, C1, ml, ptr_eql_nil _ uC, pick_bool, K3, K5, nq, rnow, ldC3 gk, ldC3 gk2, ldC3 gk3, r2, not_bool, evO, rnow2, r3, st5, st6', C5, rnow5, L5, r6, C6, C7, bs, ra, st9, evS]
        · cases h'
          have tab8 : H8.oth t = some (.tab .i64 ((cs.set j (yk, k, cl')).map fun x => (x.1, pv x.2.1))) := by rw [f8.oth t (oth_lt p7.tab) (by rw [p7.ot]; simp)]; exact p7.tab
          refine ⟨s', b8, t, ms ++ [(p', aft z.2 cl.op)], cs.set j (yk, k, cl'), ty, ⟨by rw [e9]; exact get_put blk8, oc8, ?_, ?_, ?_, ?_, p7.nd, ?_⟩, by simp [em], ?_, by simp, ?_⟩
          · rw [f9.oth t (oth_lt tab8) (by rw [f8.own t (oth_lt p7.tab), p7.ot]; simp)]
            exact tab8
          · rw [f8.own t (oth_lt p7.tab)]; exact p7.ot
          · have := sl8.fr f9 (by simp)
            simpa using this
          · intro w hw
            rcases List.mem_append.1 hw with hw | hw
            · exact ((p7.maps w hw).fr f8 (by simp)).fr f9 (by simp)
            · have : w = (p', aft z.2 cl.op) := by simpa using hw
              subst this
              exact (m7.fr f8 (by simp)).fr f9 (by simp)
          · exact fun w hw => ((p7.calls w hw).fr f8 (by simp) (by simp)).fr f9 (by simp) (by simp)
          · rw [ec, List.map_set, ecl]
          · intro w hw
            rw [List.length_append]
            rcases List.mem_or_eq_of_mem_set hw with hw | rfl
            · have := hfr w hw; omega
            · have := hfr _ hmem
              rw [ecl]; simp only at this ⊢; omega
/-- Returned. -/
theorem returned_runs (h : LinR H o c S) (he : EvR H o q x e) (hl : e.res.list.length ≤ 4194304) (hms : S.maps.length ≤ 65000) (hk : e.kind = 3) (hn : 4194304 < n) : StepR H o c S e (n + 18) 37 x := by
  obtain ⟨sm, bm, t, ms, cs, ty, hp, em, ec, hne, hfr⟩ := h
  obtain ⟨s, rfl, hs⟩ := he
  have hml : ms.length ≤ 65000 := by rw [em] at hms; simpa using hms
  obtain ⟨a, m', es⟩ := hs.isSlice
  unfold StepR
  rw [F37_eq]
  have b1 := boxE e es H
  obtain ⟨H1, e1⟩ : ∃ z, z = H.new ⟨evCells e s, 31, 1, false⟩ := ⟨_, rfl⟩
  rw [← e1] at b1
  have x1 : Ext H H1 := by rw [e1]; exact (Ext.refl H).new _
  have f1 := x1.fr o (-9)
  have g1 : H1.get H.length = some ⟨evCells e s, 31, 1, false⟩ := by rw [e1]; exact get_new
  have p1 := hp.fr f1
  have E0 : ld1 (.pointer (some ⟨H.length, 1, none⟩)) H1 = some (cv e.thread) := ld1_pv H.length 1 H1 g1
  have E2 : ld1 (.pointer (some ⟨H.length, 2, none⟩)) H1 = some (cv e.no) := ld1_pv H.length 2 H1 g1
  have C1 : ld1 (.pointer (some ⟨c, 1, none⟩)) H1 = some (.map (some t)) := ld1_pv c 1 H1 p1.blk
  have hkx : kidx S.calls e.thread = kidx cs e.thread := by rw [ec]; exact tab_kidx
  have f1' : Fr H o H1 (o.from H.length (-9)) [-20, -21, -22, -24] := f1.wk (by simp)
  unfold step
  rw [if_neg (by omega), if_neg (by omega), if_neg (by omega), if_pos hk, hkx]
  cases hx : kidx cs e.thread with
  | none =>
    have ml := mlook_no (z := .pointer none) p1.tab (n := e.thread) (by rw [tab_find, kidx_none hx]; rfl)
    refine ⟨H1, _, ?_, f1', fun S' h' => by cases h'⟩
    simp -implicitDefEqProofs [F37, b1, fad_pv, nck_pv, E0, C1, ml, ptr_eql_nil _ uC, pick_bool]
  | some j =>
    obtain ⟨y, hy1, hy2, hy3⟩ := kidx_some hx
    have hmem : y ∈ cs := List.mem_of_getElem? hy1
    have ml := mlook_yes (z := .pointer none) p1.tab (n := e.thread) (x := (y.1, pv y.2.1)) (by rw [tab_find, hy3]; rfl)
    have hcall : S.calls[j]? = some (y.1, y.2.2) := by rw [ec, List.getElem?_map, hy1]; rfl
    simp only [hcall]
    obtain ⟨yk, k, cl⟩ := y
    simp only at ml hcall hmem hy1 ⊢
    have hcl := p1.calls _ hmem
    have hcl2 := hcl
    obtain ⟨rc, sc, tk, gk, okk, ⟨ac, mc, nc, esc⟩, htk⟩ := hcl2
    simp only at gk okk htk
    have K3 : ld1 (.pointer (some ⟨k, 3, none⟩)) H1 = some (cv cl.no) := ld1_pv k 3 H1 gk
    by_cases c1 : cl.no = e.no
    case neg =>
      refine ⟨H1, _, ?_, f1', fun S' h' => by rw [if_pos (.inl c1)] at h'; cases h'⟩
      rw [if_pos (.inl c1)]
      simp -implicitDefEqProofs [F37, b1, fad_pv, nck_pv, E0, E2, C1, ml, ptr_eql_nil _ uC, pick_bool, K3, neq_int, c1]
    obtain ⟨H2, r2, x2⟩ := may_runs (n := n + 4) p1 (by omega) hne hcl (hfr _ hmem) (hs.fr f1 (by simp)) hl (by omega)
    rw [← em] at r2
    cases c2 : may S.maps cl e.res with
    | false =>
      rw [c2] at r2
      refine ⟨H2, _, ?_, f1'.tr0 (x2.fr _ (-9)), fun S' h' => by rw [if_pos (.inr rfl)] at h'; cases h'⟩
      rw [if_pos (.inr rfl)]
      simp -implicitDefEqProofs [F37, b1, fad_pv, nck_pv, E0, E2, C1, ml, ptr_eql_nil _ uC, pick_bool, K3, neq_int, c1, ldE6 g1, r2, not_bool]
    | true =>
      rw [c2] at r2
      rw [if_neg (by rintro (h | h); exact h c1; cases h)]
      have f2 := x2.fr (o.from H.length (-9)) (-9)
      have p2 := p1.fr f2
      have D1 : ld1 (.pointer (some ⟨c, 1, none⟩)) H2 = some (.map (some t)) := ld1_pv c 1 H2 p2.blk
      have D0 : ld1 (.pointer (some ⟨H.length, 1, none⟩)) H2 = some (cv e.thread) := ld1_pv H.length 1 H2 (x2.get g1)
      have del : Go.Proofs.YtgakioiplkehgaaA.Am.mdel .i64 (.map (some t)) (cv e.thread) H2 = some (undef, H2.putO t (.tab .i64 ((cs.eraseIdx j).map fun x => (x.1, pv x.2.1)))) := by
        have : tdel (cs.map fun x => (x.1, pv x.2.1)) e.thread = (cs.eraseIdx j).map fun x => (x.1, pv x.2.1) := by
          unfold tdel
          rw [tab_idx, hx, map_eraseIdx']
        simp [Go.Proofs.YtgakioiplkehgaaA.Am.mdel, p2.tab, this]
      obtain ⟨H3, e3⟩ : ∃ z, z = H2.putO t (.tab .i64 ((cs.eraseIdx j).map fun x => (x.1, pv x.2.1))) := ⟨_, rfl⟩
      rw [← e3] at del
      have f3 : Fr H2 ((o.from H.length (-9)).from H1.length (-9)) H3 ((o.from H.length (-9)).from H1.length (-9)) [-24] := by rw [e3]; exact (Fr.refl _ _ _).putO fun _ => by simp [p2.ot]
      refine ⟨H3, _, ?_, (f1'.tr0 f2).tr (f3.wk (by simp)), fun S' h' => ?_⟩
      · simp -implicitDefEqProofs [F37, b1, fad_pv, nck_pv, E0, E2, C1, ml, ptr_eql_nil _ uC, pick_bool, K3, neq_int, c1, ldE6 g1, r2, not_bool, D1, D0, del]
      · cases h'
        have sub := List.eraseIdx_sublist cs j
        refine ⟨sm, bm, t, ms, cs.eraseIdx j, ty, ⟨?_, p2.oc, ?_, p2.ot, p2.sl.fr f3 (by simp), fun w hw => (p2.maps w hw).fr f3 (by simp), p2.nd.sublist (sub.map _), fun w hw => (p2.calls w (sub.subset hw)).fr f3 (by simp) (by simp)⟩, em, ?_, hne, fun w hw => hfr w (sub.subset hw)⟩
        · rw [f3.same c (get_lt p2.blk) (by rw [p2.oc]; simp)]; exact p2.blk
        · rw [e3]; exact oth_putO p2.tab
        · rw [ec, map_eraseIdx']
/-- Any event. -/
theorem right_runs (h : LinR H o c S) (he : EvR H o q x e) (hl : e.res.list.length ≤ 4194303) (hms : S.maps.length ≤ 65000) (hb : ∀ m ∈ S.maps, m.length < 4194303) (hn : 4194304 < n) : StepR H o c S e (n + 19) 20 x := by
  obtain ⟨s, rfl, hs⟩ := he
  obtain ⟨a, m', es⟩ := hs.isSlice
  unfold StepR
  rw [F20_eq]
  have b1 := boxE e es H
  obtain ⟨H1, e1⟩ : ∃ z, z = H.new ⟨evCells e s, 31, 1, false⟩ := ⟨_, rfl⟩
  rw [← e1] at b1
  have x1 : Ext H H1 := by rw [e1]; exact (Ext.refl H).new _
  have f1 := x1.fr o (-9)
  have g1 : H1.get H.length = some ⟨evCells e s, 31, 1, false⟩ := by rw [e1]; exact get_new
  have E0 : ld1 (pv H.length) H1 = some (cv e.kind) := ld1_pv H.length 0 H1 g1
  have he1 : EvR H1 (o.from H.length (-9)) q (evA e s) e := ⟨s, rfl, hs.fr f1 (by simp)⟩
  have h1 : LinR H1 (o.from H.length (-9)) c S := by
    obtain ⟨sm, bm, t, ms, cs, ty, hp, h2⟩ := h
    exact ⟨sm, bm, t, ms, cs, ty, hp.fr f1, h2⟩
  have L13 := ldE13 g1
  have f1' : Fr H o H1 (o.from H.length (-9)) [-20, -21, -22, -24] := f1.wk (by simp)
  by_cases k4 : e.kind = 4
  · obtain ⟨H', o', r, f, hS⟩ := loaded_runs (n := n) h1 he1 hl hms k4 hn
    refine ⟨H', o', ?_, f1'.tr f, hS⟩
    simp -implicitDefEqProofs [F20, b1, fad_pv, E0, k4, eql_int, L13, r]
  by_cases k1 : e.kind = 1
  · obtain ⟨H', o', r, f, hS⟩ := begun_runs (n := n) h1 he1 hms k1
    refine ⟨H', o', ?_, f1'.tr f, hS⟩
    simp -implicitDefEqProofs [F20, b1, fad_pv, E0, k1, eql_int, L13, r]
  by_cases k2 : e.kind = 2
  · obtain ⟨H', o', r, f, hS⟩ := took_runs (n := n) h1 he1 hms hb k2 hn
    refine ⟨H', o', ?_, f1'.tr f, hS⟩
    simp -implicitDefEqProofs [F20, b1, fad_pv, E0, k2, eql_int, L13, r]
  by_cases k3 : e.kind = 3
  · obtain ⟨H', o', r, f, hS⟩ := returned_runs (n := n) h1 he1 (by omega) hms k3 hn
    refine ⟨H', o', ?_, f1'.tr f, hS⟩
    simp -implicitDefEqProofs [F20, b1, fad_pv, E0, k3, eql_int, L13, r]
  · have hstep : step S e = none := by unfold step; rw [if_neg k4, if_neg k1, if_neg k2, if_neg k3]
    refine ⟨H1, _, ?_, f1', fun S' h' => by rw [hstep] at h'; cases h'⟩
    rw [hstep]
    simp -implicitDefEqProofs [F20, b1, fad_pv, E0, k1, k2, k3, k4, eql_int]
end
end Go.Proofs.Ytgakioiplkehgaa.Fun
