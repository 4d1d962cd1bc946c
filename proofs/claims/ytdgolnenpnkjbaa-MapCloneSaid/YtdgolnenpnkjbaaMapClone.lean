/- MapClone over the abstract machine. -/
import Derived.Test.YtdgolnenpnkjbaaFun3
import Derived.Test.YtdgolnenpnkjbaaFunMapClone
import Derived.Test.YtdgolnenpnkjbaaMapCol
import Derived.Test.YtdgolnenpnkjbaaFunMapClone
namespace Go.Proofs.Ytdgolnenpnkjbaa.Fun
open Go Go.RowKit Go.Proofs.YtdgolnenpnkjbaaA.Am
set_option linter.unusedVariables false
set_option linter.unusedSimpArgs false
set_option linter.unnecessarySimpa false
theorem mdel_head {x : Int × Int} {l : PL} : mdel (x :: l) x.1 = l := by
  have h0 : mplc (x :: l) x.1 = 0 := by simp [mplc, plc, List.takeWhile_cons]
  have h1 : mhas (x :: l) x.1 = true := by
    have : plc ilt (keysOf (x :: l)) x.1 = 0 := h0
    unfold mhas hasK
    rw [this]; simp
  unfold mdel
  rw [h0, h1]; simp
theorem mdel_at {l : PL} {i : Nat} (hi : i < l.length) : mdel (l.drop i) (l.getD i (0, 0)).1 = l.drop (i + 1) := by
  have e : l.getD i (0, 0) = l[i] := by rw [List.getD_eq_getElem?_getD, List.getElem?_eq_getElem hi]; rfl
  rw [e, List.drop_eq_getElem_cons hi]
  exact mdel_head
theorem ptM : Try.prog.underlying 24 = some (.pointer 48) := by kernel_rfl
section
variable {H : Heap} {o : Owner} {q pm : Nat} {l : PL}
/-- Deleting all of its keys. -/
theorem del_all {L : ALoop} {bc : Nat} {t : TypeId} {n : Nat} (hR : ∀ m y k w H, H.oth y = some (.loop L .ready) → run KG (m + 1) (Try.prog.funcs.size + y) [k, w] H = begR y H fun H => bnd (pS (ld1 (pv bc) H) H) fun x63 H => bnd (run KG m 27 [x63, k] H) fun x65 H => endR y .normal H)
    (hm : MapR H o pm l) (hc : MapR H o q l) (hb : H.get bc = some ⟨[pv q], t, 1, false⟩) (ob : o bc ≠ (q : Int)) (hne : pm ≠ q) (hn : 65536 < n) :
    ∃ H' o', rngC Try.prog.funcs.size (run KG (n + 6)) (fromG H) L (fromH H pm 0 (fnv 37 #[])) = some (.ready, H') ∧ Fr H o H' o' [(q : Int)] ∧ MapR H' o' q [] := by
  obtain ⟨C, eC⟩ : ∃ y, y = fromH H pm 0 (fnv 37 #[]) := ⟨_, rfl⟩
  have fC := fromH_fr H o pm 0 (fnv 37 #[]) (-3)
  have cm := fromH_m H pm 0 (fnv 37 #[])
  have ca := fromH_a H pm 0 (fnv 37 #[])
  have cf := fromH_f H pm 0 (fnv 37 #[])
  have lC := fromH_len H pm 0 (fnv 37 #[])
  rw [← eC] at fC cm ca cf lC ⊢
  have mC := hm.fr fC (by simp)
  have qC := hc.fr fC (by simp)
  have hml := hm.fits
  have hbl := get_lt hb
  have gC : C.get bc = some ⟨[pv q], t, 1, false⟩ := by rw [fC.same _ hbl (by simp)]; exact hb
  have oC : fromO H o (-3) bc ≠ (q : Int) := by rw [fC.own bc hbl]; exact ob
  obtain ⟨s, H', hrng, hend⟩ := from_rng (G := KG) (n := n + 5) (L := L) (J := fun i H' => ∃ o', Fr C (fromO H o (-3)) H' o' [(q : Int)] ∧ H'.oth C.length = some (.loop L .ready) ∧ MapR H' o' q (l.drop i) ∧ o' C.length = -9) (R := fun _ _ => False) (mb := fun _ => true) (ps := [(q : Int)]) (i0 := 0)
    mC.v (by simp) (by simpa using hml) (by omega) (by simp <;> omega) cm cf ca (by simp [Owner.up]) (by simp [Owner.up]) (fun H' o' _ x _ => all_may x H') (fun i H' ⟨o', e1, e2, _⟩ => ⟨⟨o', e1⟩, e2⟩) (fun _ _ h => h.elim)
    ⟨_, (Fr.refl _ _ _).newO _ (-9), oth_newO, qC.fr ((Fr.refl _ _ []).newO _ (-9)) (by simp), up_self⟩ (Nat.zero_le _)
    (by
      rintro i H' kx vx hk hv' _ _ ⟨o', f, ot, hq, oy⟩
      obtain ⟨hi, rfl⟩ := kl_at hk
      obtain rfl := vl_at hv'
      have gb : H'.get bc = some ⟨[pv q], t, 1, false⟩ := by rw [f.same _ (get_lt gC) (by simpa using oC)]; exact gC
      have hA : Fr H' o' (H'.putO C.length (.loop L .busy)) o' [-9] := (Fr.refl _ _ _).putO (fun _ => by simp [oy])
      have otA := oth_putO (d := .loop L .busy) ot
      obtain ⟨H2, r2, m2, f2⟩ := Del_runs (G := KG) (n := n) (hq.fr hA (by simp)) (l.getD i (0, 0)).1 hn
      have ot2 : H2.oth C.length = some (.loop L .busy) := by rw [f2.oth _ (oth_lt otA) (by rw [oy]; simp)]; exact otA
      have en := endR_eq (e := .normal) ot2
      simp only [LState.of] at en
      rw [mdel_at hi] at m2
      refine .inl ⟨H2.putO C.length (.loop L .ready), ?_, o', ((f.putO (fun h => by omega)).tr f2).putO (fun h => by omega), oth_putO ot2, m2.fr ((Fr.refl _ _ [-9]).putO (fun _ => by simp [oy])) (by simp), oy⟩
      rw [hR _ _ _ _ _ ot]
      simp -implicitDefEqProofs [-List.getD_eq_getElem?_getD, begR_eq ot, ld1_pv _ _ _ (get_putO (d := .loop L .busy) ot gb), r2, en, AExit.on])
  rcases hend with ⟨rfl, j, _, hj, ⟨o', f, ot, hq, oy⟩, hall⟩ | ⟨_, _, _, h, _⟩
  case inr => exact h.elim
  have hjl : j = l.length := by
    have hj' : j ≤ l.length := by simpa using hj
    rcases Nat.lt_or_ge j l.length with g | g
    · exact absurd (hall _ (keys_get g)) (by simp)
    · omega
  subst hjl
  rw [List.drop_length] at hq
  have hls := f.size
  exact ⟨H'.kill C.length, o', hrng, ((fC.wk (by simp)).tr f).kill (fun h => by omega), hq.fr ((Fr.refl _ _ [-9]).kill (fun _ => by simp [oy])) (by simp)⟩
/-- Something else is done to the first one. -/
theorem more_loop {n : Nat} {v0 w v4 v6 v17 v19 v20 v21 v7 v8 v9 v35 v54 v57 v58 v11 : Value} {more : List Int} (hv : IntsR H o (-1) w more) (hm : MapR H o pm l) (hl : l.length ≤ 200) (hn : 65536 < n) :
    ∃ H' o' l' d35, iter (n + 4) (F9_b1 (run KG (n + 4)) (n + 4)) [v0, w, v4, pv pm, v6, v17, v19, v20, v21, v7, v8, v9, cv 0, v35, v54, v57, v58, v11] H =
      some (.exit 2, [v0, w, v4, pv pm, v6, v17, v19, v20, v21, v7, v8, v9, cv (min more.length 200 : Nat), d35, v54, v57, v58, v11], H') ∧ MapR H' o' pm l' ∧ (more = [] → l' = l) ∧ Fr H o H' o' [(pm : Int)] := by
  have hvl := hv.1.len
  obtain ⟨N, hN⟩ : ∃ N, N = min more.length 200 := ⟨_, rfl⟩
  rw [← hN]
  obtain ⟨r, hit, hne, r1, r2⟩ := iter_go (step := F9_b1 (run KG (n + 4)) (n + 4))
    (Q := fun m vs H' => ∃ (i : Nat) (d : Value) (o' : Owner) (l' : PL), i ≤ N ∧ m = N - i ∧ vs = [v0, w, v4, pv pm, v6, v17, v19, v20, v21, v7, v8, v9, cv i, d, v54, v57, v58, v11] ∧ MapR H' o' pm l' ∧ l'.length ≤ 200 + i ∧ (more = [] → l' = l) ∧ Fr H o H' o' [(pm : Int)])
    (R := fun r => r.1 = .exit 2 ∧ ∃ (d : Value) (o' : Owner) (l' : PL), r.2.1 = [v0, w, v4, pv pm, v6, v17, v19, v20, v21, v7, v8, v9, cv N, d, v54, v57, v58, v11] ∧ MapR r.2.2 o' pm l' ∧ (more = [] → l' = l) ∧ Fr H o r.2.2 o' [(pm : Int)])
    (by
      rintro m vs H' ⟨i, d, o', l', hi, rfl, rfl, hm', hl', he, f⟩
      by_cases hlt : i < N
      · have h1 : (i : Int) < more.length := by omega
        have h2 : (i : Int) < 200 := by omega
        have hik : i < more.length := by omega
        obtain ⟨q, off, b, hix, hb, hc⟩ := (hv.fr f (by simp <;> omega)).1.idx hik
        obtain ⟨H3, o3, p3, m3, f3⟩ := Put_runs (n := n) hm' (more.getD i 0) (-7) (by omega) hn
        have f13 := f.tr f3
        obtain ⟨q', off', b', hix', hb', hc'⟩ := (hv.fr f13 (by simp <;> omega)).1.idx hik
        have heq := (hix H').symm.trans (hix' H')
        simp only [Option.some.injEq, Prod.mk.injEq, Value.pointer.injEq, Addr.mk.injEq, and_true] at heq
        obtain ⟨rfl, rfl⟩ := heq
        obtain ⟨H4, p4, m4, f4⟩ := Del_runs (G := KG) (n := n) m3 (IntKind.i64.wrap ((more.getD i 0).tdiv 2)) hn
        have w3 : IntKind.i64.wrap ((i : Int) + 1) = ((i + 1 : Nat) : Int) := by rw [w64 (by omega)]; omega
        refine .inl ⟨_, H4, N - (i + 1), by omega, ?_, i + 1, .bool true, o3, _, by omega, rfl, rfl, m4, ?_, ?_, f13.tr f4⟩
        · simp -implicitDefEqProofs [-List.getD_eq_getElem?_getD, -Int.natCast_add, F9_b1_v, F9_b1v, hvl, lss_int, h1, h2, pick_bool, hix, hix', ld1_pv _ _ _ hb, ld1_pv _ _ _ hb', hc, hc', quo_int, p3, p4, add_int, w3, fin]
        · have := len_mdel (mput l' (more.getD i 0) (-7)) (IntKind.i64.wrap ((more.getD i 0).tdiv 2))
          have h5 := len_mput l' (more.getD i 0) (-7)
          split at h5 <;> omega
        · intro e; subst e; simp at hik
      · have hiN : i = N := by omega
        subst hiN
        refine .inr ⟨(.exit 2, [v0, w, v4, pv pm, v6, v17, v19, v20, v21, v7, v8, v9, cv i, .bool false, v54, v57, v58, v11], H'), ?_, by simp, rfl, _, o', l', rfl, hm', he, f⟩
        by_cases h1 : (i : Int) < more.length
        · have h2 : ¬ (i : Int) < 200 := by omega
          simp -implicitDefEqProofs [F9_b1_v, F9_b1v, hvl, lss_int, h1, h2, pick_bool, fin]
        · simp -implicitDefEqProofs [F9_b1_v, F9_b1v, hvl, lss_int, h1, pick_bool, fin])
    (N - 0) [v0, w, v4, pv pm, v6, v17, v19, v20, v21, v7, v8, v9, cv (0 : Nat), v35, v54, v57, v58, v11] H ⟨0, _, o, l, Nat.zero_le _, rfl, rfl, hm, hl, fun _ => rfl, .refl _ _ _⟩ (n + 4) (by omega)
  obtain ⟨e, vs, H'⟩ := r
  simp only at r1 r2
  obtain ⟨d, o', l', rfl, hm', he, f⟩ := r2
  subst r1
  exact ⟨H', o', l', d, hit, hm', he, f⟩
end
section
variable {H : Heap}
theorem MapClone_run {v w : Value} {keys more : List Int} (hv : IntsR H o0 (-1) v keys) (hw : IntsR H o0 (-1) w more) : ∃ n H', run KG n 9 [v, w] H = some (.bool true, H') := by
  refine ⟨100001, ?_⟩
  rw [F9_eq]
  obtain ⟨H1, o1, r1, m1, f1⟩ := fill_runs (n := 99995) hv (by omega)
  have hfl := fillTo_len keys (min keys.length 200)
  obtain ⟨l, hl⟩ : ∃ l, l = fillTo keys (min keys.length 200) := ⟨_, rfl⟩
  rw [← hl] at m1 hfl
  obtain ⟨q, H2, o2, r2, m2, f2, hq⟩ := Clone_runs (G := KG) (n := 99998) m1
  have hq2 := m2.lt
  have hm1 := m1.lt
  have mm2 := m1.fr f2 (by simp)
  obtain ⟨A1, e1⟩ : ∃ A, A = H2.new ⟨[.pointer none], 24, 1, false⟩ := ⟨_, rfl⟩
  have gA1 : A1.get H2.length = some ⟨[.pointer none], 24, 1, false⟩ := by rw [e1]; exact get_new
  have lA1 : A1.length = H2.length + 1 := by rw [e1, new_len]
  obtain ⟨A2, e2⟩ : ∃ A, A = A1.put H2.length ⟨[pv q], 24, 1, false⟩ := ⟨_, rfl⟩
  have st2 := st_1 H2.length 0 (pv q) A1 gA1 rfl (by simp) rfl rfl rfl
  simp only [List.set_cons_zero, ← e2] at st2
  have gA2 : A2.get H2.length = some ⟨[pv q], 24, 1, false⟩ := by rw [e2]; exact get_put gA1
  have lA2 : A2.length = H2.length + 1 := by rw [e2, put_len, lA1]
  obtain ⟨A3, e3⟩ : ∃ A, A = A2.new ⟨[.slice none 0 0], 51, 1, false⟩ := ⟨_, rfl⟩
  have gA3 : A3.get (H2.length + 1) = some ⟨[.slice none 0 0], 51, 1, false⟩ := by
    have := get_new (H := A2) (c := ⟨[.slice none 0 0], 51, 1, false⟩); rw [lA2, ← e3] at this; exact this
  have gA3' : A3.get H2.length = some ⟨[pv q], 24, 1, false⟩ := by rw [e3, get_new_lt (by omega)]; exact gA2
  have fA : Fr H2 o2 A3 ((o2.up H2.length (-7)).up (H2.length + 1) (-6)) [] := by
    have h1 := (Fr.refl H2 o2 []).new ⟨[.pointer none], 24, 1, false⟩ (-7)
    rw [← e1] at h1
    have h2 := h1.put (i := H2.length) (c := ⟨[pv q], 24, 1, false⟩) (fun h => by omega)
    rw [← e2] at h2
    have h3 := h2.new ⟨[.slice none 0 0], 51, 1, false⟩ (-6)
    rw [← e3, lA2] at h3
    exact h3
  have mA := mm2.fr fA (by simp)
  have qA := m2.fr fA (by simp)
  have rAll := All_runs (G := KG) (n := 99998) H.length A3
  obtain ⟨B, oB, x, hrng, fB, gB, xB⟩ := collect (G := KG) (n := 99998) (L := F9_L0 [v, w, .bool false, pv H.length, pv H2.length, .bool false, fromG A3, undef, undef, pv (H2.length + 1), undef, undef, undef, undef, undef, undef, undef, undef])
    (fun m y k w H hy => by rw [F9_R0_eq (h := hy)]; kernel_rfl) mA gA3 up_self (by omega) (by omega)
  have mB := mA.fr fB (by simp)
  have qB := qA.fr fB (by simp)
  have oBc : oB H2.length = -7 := by rw [fB.own _ (get_lt gA3'), up_ne (by omega), up_self]
  have gBc : B.get H2.length = some ⟨[pv q], 24, 1, false⟩ := by rw [fB.same _ (get_lt gA3') (by rw [up_ne (by omega), up_self]; simp)]; exact gA3'
  have oBx : oB (H2.length + 1) = -6 := by rw [fB.own _ (get_lt gA3), up_self]
  have wB := (((hw.fr f1 (by simp)).fr f2 (by simp)).fr fA (by simp)).fr fB (by simp)
  obtain ⟨E, oE, l', d35, rI, mE, he, fE⟩ := more_loop (n := 99996) (v0 := v) (v4 := .bool false) (v6 := pv H2.length) (v17 := .bool false) (v19 := fromG A3) (v20 := undef) (v21 := undef) (v7 := pv (H2.length + 1)) (v8 := undef) (v9 := undef) (v35 := undef) (v54 := undef) (v57 := undef) (v58 := undef) (v11 := undef) wB mB (by omega) (by omega)
  have qE := qB.fr fE (by simp <;> omega)
  have xE := xB.fr fE (by simp <;> omega)
  have gEc : E.get H2.length = some ⟨[pv q], 24, 1, false⟩ := by rw [fE.same _ (get_lt gBc) (by rw [oBc]; simp <;> omega)]; exact gBc
  have gEx : E.get (H2.length + 1) = some ⟨[x], 51, 1, false⟩ := by rw [fE.same _ (get_lt gB) (by rw [oBx]; simp <;> omega)]; exact gB
  have oEc : oE H2.length = -7 := by rw [fE.own _ (get_lt gBc)]; exact oBc
  have oEx : oE (H2.length + 1) = -6 := by rw [fE.own _ (get_lt gB)]; exact oBx
  obtain ⟨F, oF, rS1, fF⟩ := same_runs (G := KG) (n := 99997) qE xE (by omega) (by omega)
  have mF := mE.fr fF (by simp)
  have qF := qE.fr fF (by simp)
  have xF := xE.fr fF (by simp)
  have gFc : F.get H2.length = some ⟨[pv q], 24, 1, false⟩ := by rw [fF.same _ (get_lt gEc) (by rw [oEc]; simp)]; exact gEc
  have gFx : F.get (H2.length + 1) = some ⟨[x], 51, 1, false⟩ := by rw [fF.same _ (get_lt gEx) (by rw [oEx]; simp)]; exact gEx
  have oFc : oF H2.length = -7 := by rw [fF.own _ (get_lt gEc)]; exact oEc
  have oFx : oF (H2.length + 1) = -6 := by rw [fF.own _ (get_lt gEx)]; exact oEx
  have vF := (((((hv.fr f1 (by simp)).fr f2 (by simp)).fr fA (by simp)).fr fB (by simp)).fr fE (by simp <;> omega)).fr fF (by simp)
  obtain ⟨K, oK, r3, m3, f3⟩ := fill_runs (n := 99995) vF (by omega)
  rw [← hl] at m3
  have hqF := qF.lt
  have hmF := mF.lt
  have qK := qF.fr f3 (by simp <;> omega)
  have mK := mF.fr f3 (by simp <;> omega)
  have xK := xF.fr f3 (by simp <;> omega)
  have gKc : K.get H2.length = some ⟨[pv q], 24, 1, false⟩ := by rw [f3.same _ (get_lt gFc) (by rw [oFc]; simp <;> omega)]; exact gFc
  have gKx : K.get (H2.length + 1) = some ⟨[x], 51, 1, false⟩ := by rw [f3.same _ (get_lt gFx) (by rw [oFx]; simp <;> omega)]; exact gFx
  have oKc : oK H2.length = -7 := by rw [f3.own _ (get_lt gFc)]; exact oFc
  have oKx : oK (H2.length + 1) = -6 := by rw [f3.own _ (get_lt gFx)]; exact oFx
  have rAll2 := All_runs (G := KG) (n := 99998) F.length K
  obtain ⟨M, oM, hrng2, fM, qM⟩ := del_all (n := 99994) (L := F9_L1 [v, w, .bool false, pv H.length, pv H2.length, .bool false, fromG A3, undef, undef, pv (H2.length + 1), undef, undef, cv (min more.length 200 : Nat), d35, .bool false, fromG K, undef, undef])
    (fun m y k w H hy => by rw [F9_R1_eq (h := hy)]; kernel_rfl) m3 qK gKc (by rw [oKc]; omega) (by omega) (by omega)
  have rLen := Len_runs (G := KG) (n := 99999) qM
  have mM := mK.fr fM (by simp <;> omega)
  have xM := xK.fr fM (by simp <;> omega)
  have gMc : M.get H2.length = some ⟨[pv q], 24, 1, false⟩ := by rw [fM.same _ (get_lt gKc) (by rw [oKc]; simp <;> omega)]; exact gKc
  have gMx : M.get (H2.length + 1) = some ⟨[x], 51, 1, false⟩ := by rw [fM.same _ (get_lt gKx) (by rw [oKx]; simp <;> omega)]; exact gKx
  have kn : ∀ H, run KG 100000 10 [] H = some (.bool true, H) := fun H => known_run 99999 H
  have hwl := hw.1.len
  simp only [List.length_nil, Int.natCast_zero] at rLen
  have w0 : ld1 (pv H2.length) A2 = some (pv q) := ld1_pv _ 0 _ gA2
  by_cases hmore : more = []
  · obtain rfl := he hmore
    obtain ⟨Z, oZ, rS2, fZ⟩ := same_runs (G := KG) (n := 99997) mM xM (by omega) (by omega)
    refine ⟨Z, ?_⟩
    have hml : ¬ ((more.length : Int) > 0) := by rw [hmore]; simp
    simp -implicitDefEqProofs [-gt_iff_lt, -Int.natCast_pos, F9, r1, r2, newBlk, ← e1, st2, w0, ptr_eql_nil _ ptM, ← e3, lA2, rAll, hrng, F9_j0_v, F9_j0v, rI, F9_j2_v, F9_j2v, ld1_pv _ _ _ gEc, ld1_pv _ _ _ gEx, rS1, not_bool, r3, rAll2, hrng2, F9_j3_v, F9_j3v, kn, ld1_pv _ _ _ gMc, ld1_pv _ _ _ gMx, rLen, eql_int, pick_bool, hwl, gtr_int, hml, rS2]
  · refine ⟨M, ?_⟩
    have hml : ((more.length : Int) > 0) := by have := List.length_pos_iff.2 hmore; omega
    simp -implicitDefEqProofs [-gt_iff_lt, -Int.natCast_pos, F9, r1, r2, newBlk, ← e1, st2, w0, ptr_eql_nil _ ptM, ← e3, lA2, rAll, hrng, F9_j0_v, F9_j0v, rI, F9_j2_v, F9_j2v, ld1_pv _ _ _ gEc, ld1_pv _ _ _ gEx, rS1, not_bool, r3, rAll2, hrng2, F9_j3_v, F9_j3v, kn, ld1_pv _ _ _ gMc, ld1_pv _ _ _ gMx, rLen, eql_int, pick_bool, hwl, gtr_int, hml]
end
end Go.Proofs.Ytdgolnenpnkjbaa.Fun
namespace Go.Proofs.Ytdgolnenpnkjbaa.Pure
open Go.RowKit Go.Proofs.YtdgolnenpnkjbaaA.Am Fun
theorem MapClone_law : Law Try.prog 9 [22, 22] := law_of fun H args hr hi => by
  obtain ⟨v0, _, rfl, h0, v1, _, rfl, h1, rfl⟩ := hi
  obtain ⟨w, hv, _, _⟩ := h0.ints slT (show Try.prog.underlying 2 = _ from by kernel_rfl) (by kernel_rfl)
  obtain ⟨a, hw, _, _⟩ := h1.ints slT (show Try.prog.underlying 2 = _ from by kernel_rfl) (by kernel_rfl)
  exact MapClone_run hv hw
end Go.Proofs.Ytdgolnenpnkjbaa.Pure
