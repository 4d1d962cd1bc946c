/- MapTexts over the abstract machine. -/
import Derived.Test.YtdgolnenpnkjbaaFun1
import Derived.Test.YtdgolnenpnkjbaaFunMapTexts
import Derived.Test.YtdgolnenpnkjbaaTex
import Derived.Test.YtdgolnenpnkjbaaMapFill
import Derived.Test.YtdgolnenpnkjbaaFunMapTexts
namespace Go.Proofs.Ytdgolnenpnkjbaa.Fun
open Go Go.RowKit Go.Proofs.YtdgolnenpnkjbaaA.Am
set_option linter.unusedVariables false
set_option linter.unusedSimpArgs false
set_option linter.unnecessarySimpa false
theorem blT : Try.prog.underlying 4 = some .bool := by kernel_rfl
/-! texts that came in -/
def StrsR (H : Heap) (o : Owner) (q : Int) (x : Value) (l : List ByteArray) : Prop :=
  (x = .slice none 0 0 ∧ l = []) ∨ ∃ i c, x = .slice (some ⟨i, 0, none⟩) l.length c ∧ (l ≠ [] → ∃ b, H.get i = some b ∧ o i = q ∧ ∀ j (h : j < l.length), b.cells[j]? = some (.string l[j]))
theorem StrsR.fr {H H' : Heap} {o o' : Owner} {q : Int} {x : Value} {l : List ByteArray} {ps : List Int} (h : StrsR H o q x l) (f : Fr H o H' o' ps) (hp : q ∉ ps) : StrsR H' o' q x l := by
  rcases h with h | ⟨i, c, h1, h2⟩
  · exact .inl h
  · refine .inr ⟨i, c, h1, fun hne => ?_⟩
    obtain ⟨b, k1, k2, k3⟩ := h2 hne
    exact ⟨b, by rw [f.same i (get_lt k1) (by rw [k2]; exact hp)]; exact k1, by rw [f.own i (get_lt k1)]; exact k2, k3⟩
theorem StrsR.len {H : Heap} {o : Owner} {q : Int} {x : Value} {l : List ByteArray} (h : StrsR H o q x l) : slen x = some (cv l.length) := by
  rcases h with ⟨rfl, rfl⟩ | ⟨i, c, rfl, _⟩ <;> rfl
theorem StrsR.idx {H : Heap} {o : Owner} {q : Int} {x : Value} {l : List ByteArray} (h : StrsR H o q x l) {j : Nat} (hj : j < l.length) :
    ∃ i, (∀ H', iadS 1 x (cv j) H' = some (.pointer (some ⟨i, j, none⟩), H')) ∧ ld1 (.pointer (some ⟨i, j, none⟩)) H = some (.string l[j]) := by
  rcases h with ⟨rfl, rfl⟩ | ⟨i, c, rfl, h2⟩
  · simp at hj
  · obtain ⟨b, k1, k2, k3⟩ := h2 (by rintro rfl; simp at hj)
    refine ⟨i, fun H' => ?_, ?_⟩
    · simp only [iadS]; rw [if_pos (by constructor <;> omega)]; simp
    · rw [ld1_pv _ _ _ k1]; exact k3 j hj
section
variable {P : Program} {f : Nat} {t e : TypeId} {H : Heap}
theorem In.str (ht : P.underlying t = some .string) {cs : List Value} (h : In P H (f + 1) t cs) : ∃ a, cs = [.string a] := by
  simp only [In, ht] at h
  obtain ⟨n, rfl, h⟩ := h
  exact ⟨n, rfl⟩
theorem In.strs (ht : P.underlying t = some (.slice e)) (he : P.underlying e = some .string) (hc : P.cellsOf e = 1) {cs : List Value} (h : In P H (f + 2) t cs) :
    ∃ v l, cs = [v] ∧ StrsR H o0 (-1) v l := by
  rcases h.slice ht with rfl | ⟨i, es, rfl, hm, hg, hall⟩
  · exact ⟨_, [], rfl, .inl ⟨rfl, rfl⟩⟩
  · have : ∃ l : List ByteArray, es = l.map (fun x => [.string x]) := by
      clear h hm hg
      induction es with
      | nil => exact ⟨[], rfl⟩
      | cons y es ih =>
        obtain ⟨l, rfl⟩ := ih (fun x hx => hall x (List.mem_cons_of_mem _ hx))
        obtain ⟨a, rfl⟩ := In.str he (hall y (List.mem_cons_self ..)).2
        exact ⟨a :: l, rfl⟩
    obtain ⟨l, rfl⟩ := this
    have hfl : (l.map (fun x => [Value.string x])).flatten = l.map Value.string := by
      clear h hm hg hall
      induction l with
      | nil => rfl
      | cons a l ih => simp [ih]
    rw [hfl] at hg
    simp only [List.length_map] at hg
    refine ⟨_, l, rfl, .inr ⟨i, l.length, by simp, fun hne => ⟨_, hg (List.length_pos_iff.2 hne), rfl, fun j hj => by simp [hj]⟩⟩⟩
theorem InArg.strs (ht : P.underlying t = some (.slice e)) (he : P.underlying e = some .string) (hc : P.cellsOf e = 1) {v : Value} (h : InArg P H (f + 2) t v) : ∃ l, StrsR H o0 (-1) v l := by
  obtain ⟨v', l, h1, h2⟩ := In.strs ht he hc (h.one (by simp [ht])); cases h1; exact ⟨l, h2⟩
end
/-- A round that looks whether the keys rise. -/
noncomputable def texB (i : Nat) (v2 v5 v6 a0 : Value) (H : Heap) : Option (Value × Heap) :=
  bnd (some (a0, H)) fun x82 H =>
  begR i H fun H =>
  bnd (pS (ld1 v6 H) H) fun x83 H =>
  bnd (pS (abin Try.prog .gtr 3 x83 (Value.int .i64 (0))) H) fun x84 H =>
  bnd (some (x84, H)) fun x85 H =>
  bnd (gd (wantV x85 true) (some (x82, H)) H) fun x86 H =>
  bnd (gd (wantV x85 true) (pS (ld1 v5 H) H) H) fun x87 H =>
  bnd (gd (wantV x85 true) (pS (abin Try.prog .leq 9 x86 x87) H) H) fun x88 H =>
  bnd (pickS x85 x88 (Value.bool false) H) fun x89 H =>
  brB x89 (bnd (stS 1 v2 (Value.bool false) H) fun x90 H =>
  endR i .ret H) (
  bnd (some (x82, H)) fun x91 H =>
  bnd (stS 1 v5 x91 H) fun x92 H =>
  bnd (pS (ld1 v6 H) H) fun x93 H =>
  bnd (pS (abin Try.prog .add 3 x93 (Value.int .i64 (1))) H) fun x94 H =>
  bnd (stS 1 v6 x94 H) fun x95 H =>
  endR i .normal H)
section
variable {G : Oracle} {H : Heap} {o : Owner} {p : Nat} {ks : List ByteArray} {vs : List Bool} {n : Nat}
def lastOf (ks : List ByteArray) : Nat → ByteArray
  | 0 => ⟨#[]⟩
  | i + 1 => ks.getD i ⟨#[]⟩
theorem tex_loop {L : ALoop} {b5 b6 : Nat} {v2 : Value} {ts ti : TypeId} (hR : ∀ m y k w H, H.oth y = some (.loop L .ready) → run G (m + 1) (Try.prog.funcs.size + y) [k, w] H = texB y v2 (pv b5) (pv b6) k H) (h : TexR H o p ks vs) (hl : ks.length ≤ 60000)
    (h5 : H.get b5 = some ⟨[.string ⟨#[]⟩], ts, 1, false⟩) (o5 : o b5 = -11) (h6 : H.get b6 = some ⟨[cv 0], ti, 1, false⟩) (o6 : o b6 = -12) (hn : 65536 < n) :
    ∃ H' o', rngC Try.prog.funcs.size (run G (n + 2)) (S.fromG H) L (S.fromH H p 0 (fnv 42 #[])) = some (.ready, H') ∧ Fr H o H' o' [-11, -12] ∧ H'.get b6 = some ⟨[cv ks.length], ti, 1, false⟩ := by
  obtain ⟨C, eC⟩ : ∃ y, y = S.fromH H p 0 (fnv 42 #[]) := ⟨_, rfl⟩
  have fC := S.fromH_fr H o p 0 (fnv 42 #[]) (-13)
  have cm := S.fromH_m H p 0 (fnv 42 #[])
  have ca := S.fromH_a H p 0 (fnv 42 #[])
  have cf := S.fromH_f H p 0 (fnv 42 #[])
  have lC := S.fromH_len H p 0 (fnv 42 #[])
  rw [← eC] at fC cm ca cf lC ⊢
  have asc := h.asc
  have hs := h.same
  have l5 := get_lt h5
  have l6 := get_lt h6
  have n56 : b5 ≠ b6 := by rintro rfl; rw [o5] at o6; omega
  have g5 : C.get b5 = some ⟨[.string ⟨#[]⟩], ts, 1, false⟩ := by rw [fC.same _ l5 (by simp)]; exact h5
  have g6 : C.get b6 = some ⟨[cv 0], ti, 1, false⟩ := by rw [fC.same _ l6 (by simp)]; exact h6
  obtain ⟨oC, eoC⟩ : ∃ z, z = S.fromO H o (-13) := ⟨_, rfl⟩
  have oCb : ∀ i, H.length ≤ i → i < H.length + 3 → oC i = -13 := by
    intro i h1 h2
    rw [eoC]
    rcases (by omega : i = H.length ∨ i = H.length + 1 ∨ i = H.length + 2) with rfl | rfl | rfl <;> simp [S.fromO, Owner.up]
  rw [← eoC] at fC
  have mC := h.fr fC (by simp)
  have c5 : oC b5 = -11 := by rw [fC.own b5 l5]; exact o5
  have c6 : oC b6 = -12 := by rw [fC.own b6 l6]; exact o6
  obtain ⟨s, H', hrng, hend⟩ := S.from_rng (G := G) (n := n + 1) (L := L) (o1 := oC)
    (J := fun i H' => (∃ o', Fr C oC H' o' [-11, -12]) ∧ H'.oth C.length = some (.loop L .ready) ∧ H'.get b5 = some ⟨[.string (lastOf ks i)], ts, 1, false⟩ ∧ H'.get b6 = some ⟨[cv i], ti, 1, false⟩) (R := fun _ _ => False) (mb := fun _ => true) (ps := [-11, -12]) (i0 := 0)
    (mC).v (by simpa using hs) (by simp; omega) (by omega) (by simp <;> omega) cm cf ca (by rw [oCb _ (by omega) (by omega)]; simp) (by rw [oCb _ (by omega) (by omega)]; simp) (fun H' o' _ x _ => S.all_may x H') (fun i H' ⟨e1, e2, _⟩ => ⟨e1, e2⟩) (fun _ _ h => h.elim)
    ⟨⟨_, (Fr.refl _ _ _).newO _ 0⟩, oth_newO, by rw [get_slot (slot_newO (get_lt g5))]; exact g5, by rw [get_slot (slot_newO (get_lt g6))]; exact g6⟩ (Nat.zero_le _)
    (by
      rintro i H' kx vx hk hv' _ _ ⟨⟨o', f⟩, ot, k5, k6⟩
      have hi : i < ks.length := by
        have := (List.getElem?_eq_some_iff.1 hk).1
        simpa using this
      have hkx : kx = .string ks[i] := by
        rw [svs_get hi] at hk
        exact (Option.some.inj hk).symm
      subst hkx
      obtain ⟨A, eA⟩ : ∃ A, A = H'.putO C.length (.loop L .busy) := ⟨_, rfl⟩
      have otA : A.oth C.length = some (.loop L .busy) := by rw [eA]; exact oth_putO ot
      have a5 : A.get b5 = some ⟨[.string (lastOf ks i)], ts, 1, false⟩ := by rw [eA]; exact get_putO ot k5
      have a6 : A.get b6 = some ⟨[cv i], ti, 1, false⟩ := by rw [eA]; exact get_putO ot k6
      have fA : Fr C oC A o' [-11, -12] := by rw [eA]; exact f.putO (fun h => by omega)
      have s5 := st_1 b5 0 (.string ks[i]) A a5 rfl (by simp) rfl rfl rfl
      simp only [List.set_cons_zero] at s5
      have d6 : (A.put b5 ⟨[.string ks[i]], ts, 1, false⟩).get b6 = some ⟨[cv i], ti, 1, false⟩ := by rw [get_put_ne n56.symm]; exact a6
      have hw : IntKind.i64.wrap ((i : Int) + 1) = ((i + 1 : Nat) : Int) := by rw [w64 (by omega)]; omega
      have s6 := st_1 b6 0 (cv (i + 1 : Nat)) _ d6 rfl (by simp) rfl rfl rfl
      simp only [List.set_cons_zero] at s6
      obtain ⟨E, eE⟩ : ∃ E, E = (A.put b5 ⟨[.string ks[i]], ts, 1, false⟩).put b6 ⟨[cv (i + 1 : Nat)], ti, 1, false⟩ := ⟨_, rfl⟩
      rw [← eE] at s6
      have e5 : E.get b5 = some ⟨[.string ks[i]], ts, 1, false⟩ := by rw [eE, get_put_ne n56]; exact get_put a5
      have e6 : E.get b6 = some ⟨[cv (i + 1 : Nat)], ti, 1, false⟩ := by rw [eE]; exact get_put d6
      have otE : E.oth C.length = some (.loop L .busy) := by
        rw [eE]
        exact oth_put' (oth_put' otA (oth_ne otA a5)) (oth_ne otA a6)
      have en := endR_eq (e := .normal) otE
      simp only [LState.of] at en
      refine .inl ⟨E.putO C.length (.loop L .ready), ?_, ⟨o', ?_⟩, oth_putO otE, get_putO otE (by rw [e5]; simp [lastOf, hi]), get_putO otE e6⟩
      · rw [hR _ _ _ _ _ ot]
        unfold texB
        cases i with
        | zero =>
          have hw0 : IntKind.i64.wrap 1 = 1 := w64 (by omega)
          have s6' : stS 1 (pv b6) (cv 1) (A.put b5 ⟨[.string ks[0]], ts, 1, false⟩) = some (undef, E) := s6
          simp -implicitDefEqProofs [begR_eq ot, ← eA, ld1_pv _ _ _ a6, gtr_int, pick_bool, s5, ld1_pv _ _ _ d6, add_int, hw0, s6', en, AExit.on]
        | succ j =>
          have hj : j < ks.length := by omega
          have hlt := List.pairwise_iff_getElem.1 asc j (j + 1) hj hi (by omega)
          have q1 : slt ks[j + 1] ks[j] = false := slt_asym hlt
          have q2 : ¬ ks[j + 1] = ks[j] := fun e => slt_ne hlt e.symm
          have q3 : lastOf ks (j + 1) = ks[j] := by simp [lastOf, hj]
          rw [q3] at a5
          have q4 : ((j + 1 : Nat) : Int) > 0 := by omega
          simp -implicitDefEqProofs [-Int.natCast_add, -gt_iff_lt, begR_eq ot, ← eA, ld1_pv _ _ _ a6, ld1_pv _ _ _ a5, gtr_int, q4, leq_str, q1, q2, pick_bool, s5, ld1_pv _ _ _ d6, add_int, hw, s6, en, AExit.on]
      · rw [eE]
        exact ((fA.put (fun _ => by simp [f.own b5 (get_lt g5), c5])).put (fun _ => by simp [f.own b6 (get_lt g6), c6])).putO (fun h => by omega))
  rcases hend with ⟨rfl, j, _, hj, ⟨⟨o', f⟩, ot, k5, k6⟩, hall⟩ | ⟨_, _, _, h, _⟩
  case inr => exact h.elim
  have hjl : j = ks.length := by
    have hj' : j ≤ ks.length := by simpa using hj
    rcases Nat.lt_or_ge j ks.length with g | g
    · exact absurd (hall _ (svs_get g)) (by simp)
    · omega
  subst hjl
  refine ⟨H'.kill C.length, o', hrng, ((fC.wk (by simp)).tr f).kill (fun h => by omega), ?_⟩
  rw [get_kill_ne (by omega)]; exact k6
theorem abT0 : abuild Try.prog 38 [] = some (.agg #[.slice none 0 0, .slice none 0 0]) := by kernel_rfl
theorem MapTexts_run {v : Value} {t : List ByteArray} (hv : StrsR H o0 (-1) v t) : ∃ n H', run KG n 4 [v] H = some (.bool true, H') := by
  refine ⟨100001, ?_⟩
  rw [F4_eq]
  have kn : ∀ H, run KG 100000 10 [] H = some (.bool true, H) := fun H => known_run 99999 H
  have hvl := hv.len
  obtain ⟨H1, e1⟩ : ∃ x, x = H.new ⟨[.bool false], 4, 1, false⟩ := ⟨_, rfl⟩
  have l1 : H1.length = H.length + 1 := by rw [e1, new_len]
  have g1 : H1.get H.length = some ⟨[.bool false], 4, 1, false⟩ := by rw [e1]; exact get_new
  have f1 : Fr H o0 H1 (Owner.up o0 H.length (-5)) [] := by rw [e1]; exact (Fr.refl _ _ _).new _ _
  have b2 := boxM 38 H1
  obtain ⟨H2, e2⟩ : ∃ x, x = H1.new ⟨[.slice none 0 0, .slice none 0 0], 38, 1, false⟩ := ⟨_, rfl⟩
  rw [← e2, l1] at b2
  have m2 : TexR H2 ((Owner.up o0 H.length (-5)).up H1.length H1.length) (H.length + 1) [] [] := by rw [e2, ← l1]; exact TexR.fresh _ _ _
  have f2 : Fr H1 (Owner.up o0 H.length (-5)) H2 ((Owner.up o0 H.length (-5)).up H1.length H1.length) [] := by rw [e2]; exact (Fr.refl _ _ _).new _ _
  obtain ⟨o2, eo2⟩ : ∃ z, z = (Owner.up o0 H.length (-5)).up H1.length H1.length := ⟨_, rfl⟩
  have oo : o2 H.length = -5 := by rw [eo2, up_ne (by omega), up_self]
  rw [← eo2] at m2 f2
  have v2 := (hv.fr f1 (by simp)).fr f2 (by simp)
  have g2 : H2.get H.length = some ⟨[.bool false], 4, 1, false⟩ := by rw [f2.same _ (by omega) (by simp)]; exact g1
  obtain ⟨N, hN⟩ : ∃ N, N = min t.length 100 := ⟨_, rfl⟩
  have hpm : ∀ q : Int, q < 0 → q ∉ [((H.length + 1 : Nat) : Int)] := fun q hq h => by simp at h; omega
  obtain ⟨r, hit, hne, r1, r2⟩ := iter_go (step := F4_b0 (run KG 100000) 100000)
    (Q := fun m vs H' => ∃ (i : Nat) (o' : Owner) (ks : List ByteArray) (bs : List Bool) (d : Value), i ≤ N ∧ m = N - i ∧ vs = [v, pv H.length, .bool false, cv i, d, pv (H.length + 1), undef, undef, undef, undef, undef, undef, undef, undef, undef, undef] ∧
      TexR H' o' (H.length + 1) ks bs ∧ ks.length ≤ i ∧ (∀ j (h : j < t.length), j < i → t[j] ∈ ks) ∧ Fr H2 o2 H' o' [((H.length + 1 : Nat) : Int)])
    (R := fun r => r.1 = .exit 0 ∧ ∃ (o' : Owner) (ks : List ByteArray) (bs : List Bool) (d : Value), r.2.1 = [v, pv H.length, .bool false, cv N, d, pv (H.length + 1), undef, undef, undef, undef, undef, undef, undef, undef, undef, undef] ∧
      TexR r.2.2 o' (H.length + 1) ks bs ∧ ks.length ≤ N ∧ (∀ j (h : j < t.length), j < N → t[j] ∈ ks) ∧ Fr H2 o2 r.2.2 o' [((H.length + 1 : Nat) : Int)])
    (by
      rintro m vs H' ⟨i, o', ks, bs, d, hi, rfl, rfl, hm, hk, hin, f⟩
      by_cases hlt : i < N
      · have h1 : (i : Int) < t.length := by omega
        have h2 : (i : Int) < 100 := by omega
        have hit : i < t.length := by omega
        obtain ⟨q, hix, hld⟩ := (v2.fr f (hpm _ (by omega))).idx hit
        have hrem : (2 : Int) ≠ 0 := by omega
        have hw3 : IntKind.i64.wrap ((i : Int) + 1) = ((i + 1 : Nat) : Int) := by rw [w64 (by omega)]; omega
        obtain ⟨w, H'', o'', rp, ⟨bs', m'⟩, f'⟩ := PutS_runs (n := 99996) hm t[i] (decide ((i : Int).tmod 2 = 0)) (by omega) (by omega)
        refine .inl ⟨_, H'', N - (i + 1), by omega, ?_, i + 1, o'', kput ks t[i], bs', .bool true, by omega, rfl, rfl, m', ?_, fun j hj hji => ?_, f.tr f'⟩
        · simp -implicitDefEqProofs [-Int.natCast_add, F4_b0_v, F4_b0v, hvl, lss_int, h1, h2, pick_bool, hix, hld, rem_int _ _ _ hrem, eql_int, rp, add_int, hw3, fin]
        · rw [len_kput]; split <;> omega
        · rcases Nat.lt_or_ge j i with g | g
          · exact kput_old (hin j hj g)
          · have : j = i := by omega
            subst this; exact kput_new _ _
      · have hiN : i = N := by omega
        subst hiN
        refine .inr ⟨(.exit 0, [v, pv H.length, .bool false, cv i, .bool false, pv (H.length + 1), undef, undef, undef, undef, undef, undef, undef, undef, undef, undef], H'), ?_, by simp, rfl, o', ks, bs, _, rfl, hm, hk, hin, f⟩
        by_cases h1 : (i : Int) < t.length
        · have h2 : ¬ (i : Int) < 100 := by omega
          simp -implicitDefEqProofs [F4_b0_v, F4_b0v, hvl, lss_int, h1, h2, pick_bool, fin]
        · simp -implicitDefEqProofs [F4_b0_v, F4_b0v, hvl, lss_int, h1, pick_bool, fin])
    (N - 0) [v, pv H.length, .bool false, cv (0 : Nat), undef, pv (H.length + 1), undef, undef, undef, undef, undef, undef, undef, undef, undef, undef] H2 ⟨0, o2, [], [], _, Nat.zero_le _, rfl, rfl, m2, Nat.le_refl _, fun j h1 h2 => by omega, .refl _ _ _⟩ 100000 (by omega)
  obtain ⟨e, vs, H3⟩ := r
  simp only at r1 r2
  obtain ⟨o3, ks, bs, d, rfl, m3, hk, hin, f3⟩ := r2
  subst r1
  simp only [Int.natCast_zero] at hit
  have v3 := v2.fr f3 (hpm _ (by omega))
  have g3 : H3.get H.length = some ⟨[.bool false], 4, 1, false⟩ := by rw [f3.same _ (get_lt g2) (by rw [oo]; exact hpm _ (by omega))]; exact g2
  have oo3 : o3 H.length = -5 := by rw [f3.own _ (get_lt g2)]; exact oo
  obtain ⟨A, ta1, ta2, ga1, ga2, la, sa⟩ := two_boxes H3 (.string ⟨#[]⟩) (cv 0) (.string ⟨#[]⟩) (cv 0) 9 3 ⟨rfl, rfl, rfl⟩ ⟨rfl, rfl, rfl⟩
  have fA : Fr H3 o3 A ((o3.up H3.length (-11)).up (H3.length + 1) (-12)) [] := ⟨fun j hj _ => sa j hj, fun j hj => by rw [up_ne (by omega), up_ne (by omega)], by omega⟩
  obtain ⟨oA, eoA⟩ : ∃ z, z = (o3.up H3.length (-11)).up (H3.length + 1) (-12) := ⟨_, rfl⟩
  have oA1 : oA H3.length = -11 := by rw [eoA, up_ne (by omega), up_self]
  have oA2 : oA (H3.length + 1) = -12 := by rw [eoA, up_self]
  rw [← eoA] at fA
  have mA := m3.fr fA (by simp)
  have vA := v3.fr fA (by simp)
  have gA : A.get H.length = some ⟨[.bool false], 4, 1, false⟩ := by rw [get_slot (sa _ (get_lt g3))]; exact g3
  have ooA : oA H.length = -5 := by rw [fA.own _ (get_lt g3)]; exact oo3
  have ra := S.All_runs (G := KG) (n := 99998) (H.length + 1) A
  obtain ⟨B, oB, rb, fB, gB6⟩ := tex_loop (G := KG) (n := 99998) (v2 := pv H.length) (L := F4_L0 [v, pv H.length, .bool false, cv N, d, pv (H.length + 1), S.fromG A, undef, pv (H3.length + 1), undef, pv H3.length, undef, undef, undef, undef, undef]) (fun m y k w H h => by rw [F4_R0_eq (h := h)]; kernel_rfl) mA (by omega) ga1 oA1 ga2 oA2 (by omega)
  have mB := mA.fr fB (by simp <;> omega)
  have vB := vA.fr fB (by simp)
  have gB : B.get H.length = some ⟨[.bool false], 4, 1, false⟩ := by rw [fB.same _ (get_lt gA) (by rw [ooA]; simp)]; exact gA
  obtain ⟨r', hit', hne', r1', d8, d55, d10, d68, r2'⟩ := iter_go (step := F4_b3 (run KG 100000) 100000)
    (Q := fun m vs H' => H' = B ∧ ∃ (i : Nat) (d55 d10 d68 : Value), i ≤ N ∧ m = N - i ∧ vs = [v, pv H.length, .bool false, cv N, d, pv (H.length + 1), S.fromG A, undef, pv (H3.length + 1), undef, pv H3.length, undef, cv i, d55, d10, d68])
    (R := fun r => r.1 = .exit 4 ∧ ∃ (d8 d55 d10 d68 : Value), r.2 = ([v, pv H.length, .bool false, cv N, d, pv (H.length + 1), S.fromG A, undef, pv (H3.length + 1), undef, pv H3.length, undef, d8, d55, d10, d68], B))
    (by
      rintro m vs H' ⟨rfl, i, d55, d10, d68, hi, rfl, rfl⟩
      by_cases hlt : i < N
      · have h1 : (i : Int) < t.length := by omega
        have h2 : (i : Int) < 100 := by omega
        have hit : i < t.length := by omega
        obtain ⟨q, hix, hld⟩ := vB.idx hit
        have hw3 : IntKind.i64.wrap ((i : Int) + 1) = ((i + 1 : Nat) : Int) := by rw [w64 (by omega)]; omega
        obtain ⟨b, hg⟩ := GetS_runs (G := KG) (n := 99995) mB t[i] (by omega)
        rw [hasS_mem mB.asc (hin i hit hlt)] at hg
        refine .inl ⟨_, _, N - (i + 1), by omega, ?_, rfl, i + 1, .bool true, .bool true, .bool false, by omega, rfl, rfl⟩
        simp -implicitDefEqProofs [-Int.natCast_add, F4_b3_v, F4_b3v, hvl, lss_int, h1, h2, pick_bool, hix, hld, hg, ext_i, not_bool, add_int, hw3, fin]
      · have hiN : i = N := by omega
        subst hiN
        refine .inr ⟨(.exit 4, [v, pv H.length, .bool false, cv i, d, pv (H.length + 1), S.fromG A, undef, pv (H3.length + 1), undef, pv H3.length, undef, cv i, .bool false, d10, d68], H'), ?_, by simp, rfl, _, _, _, _, rfl⟩
        by_cases h1 : (i : Int) < t.length
        · have h2 : ¬ (i : Int) < 100 := by omega
          simp -implicitDefEqProofs [F4_b3_v, F4_b3v, hvl, lss_int, h1, h2, pick_bool, fin]
        · simp -implicitDefEqProofs [F4_b3_v, F4_b3v, hvl, lss_int, h1, pick_bool, fin])
    (N - 0) [v, pv H.length, .bool false, cv N, d, pv (H.length + 1), S.fromG A, undef, pv (H3.length + 1), undef, pv H3.length, undef, cv (0 : Nat), undef, undef, undef] B ⟨rfl, 0, _, _, _, Nat.zero_le _, rfl, rfl⟩ 100000 (by omega)
  obtain ⟨e', vs', B'⟩ := r'
  simp only at r1' r2'
  cases r2'
  subst r1'
  simp only [Int.natCast_zero] at hit'
  have hlen := LenS_runs (G := KG) (n := 99999) mB
  have c1 : (ks.length : Int) ≤ t.length := by omega
  have c2 : ks = [] ↔ t = [] := by
    constructor
    · intro h
      rcases Nat.eq_zero_or_pos t.length with g | g
      · exact List.length_eq_zero_iff.1 g
      · have := hin 0 g (by omega)
        rw [h] at this; cases this
    · intro h
      subst h
      have : ks.length = 0 := by simp at hN; omega
      exact List.length_eq_zero_iff.1 this
  have ds := st_1 _ 0 (.bool true) _ gB rfl (by simp) rfl rfl rfl
  simp only [List.set_cons_zero] at ds
  have dl := ld1_pv _ 0 _ (get_put (c := ⟨[.bool true], 4, 1, false⟩) gB)
  refine ⟨B.put H.length ⟨[.bool true], 4, 1, false⟩, ?_⟩
  unfold F4
  simp -implicitDefEqProofs [newBlk, ← e1, kn, not_bool, abT0, b2, hit, kBlk, kSeq, up, F4_j1_v, F4_j1v, new_len, ta1, ta2, ra, rb, F4_j2_v, F4_j2v, hit', F4_j4_v, F4_j4v, ld1_pv _ _ _ gB6, hlen, hvl, eql_int, leq_int, c1, c2, bool_eql _ _ blT, pick_bool, ds, dl]
end
end Go.Proofs.Ytdgolnenpnkjbaa.Fun
namespace Go.Proofs.Ytdgolnenpnkjbaa.Pure
open Go.RowKit Go.Proofs.YtdgolnenpnkjbaaA.Am Fun
theorem MapTexts_law : Law Try.prog 4 [34] := law_of fun H args hr hi => by
  obtain ⟨v0, _, rfl, h0, rfl⟩ := hi
  obtain ⟨l, hv⟩ := InArg.strs (show Try.prog.underlying 34 = some (.slice 9) from by kernel_rfl) (show Try.prog.underlying 9 = some .string from by kernel_rfl) (by kernel_rfl) h0
  exact MapTexts_run hv
end Go.Proofs.Ytdgolnenpnkjbaa.Pure
