
/- linear.Check over the abstract machine. -/
import Derived.Test.YtgakioiplkehgaaFun1
import Derived.Test.YtgakioiplkehgaaFun3
import Derived.Test.YtgakioiplkehgaaLinC4
namespace Go.Proofs.Ytgakioiplkehgaa.Fun
open Go Go.RowKit Go.Proofs.YtgakioiplkehgaaA.Am
set_option linter.unusedVariables false
set_option linter.unusedSimpArgs false
set_option linter.unnecessarySimpa false
set_option maxRecDepth 10000
/-- A log: its events, their lists. -/
def EvsR (H : Heap) (o : Owner) (q q2 : Int) (x : Value) (L : List EvV) : Prop :=
  (x = .slice none 0 0 ∧ L = []) ∨ (∃ i off, x = .slice (some ⟨i, off, none⟩) 0 0 ∧ L = []) ∨
  ∃ i off c b, x = .slice (some ⟨i, off, none⟩) L.length c ∧ L.length ≤ c ∧ H.get i = some b ∧ b.es = 13 ∧ o i = q ∧ off + 13 * L.length ≤ b.cells.length ∧
    ∀ j e, L[j]? = some e → ∃ s, (b.cells.drop (off + 13 * j)).take 13 = evCells e s ∧ SlR H o q2 s e.res.list
section
variable {H H' : Heap} {o o' : Owner} {q q2 : Int} {x : Value} {L : List EvV}
theorem EvsR.len (h : EvsR H o q q2 x L) : slen x = some (cv L.length) := by
  rcases h with ⟨rfl, rfl⟩ | ⟨i, off, rfl, rfl⟩ | ⟨i, off, c, b, rfl, _⟩ <;> rfl
theorem EvsR.fr {ps : List Int} (h : EvsR H o q q2 x L) (f : Fr H o H' o' ps) (h1 : q ∉ ps) (h2 : q2 ∉ ps) : EvsR H' o' q q2 x L := by
  rcases h with h | h | ⟨i, off, c, b, e1, e2, e3, e4, e5, e6, e7⟩
  · exact .inl h
  · exact .inr (.inl h)
  · refine .inr (.inr ⟨i, off, c, b, e1, e2, by rw [f.same i (get_lt e3) (by rw [e5]; exact h1)]; exact e3, e4, by rw [f.own i (get_lt e3)]; exact e5, e6, fun j e he => ?_⟩)
    obtain ⟨s, k1, k2⟩ := e7 j e he
    exact ⟨s, k1, k2.fr f h2⟩
theorem EvsR.relabel {q' q2' : Int} (h : EvsR H o q q2 x L) (k : ∀ i, i < H.length → o i = q → o' i = q') (k2 : ∀ i, i < H.length → o i = q2 → o' i = q2') : EvsR H o' q' q2' x L := by
  rcases h with h | h | ⟨i, off, c, b, e1, e2, e3, e4, e5, e6, e7⟩
  · exact .inl h
  · exact .inr (.inl h)
  · refine .inr (.inr ⟨i, off, c, b, e1, e2, e3, e4, k i (get_lt e3) e5, e6, fun j e he => ?_⟩)
    obtain ⟨s, g1, g2⟩ := e7 j e he
    exact ⟨s, g1, g2.relabel k2⟩
theorem EvsR.idx (h : EvsR H o q q2 x L) {j : Nat} {e : EvV} (hj : L[j]? = some e) :
    ∃ ptr s, (∀ H', iadS 13 x (cv j) H' = some (ptr, H')) ∧ SlR H o q2 s e.res.list ∧ ldn 13 ptr H = some (evA e s) := by
  have hjl : j < L.length := (List.getElem?_eq_some_iff.1 hj).1
  rcases h with ⟨rfl, rfl⟩ | ⟨i, off, rfl, rfl⟩ | ⟨i, off, c, b, rfl, e2, e3, e4, e5, e6, e7⟩
  · simp at hjl
  · simp at hjl
  · obtain ⟨s, g1, g2⟩ := e7 j e hj
    refine ⟨.pointer (some ⟨i, off + 13 * j, none⟩), s, fun H' => ?_, g2, ?_⟩
    · simp only [iadS]; rw [if_pos (by constructor <;> omega)]; simp <;> omega
    · have hld : ldCells H i (off + 13 * j) 13 = some (evCells e s) := by
        simp only [ldCells, e3]
        rw [if_pos (by omega), g1]
      simp only [ldn, hld]
end
/-! how long the maps become -/
theorem step_fits {S S' : StV} {e : EvV} {K : Nat} (h : step S e = some S') (hK : ∀ m ∈ S.maps, m.length ≤ K) (he : e.res.list.length ≤ K) : (∀ m ∈ S'.maps, m.length ≤ K + 1) ∧ S'.maps.length ≤ S.maps.length + 1 := by
  have up : ∀ m ∈ S.maps, m.length ≤ K + 1 := fun m hm => by have := hK m hm; omega
  have hnow : S.now.length ≤ K := by
    unfold StV.now
    rw [List.getD_eq_getElem?_getD]
    cases hx : S.maps[S.maps.length - 1]? with
    | none => simp
    | some m => exact hK m (List.mem_of_getElem? hx)
  have haft : ∀ op, (aft S.now op).length ≤ K + 1 := fun op => by
    unfold aft
    have h1 := len_mput S.now op.key op.value
    have h2 := len_mdel S.now op.key
    repeat' split
    all_goals first | omega | (split at h1 <;> omega)
  unfold step at h
  split at h
  · split at h
    · cases h
      refine ⟨fun m hm => ?_, by simp⟩
      rcases List.mem_append.1 hm with hm | hm
      · exact up m hm
      · have : m = e.res.list := by simpa using hm
        rw [this]; omega
    · cases h
  · split at h
    · split at h
      · cases h
      · cases h
        exact ⟨up, by simp⟩
    · split at h
      · split at h
        · cases h
        · split at h
          · cases h
          · split at h
            · cases h
            · cases h
              refine ⟨fun m hm => ?_, by simp⟩
              rcases List.mem_append.1 hm with hm | hm
              · exact up m hm
              · rw [List.mem_singleton.1 hm]; exact haft _
      · split at h
        · split at h
          · cases h
          · split at h
            · cases h
            · split at h
              · cases h
              · cases h
                exact ⟨up, by simp⟩
        · cases h
theorem check_from {S : StV} {L : List EvV} {i : Nat} : check L S i = match L with
    | [] => -1
    | e :: L' => match step S e with
      | none => i
      | some S' => check L' S' (i + 1) := by cases L <;> rfl
theorem fsz19 : (19 : Nat) < Try.prog.funcs.size := by decide +kernel
theorem abK (s : Value) {a : Option Addr} {m k t : Nat} (es : s = .slice a m k) : abuild Try.prog 55 [(0, s), (1, .map (some t))] = some (.agg #[s, .map (some t), cv 0]) := by subst es; kernel_rfl
section
variable {H : Heap} {o : Owner} {q q2 : Int} {n : Nat} {x : Value} {L : List EvV} {B : Nat}
/-- Check. -/
theorem check_runs (h : EvsR H o q q2 x L) (hL : L.length ≤ 1000) (hB : ∀ e ∈ L, e.res.list.length ≤ B) (hB2 : B + 2000 ≤ 4194303) (hn : 4194304 < n) :
    ∃ H', run KG (n + 22) 7 [x] H = some (cv (check L st0 0), H') ∧ Ext H H' := by
  rw [F7_eq]
  have h0 : EvsR H o0 (-1) (-1) x L := h.relabel (fun i _ _ => rfl) (fun i _ _ => rfl)
  have hxl := h.len
  -- the checker is made
  obtain ⟨H1, e1⟩ : ∃ z, z = H.new ⟨[.slice none 0 0, .slice none 0 0], 51, 1, false⟩ := ⟨_, rfl⟩
  have b1 := boxT H
  rw [← e1] at b1
  have l1 : H1.length = H.length + 1 := by rw [e1, new_len]
  have m1 : MapR H1 (Owner.up o0 H.length H.length) H.length [] := by rw [e1]; exact MapR.fresh H o0 _
  have f1 : Fr H o0 H1 (Owner.up o0 H.length H.length) [] := by rw [e1]; exact (Fr.refl _ _ _).new _ _
  obtain ⟨o1, eo1⟩ : ∃ z, z = Owner.up o0 H.length H.length := ⟨_, rfl⟩
  rw [← eo1] at m1 f1
  have b2 := bsM1 H.length H1
  obtain ⟨H2, e2⟩ : ∃ z, z = H1.new ⟨[pv H.length], 48, 1, false⟩ := ⟨_, rfl⟩
  rw [← e2, l1] at b2
  have l2 : H2.length = H.length + 2 := by rw [e2, new_len, l1]
  have s2 : Sl H2 (o1.up H1.length (-21)) (-21) (.slice (some ⟨H.length + 1, 0, none⟩) 1 1) [pv H.length] (some (H.length + 1)) := by
    have := Sl.made H1 o1 (-21) 48 [pv H.length]
    rw [← e2, l1] at this
    rw [l1]; exact this
  have f2 : Fr H1 o1 H2 (o1.up H1.length (-21)) [] := by rw [e2]; exact (Fr.refl _ _ _).new _ _
  obtain ⟨o2, eo2⟩ : ∃ z, z = o1.up H1.length (-21) := ⟨_, rfl⟩
  rw [← eo2] at s2 f2
  have m2 := m1.fr f2 (by simp)
  obtain ⟨H3, e3⟩ : ∃ z, z = H2.newO (.tab .i64 []) := ⟨_, rfl⟩
  have b3 : mmk .i64 H2 = some (.map (some (H.length + 2)), H3) := by rw [e3, ← l2]; rfl
  have l3 : H3.length = H.length + 3 := by rw [e3, newO_len, l2]
  have f3 : Fr H2 o2 H3 (o2.up H2.length (-24)) [] := by rw [e3]; exact (Fr.refl _ _ _).newO _ _
  have t3 : H3.oth (H.length + 2) = some (.tab .i64 []) := by rw [e3, ← l2]; exact oth_newO
  obtain ⟨o3, eo3⟩ : ∃ z, z = o2.up H2.length (-24) := ⟨_, rfl⟩
  have ot3 : o3 (H.length + 2) = -24 := by rw [eo3, l2, up_self]
  rw [← eo3] at f3
  have s3 := s2.fr f3 (by simp)
  have m3 := m2.fr f3 (by simp)
  have ab := abK (.slice (some ⟨H.length + 1, 0, none⟩) 1 1) (t := H.length + 2) rfl
  obtain ⟨H4, e4⟩ : ∃ z, z = H3.new ⟨[.slice (some ⟨H.length + 1, 0, none⟩) 1 1, .map (some (H.length + 2)), cv 0], 55, 1, false⟩ := ⟨_, rfl⟩
  have b4 : boxS 55 (.agg #[.slice (some ⟨H.length + 1, 0, none⟩) 1 1, .map (some (H.length + 2)), cv 0]) H3 = some (pv (H.length + 3), H4) := by
    rw [e4, ← l3]; simp [boxS, Value.cells, oneCell, newBlk]
  have l4 : H4.length = H.length + 4 := by rw [e4, new_len, l3]
  have f4 : Fr H3 o3 H4 (o3.up H3.length (-20)) [] := by rw [e4]; exact (Fr.refl _ _ _).new _ _
  have g4 : H4.get (H.length + 3) = some ⟨[.slice (some ⟨H.length + 1, 0, none⟩) 1 1, .map (some (H.length + 2)), cv 0], 55, 1, false⟩ := by
    have := get_new (H := H3) (c := ⟨[.slice (some ⟨H.length + 1, 0, none⟩) 1 1, .map (some (H.length + 2)), cv 0], 55, 1, false⟩)
    rw [l3, ← e4] at this; exact this
  obtain ⟨o4, eo4⟩ : ∃ z, z = o3.up H3.length (-20) := ⟨_, rfl⟩
  have oc4 : o4 (H.length + 3) = -20 := by rw [eo4, l3, up_self]
  rw [← eo4] at f4
  have p4 : LinP H4 o4 (H.length + 3) (.slice (some ⟨H.length + 1, 0, none⟩) 1 1) (some (H.length + 1)) (H.length + 2) [(H.length, [])] [] 55 0 :=
    ⟨g4, oc4, by rw [f4.oth _ (oth_lt t3) (by simp)]; exact t3, by rw [f4.own _ (oth_lt t3)]; exact ot3, s3.fr f4 (by simp), fun y hy => by
      have : y = (H.length, []) := by simpa using hy
      subst this
      exact m3.fr f4 (by simp), .nil, fun y hy => by cases hy⟩
  have h4 : LinR H4 o4 (H.length + 3) st0 := ⟨_, _, _, _, _, _, p4, rfl, rfl, by simp, fun y hy => by cases hy⟩
  obtain ⟨H5, st5, b5, f5⟩ := one_box H4 o4 (-9) 47 (.pointer none) (pv (H.length + 3)) ⟨rfl, rfl, rfl⟩
  obtain ⟨o5, eo5⟩ : ∃ z, z = o4.up H4.length (-9) := ⟨_, rfl⟩
  rw [← eo5] at b5 f5
  have h5 : LinR H5 o5 (H.length + 3) st0 := by
    obtain ⟨sm, bm, t, ms, cs, ty, hp, h2⟩ := h4
    exact ⟨sm, bm, t, ms, cs, ty, hp.fr f5, h2⟩
  have fA : Fr H o0 H5 o5 [] := (((f1.tr f2).tr f3).tr f4).tr f5
  rw [l4] at b5 st5
  -- the events, one behind the other
  have key : ∃ H', run KG (n + 21) 18 [x, fnv 19 #[pv (H.length + 4)]] H5 = some (cv (check L st0 0), H') ∧ Ext H H' := by
    rw [F18_eq]
    obtain ⟨r', hit, hne, x', d8, d9, d5, d16, hr⟩ := iter_go (step := F18_b0 (run KG (n + 20)) (n + 20))
      (Q := fun m vs H' => ∃ (i : Nat) (S : StV) (o' : Owner) (d9 d5 d16 : Value), i ≤ L.length ∧ m = L.length - i ∧ vs = [x, fnv 19 #[pv (H.length + 4)], cv 0, cv i, cv L.length, d9, d5, d16] ∧ LinR H' o' (H.length + 3) S ∧ Fr H5 o5 H' o' [-20, -21, -22, -24] ∧
        check L st0 0 = check (L.drop i) S i ∧ (∀ m ∈ S.maps, m.length ≤ B + i) ∧ S.maps.length ≤ i + 1)
      (R := fun r' => Ext H r'.2.2 ∧ ∃ (d8 d9 d5 d16 : Value), ((r'.1 = .exit 0 ∧ r'.2.1 = [x, fnv 19 #[pv (H.length + 4)], cv 0, d8, cv L.length, d9, d5, d16] ∧ check L st0 0 = -1) ∨
        (r'.1 = .ret ∧ ∃ j : Nat, r'.2.1 = [x, fnv 19 #[pv (H.length + 4)], cv j, d8, cv L.length, d9, d5, d16] ∧ check L st0 0 = j)))
      (by
        rintro m vs H' ⟨i, S, o', d9, d5, d16, hi, rfl, rfl, hS, f, hc, hK, hM⟩
        have fH := (fA.wk (qs := [-20, -21, -22, -24]) (by simp)).tr f
        have extH : Ext H H' := Ext.of fH fun i _ hh => by simp at hh
        by_cases hlt : i < L.length
        · have h1 : (i : Int) < L.length := by omega
          have hLi : L[i]? = some L[i] := List.getElem?_eq_getElem hlt
          obtain ⟨ptr, s, hix, hs, hld⟩ := (h0.fr fH (by simp) (by simp)).idx hLi
          have hbx : Bx H' o' (H.length + 4) (-9) 47 (pv (H.length + 3)) := b5.fr f (by simp)
          -- one event
          have one : ∃ H'' o'', run KG (n + 20) 19 [evA L[i] s, pv (H.length + 4)] H' = some (.bool (!(step S L[i]).isSome), H'') ∧ Fr H' o' H'' o'' [-20, -21, -22, -24] ∧ ∀ S', step S L[i] = some S' → LinR H'' o'' (H.length + 3) S' := by
            rw [F19_eq]
            obtain ⟨a, m', es⟩ := hs.isSlice
            have bx := boxE L[i] es H'
            obtain ⟨Hb, eb⟩ : ∃ z, z = H'.new ⟨evCells L[i] s, 31, 1, false⟩ := ⟨_, rfl⟩
            rw [← eb] at bx
            have xb : Ext H' Hb := by rw [eb]; exact (Ext.refl H').new _
            have fb := xb.fr o' (-9)
            have gb : Hb.get H'.length = some ⟨evCells L[i] s, 31, 1, false⟩ := by rw [eb]; exact get_new
            have hSb : LinR Hb (o'.from H'.length (-9)) (H.length + 3) S := by
              obtain ⟨sm, bm, t, ms, cs, ty, hp, h2⟩ := hS
              exact ⟨sm, bm, t, ms, cs, ty, hp.fr fb, h2⟩
            obtain ⟨H'', o'', rr, fr, hS'⟩ := right_runs (n := n) hSb (x := evA L[i] s) ⟨s, rfl, hs.fr fb (by simp)⟩ (by have := hB _ (List.getElem_mem hlt); omega) (by omega) (fun m hm => by have := hK m hm; omega) hn
            refine ⟨H'', o'', ?_, (fb.wk (by simp)).tr fr, hS'⟩
            simp -implicitDefEqProofs [F19, bx, (hbx.fr fb (by simp)).ld, ldE13 gb, rr, not_bool]
          obtain ⟨H'', o'', r1, f1', hS'⟩ := one
          have hdy := dyn_f (C := run KG (n + 20)) (c := #[pv (H.length + 4)]) (args := [evA L[i] s]) (H := H') fsz19
          have hw : IntKind.i64.wrap ((i : Int) + 1) = ((i + 1 : Nat) : Int) := by rw [w64 (by omega)]; omega
          have hdrop : L.drop i = L[i] :: L.drop (i + 1) := List.drop_eq_getElem_cons hlt
          have hd : check (L[i] :: L.drop (i + 1)) S i = (match step S L[i] with | none => (i : Int) | some S' => check (L.drop (i + 1)) S' (i + 1)) := rfl
          rw [hdrop, hd] at hc
          have fH2 := fH.tr f1'
          cases hst : step S L[i] with
          | none =>
            rw [hst] at r1 hc
            refine .inr ⟨(.ret, [x, fnv 19 #[pv (H.length + 4)], cv i, cv i, cv L.length, .bool true, cv i, .bool true], H''), ?_, by simp, Ext.of fH2 (fun i _ hh => by simp at hh), _, _, _, _, .inr ⟨rfl, i, rfl, hc⟩⟩
            simp -implicitDefEqProofs [F18_b0_v, F18_b0v, lss_int, h1, hix, hld, hdy, r1, fin]
          | some S' =>
            rw [hst] at r1 hc
            obtain ⟨k1, k2⟩ := step_fits hst hK (by have := hB _ (List.getElem_mem hlt); omega)
            refine .inl ⟨_, H'', L.length - (i + 1), by omega, ?_, i + 1, S', o'', .bool true, cv i, .bool false, by omega, rfl, rfl, hS' S' hst, f.tr f1', hc, fun m hm => by have := k1 m hm; omega, by omega⟩
            simp -implicitDefEqProofs [-Int.natCast_add, F18_b0_v, F18_b0v, lss_int, h1, hix, hld, hdy, r1, add_int, hw, fin]
        · have h1 : ¬ (i : Int) < L.length := by omega
          rw [List.drop_eq_nil_of_le (by omega)] at hc
          refine .inr ⟨(.exit 0, [x, fnv 19 #[pv (H.length + 4)], cv 0, cv i, cv L.length, .bool false, d5, d16], H'), ?_, by simp, extH, _, _, _, _, .inl ⟨rfl, rfl, hc⟩⟩
          simp -implicitDefEqProofs [F18_b0_v, F18_b0v, lss_int, h1, fin])
      (L.length - 0) [x, fnv 19 #[pv (H.length + 4)], cv 0, cv (0 : Nat), cv L.length, undef, undef, undef] H5 ⟨0, st0, o5, _, _, _, Nat.zero_le _, rfl, rfl, h5, .refl _ _ _, rfl, fun m hm => by
        have : m = [] := by simpa [st0] using hm
        subst this; simp, by simp [st0]⟩ (n + 20) (by omega)
    obtain ⟨e, vs, H'⟩ := r'
    simp only at hr x'
    simp only [Int.natCast_zero] at hit
    refine ⟨H', ?_, x'⟩
    rcases hr with ⟨rfl, rfl, hc⟩ | ⟨rfl, j, rfl, hc⟩
    · rw [hc]
      simp -implicitDefEqProofs [F18, hxl, hit, F18_j1_v, F18_j1v]
    · rw [hc]
      simp -implicitDefEqProofs [F18, hxl, hit, kBlk, kSeq, up, resK, resL, tupK]
      rfl
  obtain ⟨H', r', x'⟩ := key
  refine ⟨H', ?_, x'⟩
  simp -implicitDefEqProofs [F7, abM0, b1, b2, b3, ab, b4, newBlk, l4, st5, r']
end
end Go.Proofs.Ytgakioiplkehgaa.Fun
