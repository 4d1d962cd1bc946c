
/- omap's Put, Del, Clone over the abstract machine. -/
import Derived.Test.YtgakioiplkehgaaFun0
import Derived.Test.YtgakioiplkehgaaFun1
import Derived.Test.YtgakioiplkehgaaFun2
import Derived.Test.YtgakioiplkehgaaOmap
namespace Go.Proofs.Ytgakioiplkehgaa.Fun
open Go Go.RowKit Go.Proofs.YtgakioiplkehgaaA.Am
set_option linter.unusedVariables false
set_option linter.unusedSimpArgs false
set_option linter.unnecessarySimpa false
/-! rising -/
theorem plc_lo {ks : List Int} {k : Int} : ∀ {j : Nat} (h : j < ks.length), j < plc ilt ks k → ks[j] < k := by
  induction ks with
  | nil => intro j h; simp at h
  | cons a ks ih =>
    intro j h hj
    by_cases ha : a < k
    · have e : plc ilt (a :: ks) k = plc ilt ks k + 1 := by simp [plc, List.takeWhile_cons, ha]
      cases j with
      | zero => exact ha
      | succ j => exact ih (by simpa using h) (by omega)
    · have e : plc ilt (a :: ks) k = 0 := by simp [plc, List.takeWhile_cons, ha]
      omega
theorem plc_hi {ks : List Int} {k : Int} (h : plc ilt ks k < ks.length) : k ≤ ks[plc ilt ks k] := by
  induction ks with
  | nil => simp at h
  | cons a ks ih =>
    by_cases ha : a < k
    · have e : plc ilt (a :: ks) k = plc ilt ks k + 1 := by simp [plc, List.takeWhile_cons, ha]
      simp only [e] at h ⊢
      simpa using ih (by simpa using h)
    · have e : plc ilt (a :: ks) k = 0 := by simp [plc, List.takeWhile_cons, ha]
      simp only [e]
      simpa using Int.not_lt.1 ha
theorem asc_ins {ks : List Int} {k : Int} (ha : Asc ks) (hk : hasK ks k = false) : Asc (ks.take (plc ilt ks k) ++ k :: ks.drop (plc ilt ks k)) := by
  have hlo : ∀ x ∈ ks.take (plc ilt ks k), x < k := by
    intro x hx
    obtain ⟨j, hj, rfl⟩ := List.getElem_of_mem hx
    rw [List.length_take] at hj
    rw [List.getElem_take]
    exact plc_lo (by omega) (by omega)
  have hhi : ∀ x ∈ ks.drop (plc ilt ks k), k < x := by
    intro x hx
    obtain ⟨j, hj, rfl⟩ := List.getElem_of_mem hx
    rw [List.length_drop] at hj
    rw [List.getElem_drop]
    have hp : plc ilt ks k < ks.length := by omega
    have h1 := plc_hi hp
    have h2 : ks[plc ilt ks k] ≠ k := by
      intro e
      unfold hasK at hk
      rw [List.getElem?_eq_getElem hp, e] at hk
      simp at hk
    have h3 : k < ks[plc ilt ks k] := by omega
    cases j with
    | zero => exact h3
    | succ j =>
      have := List.pairwise_iff_getElem.1 ha (plc ilt ks k) (plc ilt ks k + (j + 1)) hp (by omega) (by omega)
      omega
  refine List.pairwise_append.2 ⟨ha.sublist (List.take_sublist _ _), List.pairwise_cons.2 ⟨hhi, ha.sublist (List.drop_sublist _ _)⟩, fun a h b hb => ?_⟩
  rcases List.mem_cons.1 hb with rfl | hb
  · exact hlo a h
  · have := hlo a h
    have := hhi b hb
    omega
theorem keys_mput {l : PL} {k v : Int} : keysOf (mput l k v) = if mhas l k then keysOf l else (keysOf l).take (mplc l k) ++ k :: (keysOf l).drop (mplc l k) := by
  unfold mput
  by_cases hc : mhas l k = true
  · obtain ⟨h1, h2⟩ := mhas_lt hc
    rw [hc]
    simp only [if_true, keysOf, List.map_append, List.map_take, List.map_cons, List.map_drop]
    have h3 : mplc l k < (l.map (·.1)).length := by simpa using h1
    conv => rhs; rw [← List.take_append_drop (mplc l k) (l.map (·.1)), List.drop_eq_getElem_cons h3]
    congr 2
    rw [List.getD_eq_getElem?_getD, List.getElem?_eq_getElem h1] at h2
    simpa using h2.symm
  · have hc' : mhas l k = false := by simpa using hc
    rw [hc']
    simp [keysOf]
theorem vals_mput {l : PL} {k v : Int} : valsOf (mput l k v) = if mhas l k then (valsOf l).set (mplc l k) v else (valsOf l).take (mplc l k) ++ v :: (valsOf l).drop (mplc l k) := by
  unfold mput
  by_cases hc : mhas l k = true
  · obtain ⟨h1, h2⟩ := mhas_lt hc
    rw [hc]
    simp only [if_true, valsOf, List.map_append, List.map_take, List.map_cons, List.map_drop]
    rw [List.set_eq_take_append_cons_drop, if_pos (by simpa using h1)]
  · have hc' : mhas l k = false := by simpa using hc
    rw [hc']
    simp [valsOf]
theorem len_mput (l : PL) (k v : Int) : (mput l k v).length = if mhas l k then l.length else l.length + 1 := by
  have h : (keysOf (mput l k v)).length = (mput l k v).length := by simp
  rw [← h, keys_mput]
  have hle := mplc_le l k
  split
  · simp
  · simp; omega
theorem asc_mput {l : PL} (h : Asc (keysOf l)) (k v : Int) : Asc (keysOf (mput l k v)) := by
  rw [keys_mput]
  split
  · exact h
  · rename_i hc
    exact asc_ins h (by simpa [mhas] using hc)
theorem keys_mdel {l : PL} {k : Int} : keysOf (mdel l k) = if mhas l k then (keysOf l).take (mplc l k) ++ (keysOf l).drop (mplc l k + 1) else keysOf l := by
  unfold mdel
  by_cases hc : mhas l k = true
  · rw [hc]; simp [keysOf]
  · have hc' : mhas l k = false := by simpa using hc
    rw [hc']; simp [keysOf]
theorem vals_mdel {l : PL} {k : Int} : valsOf (mdel l k) = if mhas l k then (valsOf l).take (mplc l k) ++ (valsOf l).drop (mplc l k + 1) else valsOf l := by
  unfold mdel
  by_cases hc : mhas l k = true
  · rw [hc]; simp [valsOf]
  · have hc' : mhas l k = false := by simpa using hc
    rw [hc']; simp [valsOf]
theorem asc_mdel {l : PL} (h : Asc (keysOf l)) (k : Int) : Asc (keysOf (mdel l k)) := by
  rw [keys_mdel]
  split
  · have : ((keysOf l).take (mplc l k) ++ (keysOf l).drop (mplc l k + 1)).Sublist (keysOf l) := by
      have e := List.take_append_drop (mplc l k) (keysOf l)
      conv => rhs; rw [← e]
      exact (List.Sublist.refl _).append (by rw [← List.drop_drop]; exact List.drop_sublist _ _)
    exact h.sublist this
  · exact h
/-! Insert -/
theorem ins_bad : (ks ++ badOf Try.prog).contains 56 = true := by rw [badIs]; rfl
theorem ins_run (n : Nat) (args : List Value) (H : Heap) : run KG (n + 1) 56 args H = insG 2 args H := by
  unfold run
  simp only [acall, ins_bad, if_true]
  simp [kinG, insK]
theorem bs1 (k : Int) (H : Heap) : abuildSlice Try.prog 49 1 [(0, cv k)] H = some (.slice (some ⟨H.length, 0, none⟩) 1 1, H.new ⟨[cv k], 2, 1, false⟩) := by kernel_rfl
theorem bsB1 (k : Int) : bsB Try.prog 49 1 [(0, cv k)] = some (fun i => .slice (some ⟨i, 0, none⟩) 1 1, ⟨[cv k], 2, 1, false⟩) := by kernel_rfl
section
variable {H : Heap} {o : Owner} {p : Nat} {l : PL} {n : Nat}
theorem Put_runs (h : MapR H o p l) (k v : Int) (hl : l.length < 4194304) (hn : 4194304 < n) :
    ∃ H' o', run KG (n + 4) 42 [pv p, cv k, cv v] H = some (.tuple #[cv (mget l k), .bool (mhas l k)], H') ∧ MapR H' o' p (mput l k v) ∧ Fr H o H' o' [p] := by
  obtain ⟨⟨sk, sv, bk, bv, ty, hp, hk, hv, hb1, hb2, hb3⟩, ho, ha, hf⟩ := h
  have hpl := get_lt hp
  have hb := Bin_runs (G := KG) hk ha (by simpa using hf) k hn
  change run KG (n + 3) _ _ _ = some (.tuple #[cv (mplc l k), .bool (mhas l k)], H) at hb
  rw [F42_eq]
  cases hc : mhas l k with
  | true =>
    rw [hc] at hb
    obtain ⟨h1, h2⟩ := mhas_lt hc
    obtain ⟨q, _, hix, hld⟩ := hv.idx (vals_get h1)
    obtain ⟨q', c, e, hix', hst, hv2⟩ := hv.put (j := mplc l k) (by simpa using h1) (cv v) rfl rfl rfl
    obtain rfl : q = q' := by
      have := (hix H).symm.trans (hix' H)
      simpa using this
    have hqp : q ≠ p := by rintro rfl; exact hb2 e
    have hqo : o q = p := (hv.lt' e).2
    refine ⟨H.put q c, o, ?_, ⟨⟨sk, sv, bk, bv, ty, by rw [get_put_ne hqp.symm]; exact hp, ?_, ?_, hb1, hb2, hb3⟩, ho, asc_mput ha k v, by rw [len_mput, hc]; exact hf⟩, (Fr.refl _ _ _).put fun _ => by simp [hqo]⟩
    · simp -implicitDefEqProofs [-List.getD_eq_getElem?_getD, F42, nck_pv, fad_pv, ld1_pv _ _ _ hp, hb, ext_i, hix, hld H rfl, hst, mget, hc]
    · rw [keys_mput, hc]
      exact hk.mv fun q' e' => ⟨slot_put (by rintro rfl; exact hb3 _ e' e), rfl⟩
    · rw [vals_mput, hc]
      simpa using hv2
  | false =>
    rw [hc] at hb
    have hle := mplc_le l k
    obtain ⟨H1, e1⟩ : ∃ x, x = H.holes 1 := ⟨_, rfl⟩
    obtain ⟨H2, e2⟩ : ∃ x, x = H1.new ⟨[cv k], 2, 1, false⟩ := ⟨_, rfl⟩
    have l1 : H1.length = H.length + 1 := by rw [e1, holes_len]
    have l2 : H2.length = H.length + 2 := by rw [e2, new_len, l1]
    have lk : ∀ q, bk = some q → q < H.length := fun q e => (hk.lt' e).1
    have lv : ∀ q, bv = some q → q < H.length := fun q e => (hv.lt' e).1
    have s1 : ∀ q, q < H.length → H1[q]? = H[q]? := fun q hq => by rw [e1, slot_holes hq]
    have s2 : ∀ q, q < H.length → H2[q]? = H[q]? := fun q hq => by rw [e2, slot_new (by omega), s1 q hq]
    have hk2 : Sl H2 o p sk (cvs (keysOf l)) bk := hk.mv fun q e => ⟨s2 q (lk q e), rfl⟩
    have hj2 : H2.get (H.length + 1) = some ⟨[cv k], 2, 1, false⟩ := by
      have := get_new (H := H1) (c := ⟨[cv k], 2, 1, false⟩)
      rw [l1, ← e2] at this; exact this
    have i3 := hk2.ins (tE := 2) hj2 (fun e => by have := lk _ e; omega) (i := mplc l k) (by simpa using hle) (by simp; omega)
    obtain ⟨H3, e3⟩ : ∃ x, x = (killB bk H2).new ⟨(cvs (keysOf l)).take (mplc l k) ++ cv k :: (cvs (keysOf l)).drop (mplc l k), 2, 1, false⟩ := ⟨_, rfl⟩
    rw [← e3] at i3
    have l3 : H3.length = H.length + 3 := by rw [e3, new_len, killB_len, l2]
    have s3 : ∀ q, q < H.length → bk ≠ some q → H3[q]? = H[q]? := fun q hq hn => by rw [e3, slot_new (by rw [killB_len]; omega), slot_killB hn, s2 q hq]
    have h3 : H3[H.length]? = some .hole := by
      rw [e3, slot_new (by rw [killB_len]; omega), slot_killB (fun e => by have := lk _ e; omega), e2, slot_new (by omega), e1]; exact hole_self
    have g3 : H3.get (H.length + 2) = some ⟨(cvs (keysOf l)).take (mplc l k) ++ cv k :: (cvs (keysOf l)).drop (mplc l k), 2, 1, false⟩ := by
      have := get_new (H := killB bk H2) (c := ⟨(cvs (keysOf l)).take (mplc l k) ++ cv k :: (cvs (keysOf l)).drop (mplc l k), 2, 1, false⟩)
      rw [killB_len, l2, ← e3] at this; exact this
    obtain ⟨H4, e4⟩ : ∃ x : Heap, x = H3.set H.length (.blk ⟨[cv v], 2, 1, false⟩) := ⟨_, rfl⟩
    have lay : layV (H.length + 0) (bsB Try.prog 49 1 [(0, cv v)]) H3 = some (.slice (some ⟨H.length, 0, none⟩) 1 1, H4) := by
      rw [bsB1, e4]; exact layV_eq h3
    have l4 : H4.length = H.length + 3 := by rw [e4, List.length_set, l3]
    have s4 : ∀ q, q ≠ H.length → H4[q]? = H3[q]? := fun q hq => by rw [e4, slot_set hq]
    have hv4 : Sl H4 o p sv (cvs (valsOf l)) bv := hv.mv fun q e => by
      have := lv q e
      exact ⟨by rw [s4 q (by omega), s3 q this (fun e' => hb3 q e' e)], rfl⟩
    have hj4 : H4.get H.length = some ⟨[cv v], 2, 1, false⟩ := by rw [e4]; exact get_set_self (by omega)
    have i5 := hv4.ins (tE := 2) hj4 (fun e => by have := lv _ e; omega) (i := mplc l k) (by simpa using hle) (by simp; omega)
    obtain ⟨H5, e5⟩ : ∃ x, x = (killB bv H4).new ⟨(cvs (valsOf l)).take (mplc l k) ++ cv v :: (cvs (valsOf l)).drop (mplc l k), 2, 1, false⟩ := ⟨_, rfl⟩
    rw [← e5] at i5
    have l5 : H5.length = H.length + 4 := by rw [e5, new_len, killB_len, l4]
    have s5 : ∀ q, q < H.length + 3 → bv ≠ some q → H5[q]? = H4[q]? := fun q hq hn => by rw [e5, slot_new (by rw [killB_len]; omega), slot_killB hn]
    have g5 : H5.get (H.length + 3) = some ⟨(cvs (valsOf l)).take (mplc l k) ++ cv v :: (cvs (valsOf l)).drop (mplc l k), 2, 1, false⟩ := by
      have := get_new (H := killB bv H4) (c := ⟨(cvs (valsOf l)).take (mplc l k) ++ cv v :: (cvs (valsOf l)).drop (mplc l k), 2, 1, false⟩)
      rw [killB_len, l4, ← e5] at this; exact this
    have p3 : H3[p]? = H[p]? := s3 p hpl hb1
    have p4 : H4[p]? = H[p]? := by rw [s4 p (by omega), p3]
    have p5 : H5.get p = some ⟨[sk, sv], ty, 1, false⟩ := by rw [get_slot (s5 p (by omega) hb2), get_slot p4]; exact hp
    have P : ∀ Hx : Heap, Hx[p]? = H[p]? → ∀ o, ld1 (.pointer (some ⟨p, o, none⟩)) Hx = [sk, sv][o]? := fun Hx e o => ld1_pv p o Hx (by rw [get_slot e]; exact hp)
    rw [l2] at i3
    rw [l4] at i5
    have b1 := bs1 k H1
    rw [← e2, l1] at b1
    have t6 := st_s p 0 (some ⟨H.length + 2, 0, none⟩) ((cvs (keysOf l)).length + 1) ((cvs (keysOf l)).length + 1) H5 p5 rfl (by simp)
    have t7 := st_s p 1 (some ⟨H.length + 3, 0, none⟩) ((cvs (valsOf l)).length + 1) ((cvs (valsOf l)).length + 1) (H5.put p ⟨[.slice (some ⟨H.length + 2, 0, none⟩) ((cvs (keysOf l)).length + 1) ((cvs (keysOf l)).length + 1), sv], ty, 1, false⟩) (get_put p5) rfl (by simp)
    simp only [List.set_cons_zero, List.set_cons_succ] at t6 t7
    obtain ⟨H7, e7⟩ : ∃ x, x = (H5.put p ⟨[.slice (some ⟨H.length + 2, 0, none⟩) ((cvs (keysOf l)).length + 1) ((cvs (keysOf l)).length + 1), sv], ty, 1, false⟩).put p ⟨[.slice (some ⟨H.length + 2, 0, none⟩) ((cvs (keysOf l)).length + 1) ((cvs (keysOf l)).length + 1), .slice (some ⟨H.length + 3, 0, none⟩) ((cvs (valsOf l)).length + 1) ((cvs (valsOf l)).length + 1)], ty, 1, false⟩ := ⟨_, rfl⟩
    rw [← e7] at t7
    have e7' : H7 = H5.put p ⟨[.slice (some ⟨H.length + 2, 0, none⟩) ((cvs (keysOf l)).length + 1) ((cvs (keysOf l)).length + 1), .slice (some ⟨H.length + 3, 0, none⟩) ((cvs (valsOf l)).length + 1) ((cvs (valsOf l)).length + 1)], ty, 1, false⟩ := by rw [e7]; exact put_put
    have kk : cvs (keysOf (mput l k v)) = (cvs (keysOf l)).take (mplc l k) ++ cv k :: (cvs (keysOf l)).drop (mplc l k) := by rw [keys_mput, hc]; simp [List.map_take, List.map_drop]
    have vv : cvs (valsOf (mput l k v)) = (cvs (valsOf l)).take (mplc l k) ++ cv v :: (cvs (valsOf l)).drop (mplc l k) := by rw [vals_mput, hc]; simp [List.map_take, List.map_drop]
    have ck : (cvs (keysOf (mput l k v))).length = (cvs (keysOf l)).length + 1 := by simp [len_mput, hc]
    have cv' : (cvs (valsOf (mput l k v))).length = (cvs (valsOf l)).length + 1 := by simp [len_mput, hc]
    refine ⟨H7, (o.up (H.length + 2) p).up (H.length + 3) p, ?_, ⟨⟨_, _, some (H.length + 2), some (H.length + 3), ty, by rw [e7']; exact get_put p5, ?_, ?_, by simp; omega, by simp; omega, by simp⟩, by rw [up_ne (by omega), up_ne (by omega)]; exact ho, asc_mput ha k v, by rw [len_mput, hc]; simp; omega⟩, ?_⟩
    · simp only [List.length_map] at i3 i5 t6 t7
      rw [Nat.add_zero] at lay
      simp -implicitDefEqProofs [F42, nck_pv, fad_pv, ld1_pv _ _ _ hp, hb, ext_i, holesK, ← e1, P _ (s1 p hpl), P _ (s2 p hpl), P _ p3, P _ p4, b1, i3, i5, ins_run, lay, t6, t7, hk.eqV, hv.eqV, mget, hc]
    · refine ⟨_, [], 2, by rw [ck], ?_, by rw [ck]; rfl, rfl, by rw [up_ne (by omega), up_self]⟩
      rw [kk, e7', get_put_ne (by omega), get_slot (s5 _ (by omega) (fun e => by have := lv _ e; omega)), get_slot (s4 _ (by omega)), List.append_nil]; exact g3
    · refine ⟨_, [], 2, by rw [cv'], ?_, by rw [cv']; rfl, rfl, up_self⟩
      rw [vv, e7', get_put_ne (by omega), List.append_nil]; exact g5
    · refine ⟨fun q hq hn => ?_, fun q hq => by rw [up_ne (by omega), up_ne (by omega)], by rw [e7', put_len, l5]; omega⟩
      have n1 : q ≠ p := by rintro rfl; exact hn (by simp [ho])
      have n2 : bk ≠ some q := fun e => hn (by simp [(hk.lt' e).2])
      have n3 : bv ≠ some q := fun e => hn (by simp [(hv.lt' e).2])
      rw [e7', slot_put n1, s5 q (by omega) n3, s4 q (by omega), s3 q hq n2]
/-! Delete -/
theorem Delete_runs {G : Oracle} {s : Value} {cs : List Int} {b : Option Nat} {P : Int} (hs : Sl H o P s (cvs cs) b) {i : Nat} (hi : i < cs.length) (hl : cs.length ≤ 4194304) :
    ∃ q c s', b = some q ∧ run G (n + 1) 62 [s, cv i, cv ((i : Int) + 1)] H = some (s', H.put q c) ∧ Sl (H.put q c) o P s' (cvs (cs.take i ++ cs.drop (i + 1))) b ∧ ∃ m k, s' = .slice (some ⟨q, 0, none⟩) m k := by
  cases b with
  | none => obtain ⟨_, h⟩ := hs; simp at h; subst h; simp at hi
  | some q =>
    obtain ⟨cap, rest, ty, rfl, hb, hc, hp, hq⟩ := hs
    simp only [List.length_map] at hc
    have hbl := get_lt hb
    rw [F62_eq]
    let D : List Value := cvs (cs.take i ++ cs.drop (i + 1)) ++ ((cvs cs).drop (cs.length - 1) ++ rest)
    have hlen : (cs.take i ++ cs.drop (i + 1)).length = cs.length - 1 := by simp; omega
    have hDl : D.length = cap := by simp [D]; omega
    have happ : appS 2 1 8 (.slice (some ⟨q, 0, none⟩) i cap) (.slice (some ⟨q, i + 1, none⟩) (cs.length - (i + 1)) (cap - (i + 1))) H = some (.slice (some ⟨q, 0, none⟩) (cs.length - 1) cap, H.put q ⟨D, ty, 1, false⟩) := by
      by_cases hn : cs.length - (i + 1) = 0
      · have hi' : i = cs.length - 1 := by omega
        have hD : D = cvs cs ++ rest := by
          have e1 : cs.drop (i + 1) = [] := List.drop_eq_nil_of_le (by omega)
          have e2 : cvs (cs.take i) ++ (cvs cs).drop (cs.length - 1) = cvs cs := by
            rw [hi']
            simp only [cvs, List.map_take]
            exact List.take_append_drop _ _
          simp only [D, e1, List.append_nil]
          rw [← List.append_assoc, e2]
        rw [hD, put_same hb]
        simp only [appS, srcCells, hn, if_true, Option.map_some]
        rw [if_pos (by omega)]
        simp only [Nat.add_zero, hi']
      · have hld : ldCells H q (i + 1) ((cs.length - (i + 1)) * 1) = some ((cvs cs).drop (i + 1)) := by
          simp only [ldCells, hb, Nat.mul_one]
          rw [if_pos (by simp; omega), List.drop_append_of_le_length (by simp; omega), List.take_left' (by simp)]
        have hone : ((cvs cs).drop (i + 1)).all oneCell = true := by
          rw [List.all_eq_true]
          intro x hx
          obtain ⟨y, _, rfl⟩ := List.mem_map.1 (List.mem_of_mem_drop hx)
          rfl
        have hdl : ((cvs cs).drop (i + 1)).length = cs.length - (i + 1) := by simp
        have hsp : splice (cvs cs ++ rest) i ((cvs cs).drop (i + 1)) = D := by
          rw [splice_eq _ _ _ (by rw [hdl]; simp; omega), hdl]
          simp only [D]
          rw [List.take_append_of_le_length (by simp; omega), show i + (cs.length - (i + 1)) = cs.length - 1 by omega, List.drop_append_of_le_length (by simp)]
          simp [List.map_take, List.map_drop]
        have hst : stCells H q (0 + i * 1) ((cvs cs).drop (i + 1)) = some (H.put q ⟨D, ty, 1, false⟩) := by
          simp only [stCells, hb, hone]
          rw [if_pos (by simp; omega)]
          rw [show 0 + i * 1 = i by omega, hsp]
        simp only [appS, srcCells, hn, if_false, hld, Option.map_some]
        rw [if_pos (by omega)]
        simp only [hb, if_true, hst, Option.map_some]
        rw [show i + (cs.length - (i + 1)) = cs.length - 1 by omega]
    have hb2 : (H.put q ⟨D, ty, 1, false⟩).get q = some ⟨D, ty, 1, false⟩ := get_put hb
    let E : List Value := cvs (cs.take i ++ cs.drop (i + 1)) ++ (cv 0 :: rest)
    have hsp2 : splice D (cs.length - 1) [cv 0] = E := by
      rw [splice_eq _ _ _ (by simp only [List.length_singleton, hDl]; omega)]
      have e1 : D.take (cs.length - 1) = cvs (cs.take i ++ cs.drop (i + 1)) := by
        simp only [D]; exact List.take_left' (by rw [List.length_map, hlen])
      have e2 : D.drop (cs.length - 1 + 1) = rest := by
        have : D = (cvs (cs.take i ++ cs.drop (i + 1)) ++ (cvs cs).drop (cs.length - 1)) ++ rest := by simp only [D, List.append_assoc]
        rw [this]
        exact List.drop_left' (by rw [List.length_append, List.length_map, hlen]; simp; omega)
      rw [e1, List.length_singleton, e2]
      simp [E]
    have hclr : clrS [cv 0] (.slice (some ⟨q, cs.length - 1, none⟩) 1 (cap - (cs.length - 1))) (H.put q ⟨D, ty, 1, false⟩) = some (undef, H.put q ⟨E, ty, 1, false⟩) := by
      have : stCells (H.put q ⟨D, ty, 1, false⟩) q (cs.length - 1) [cv 0] = some (H.put q ⟨E, ty, 1, false⟩) := by
        simp only [stCells, hb2]
        rw [if_pos (by simp [oneCell, hDl]; omega), hsp2, put_put]
      simp [clrS, zeros, this]
    refine ⟨q, ⟨E, ty, 1, false⟩, .slice (some ⟨q, 0, none⟩) (cs.length - 1) cap, rfl, ?_, ⟨cap, cv 0 :: rest, ty, by rw [List.length_map, hlen], get_put hb, by rw [List.length_map, hlen]; simp; omega, by simpa [plainV] using hp, hq⟩, _, _, rfl⟩
    have k1 : (i : Int) + 1 ≤ (cs.length : Int) := by omega
    have k2 : cs.length ≤ cap := by omega
    have k3 : ¬ ((i : Int) = (i : Int) + 1) := by omega
    have k4 : (0 : Int) ≤ (i : Int) + 1 := by omega
    have k5 : ((i : Int) + 1).toNat = i + 1 := by omega
    have k6 : (i : Int) ≤ cap := by omega
    have k7 : (i : Int) ≤ (i : Int) + 1 := by omega
    have k8 : ((cs.length - 1 : Nat) : Int) ≤ (cs.length : Int) := by omega
    have k9 : cs.length - (cs.length - 1) = 1 := by omega
    have k10 : i ≤ cap := by omega
    simp -implicitDefEqProofs [F62, slen_s, scut3, scut, boundOf, intOfV, hb, hb2, k1, k2, k3, k4, k5, k6, k7, k8, k9, k10, eql_int, happ, hclr]
theorem len_mdel (l : PL) (k : Int) : (mdel l k).length ≤ l.length := by
  have h : (keysOf (mdel l k)).length = (mdel l k).length := by simp
  rw [← h, keys_mdel]
  have hle := mplc_le l k
  split
  · simp; omega
  · simp
theorem Del_runs {G : Oracle} (h : MapR H o p l) (k : Int) (hn : 4194304 < n) :
    ∃ H', run G (n + 4) 50 [pv p, cv k] H = some (.tuple #[cv (mget l k), .bool (mhas l k)], H') ∧ MapR H' o p (mdel l k) ∧ Fr H o H' o [p] := by
  obtain ⟨⟨sk, sv, bk, bv, ty, hp, hk, hv, hb1, hb2, hb3⟩, ho, ha, hf⟩ := h
  have hpl := get_lt hp
  have hb := Bin_runs (G := G) hk ha (by simpa using hf) k hn
  change run G (n + 3) _ _ _ = some (.tuple #[cv (mplc l k), .bool (mhas l k)], H) at hb
  rw [F50_eq]
  cases hc : mhas l k with
  | false =>
    rw [hc] at hb
    refine ⟨H, ?_, ⟨⟨sk, sv, bk, bv, ty, hp, ?_, ?_, hb1, hb2, hb3⟩, ho, asc_mdel ha k, Nat.le_trans (len_mdel l k) hf⟩, .refl _ _ _⟩
    · simp -implicitDefEqProofs [F50, nck_pv, fad_pv, ld1_pv _ _ _ hp, hb, ext_i, not_bool, mget, hc]
    · rw [keys_mdel, hc]; exact hk
    · rw [vals_mdel, hc]; exact hv
  | true =>
    rw [hc] at hb
    obtain ⟨h1, h2⟩ := mhas_lt hc
    obtain ⟨q, _, hix, hld⟩ := hv.idx (vals_get h1)
    have hw : IntKind.i64.wrap ((mplc l k : Int) + 1) = (mplc l k : Int) + 1 := w64 (by omega)
    obtain ⟨qk, ck, sk', ek, rk, hk', nk, mk, hsk⟩ := Delete_runs (G := G) (n := n + 2) hk (i := mplc l k) (by simpa using h1) (by simpa using hf)
    have nkp : qk ≠ p := by rintro rfl; exact hb1 ek
    have okp : o qk = p := (hk.lt' ek).2
    have hv1 : Sl (H.put qk ck) o p sv (cvs (valsOf l)) bv := hv.mv fun q' e' => ⟨slot_put (by rintro rfl; exact hb3 _ ek e'), rfl⟩
    obtain ⟨qv, cv', sv', ev, rv, hv', nv, mv, hsv⟩ := Delete_runs (G := G) (n := n + 2) hv1 (i := mplc l k) (by simpa using h1) (by simpa using hf)
    have nvp : qv ≠ p := by rintro rfl; exact hb2 ev
    have ovp : o qv = p := (hv.lt' ev).2
    have nkv : qk ≠ qv := by rintro rfl; exact hb3 _ ek ev
    have p1 : (H.put qk ck).get p = some ⟨[sk, sv], ty, 1, false⟩ := by rw [get_put_ne nkp.symm]; exact hp
    have p2 : ((H.put qk ck).put qv cv').get p = some ⟨[sk, sv], ty, 1, false⟩ := by rw [get_put_ne nvp.symm]; exact p1
    have t3 := st_s p 0 (some ⟨qk, 0, none⟩) nk mk _ p2 rfl (by simp)
    have t4 := st_s p 1 (some ⟨qv, 0, none⟩) nv mv _ (get_put (c := ⟨[.slice (some ⟨qk, 0, none⟩) nk mk, sv], ty, 1, false⟩) p2) rfl (by simp)
    simp only [List.set_cons_zero, List.set_cons_succ, put_put] at t3 t4
    subst hsk hsv
    refine ⟨((H.put qk ck).put qv cv').put p ⟨[.slice (some ⟨qk, 0, none⟩) nk mk, .slice (some ⟨qv, 0, none⟩) nv mv], ty, 1, false⟩, ?_,
      ⟨⟨_, _, bk, bv, ty, get_put p2, ?_, ?_, hb1, hb2, hb3⟩, ho, asc_mdel ha k, Nat.le_trans (len_mdel l k) hf⟩, (((Fr.refl _ _ _).put fun _ => by simp [okp]).put fun _ => by simp [ovp]).put fun _ => by simp [ho]⟩
    · simp -implicitDefEqProofs [-List.getD_eq_getElem?_getD, F50, nck_pv, fad_pv, ld1_pv _ _ _ hp, ld1_pv _ _ _ p1, hb, ext_i, not_bool, mget, hc, hix, hld H rfl, add_int, hw, rk, rv, t3, t4, hv.eqV]
    · rw [keys_mdel, hc]
      exact hk'.mv fun q' e' => by
        obtain rfl : qk = q' := by rw [ek] at e'; exact Option.some.inj e'
        exact ⟨by rw [slot_put nkp, slot_put nkv], rfl⟩
    · rw [vals_mdel, hc]
      exact hv'.mv fun q' e' => by
        obtain rfl : qv = q' := by rw [ev] at e'; exact Option.some.inj e'
        exact ⟨by rw [slot_put nvp], rfl⟩
end
end Go.Proofs.Ytgakioiplkehgaa.Fun
