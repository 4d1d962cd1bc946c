/- The document's memory over the abstract machine: what each of its functions comes to. -/
import Derived.Test.YtpenlcigickkbaaFun0
import Derived.Test.YtpenlcigickkbaaFun1
import Derived.Test.YtpenlcigickkbaaFun2
import Derived.Test.YtpenlcigickkbaaFun3
import Derived.Test.YtpenlcigickkbaaFun4
import Derived.Test.YtpenlcigickkbaaFun5
import Derived.Test.YtpenlcigickkbaaRef
namespace Go.Proofs.Ytpenlcigickkbaa.Fun
open Go.RowKit Go.Proofs.YtpenlcigickkbaaA.Am
set_option linter.unusedVariables false
set_option linter.unusedSimpArgs false
abbrev hr (s : Value) (M : MV) (ty : TypeId) : Blk := ⟨[cv M.max, s, cv M.cnt, cv M.odd, cv M.rej], ty, 1, false⟩
/-- The document's memory in a heap. -/
structure RefR (H : Heap) (o : Own) (p : Nat) (M : MV) : Prop where
  is : ∃ s ty, H.get p = some (hr s M ty) ∧ Sli H o p s M.cs ∧ ∀ n k, s ≠ .slice (some ⟨p, 0, none⟩) n k
  own : o p = (p : Int)
  fits : M.cs.length ≤ 65536
theorem RefR.lt {H : Heap} {o : Own} {p : Nat} {M : MV} (h : RefR H o p M) : p < H.length := by obtain ⟨⟨_, _, h, _⟩, _⟩ := h; exact get_lt h
theorem RefR.fr {H H' : Heap} {o o' : Own} {p : Nat} {M : MV} {ps : List Int} (h : RefR H o p M) (f : Fr H o H' o' ps) (hp : (p : Int) ∉ ps) : RefR H' o' p M := by
  have hl := h.lt
  obtain ⟨⟨s, ty, h1, h2, h3⟩, h4, h5⟩ := h
  exact ⟨⟨s, ty, by rw [f.same p hl (by rw [h4]; exact hp)]; exact h1, h2.fr f hp, h3⟩, by rw [f.own p hl]; exact h4, h5⟩
section
variable {G : Oracle} {H : Heap} {o : Own} {p : Nat} {M : MV}
/-- Its length, its slice. -/
theorem RefR.open (h : RefR H o p M) : ∃ s ty, H.get p = some (hr s M ty) ∧ IntsR H o p s M.cs := by
  obtain ⟨⟨s, ty, hp, hs, _⟩, _, _⟩ := h
  exact ⟨s, ty, hp, hs.ints⟩
theorem RAt7_runs (h : RefR H o p M) (a : Int) (n : Nat) : run G (n + 1) 34 [pv p, cv a] H = some (cv (M.at a), H) := by
  rw [F34_eq]
  obtain ⟨⟨s, ty, hp, hs, _⟩, _, hf⟩ := h
  have hl := hs.ints.1.len
  by_cases h1 : a < 1
  · simp -implicitDefEqProofs [F34, lss_int, h1, pick_bool, MV.at, undef]
  · by_cases h2 : a > (M.cs.length : Int)
    · simp -implicitDefEqProofs [F34, lss_int, h1, pick_bool, MV.at, fad_pv, nck_pv, ld1_pv _ _ _ hp, hl, gtr_int, h2]
      rw [List.getElem?_eq_none (by omega)]; rfl
    · obtain ⟨j, rfl⟩ : ∃ j : Nat, a = j + 1 := ⟨a.toNat - 1, by omega⟩
      have hw : IntKind.i64.wrap (j : Int) = j := w64 (by omega)
      obtain ⟨i, off, b, hi, hb, hc⟩ := hs.ints.1.idx (j := j) (by omega)
      rw [at_in]
      simp -implicitDefEqProofs [-List.getD_eq_getElem?_getD, F34, lss_int, h1, pick_bool, fad_pv, nck_pv, ld1_pv _ _ _ hp, hl, gtr_int, h2, sub_int, hw, hi, ld1_pv _ _ _ hb, hc]
theorem RefR.counted {s : Value} {ty : TypeId} {M' : MV} (hp : H.get p = some (hr s M ty)) (hs : Sli H o p s M.cs) (hn : ∀ n k, s ≠ .slice (some ⟨p, 0, none⟩) n k) (ho : o p = (p : Int)) (hf : M.cs.length ≤ 65536) (e : M'.cs = M.cs) :
    RefR (H.put p (hr s M' ty)) o p M' ∧ Fr H o (H.put p (hr s M' ty)) o [p] :=
  ⟨⟨⟨s, ty, get_put hp, by rw [e]; exact hs.put hn, hn⟩, ho, by rw [e]; exact hf⟩, (Fr.refl _ _ _).put fun _ => by simp [ho]⟩
theorem Has_spec {s : Value} {ty : TypeId} (hp : H.get p = some (hr s M ty)) (hs : Sli H o p s M.cs) (hf : M.cs.length ≤ 65536) (a : Int) (n : Nat) :
    run G (n + 1) 81 [pv p, cv a] H = some (.bool (decide (1 ≤ a ∧ a ≤ M.cs.length)), H.put p (hr s (M.seen a) ty)) := by
  rw [F81_eq]
  have hl := hs.ints.1.len
  have l0 := fun (c : Blk) (o : Nat) => ld1_pv p o _ (get_put (c := c) hp)
  have t0 := fun (c : Blk) (o : Nat) (x : Int) => st_pv p o x _ (get_put (c := c) hp)
  by_cases h1 : a < 1
  · have hn : ¬ (1 ≤ a ∧ a ≤ (M.cs.length : Int)) := by omega
    rw [seen_out hn]
    simp -implicitDefEqProofs [F81, fad_pv, nck_pv, ld1_pv _ _ _ hp, add_int, st_pv _ _ _ _ hp, lss_int, h1, pick_bool, l0, t0, put_put, MV.acc, MV.oddly]
    try omega
  · by_cases h2 : a > (M.cs.length : Int)
    · have hn : ¬ (1 ≤ a ∧ a ≤ (M.cs.length : Int)) := by omega
      rw [seen_out hn]
      simp -implicitDefEqProofs [F81, fad_pv, nck_pv, ld1_pv _ _ _ hp, add_int, st_pv _ _ _ _ hp, lss_int, gtr_int, h1, h2, hl, pick_bool, l0, t0, put_put, MV.acc, MV.oddly]
      try omega
    · have hn : (1 ≤ a ∧ a ≤ (M.cs.length : Int)) := by omega
      have hse : M.seen a = M.acc := by simp only [MV.seen, hn, and_self, if_true]
      rw [hse]
      simp -implicitDefEqProofs [F81, fad_pv, nck_pv, ld1_pv _ _ _ hp, add_int, st_pv _ _ _ _ hp, lss_int, gtr_int, h1, h2, hl, pick_bool, l0, t0, put_put, MV.acc, MV.oddly]
      try omega
theorem RRead_runs (h : RefR H o p M) (a : Int) (n : Nat) :
    ∃ H', run G (n + 2) 70 [pv p, cv a] H = some (cv (M.at a), H') ∧ RefR H' o p (M.seen a) ∧ Fr H o H' o [p] := by
  obtain ⟨⟨s, ty, hp, hs, hn⟩, ho, hf⟩ := h
  refine ⟨H.put p (hr s (M.seen a) ty), ?_, RefR.counted hp hs hn ho hf (seen_cs M a)⟩
  rw [F70_eq]
  have hc := Has_spec (G := G) hp hs hf a n
  by_cases h : 1 ≤ a ∧ a ≤ M.cs.length
  · rw [decide_eq_true h] at hc
    obtain ⟨j, rfl⟩ : ∃ j : Nat, a = j + 1 := ⟨a.toNat - 1, by omega⟩
    obtain ⟨i, off, b, hi, hb, hcc⟩ := (hs.put (c := hr s (M.seen ((j : Int) + 1)) ty) hn).ints.1.idx (j := j) (by omega)
    have hw : IntKind.i64.wrap (j : Int) = j := w64 (by omega)
    rw [at_in]
    simp -implicitDefEqProofs [-List.getD_eq_getElem?_getD, F70, hc, not_bool, nck_pv, fad_pv, ld1_pv _ _ _ (get_put hp), sub_int, hw, hi, ld1_pv _ _ _ hb, hcc]
  · rw [at_out M a h]
    rw [decide_eq_false h] at hc
    simp -implicitDefEqProofs [F70, hc, not_bool]
/-- A cell turned. -/
theorem RefR.turned {s : Value} {ty : TypeId} {M' : MV} (hp : H.get p = some (hr s M ty)) (hs : Sli H o p s M.cs) (hn : ∀ n k, s ≠ .slice (some ⟨p, 0, none⟩) n k) (ho : o p = (p : Int)) (hf : M.cs.length ≤ 65536) (e : M'.cs = M.cs) {j : Nat} (hj : j < M.cs.length) (x : Int) :
    ∃ q b c, (∀ H', iadS 1 s (cv j) H' = some (.pointer (some ⟨q, j, none⟩), H')) ∧ (H.put p (hr s M' ty)).get q = some b ∧ b.cells[j]? = some (cv (M.cs.getD j 0)) ∧
      stS 1 (.pointer (some ⟨q, j, none⟩)) (cv x) (H.put p (hr s M' ty)) = some (undef, (H.put p (hr s M' ty)).put q c) ∧
      RefR ((H.put p (hr s M' ty)).put q c) o p (M'.set ((j : Int) + 1) x) ∧ Fr H o ((H.put p (hr s M' ty)).put q c) o [p] := by
  obtain ⟨q, b, c, hix, hb, _, hoq, hcc, ⟨n1, k1, rfl⟩, hst, hs2⟩ := (hs.put (c := hr s M' ty) hn).set (j := j) hj x
  have hqp : q ≠ p := by rintro rfl; exact hn _ _ rfl
  have e2 : ((j : Int) + 1).toNat - 1 = j := by omega
  refine ⟨q, b, c, hix, hb, hcc, hst, ⟨⟨_, ty, ?_, ?_, hn⟩, ho, ?_⟩, ((Fr.refl _ _ _).put fun _ => by simp [ho]).put fun _ => by simp [hoq]⟩
  · rw [get_put_ne (fun e => hqp e.symm)]; exact get_put hp
  · simp only [MV.set, e2, e]; exact hs2
  · simp only [MV.set, List.length_set, e]; exact hf
theorem RWrite_runs (h : RefR H o p M) (a x : Int) (n : Nat) :
    ∃ H', run G (n + 2) 71 [pv p, cv a, cv x] H = some (.tuple #[], H') ∧ RefR H' o p (M.wrote a x) ∧ Fr H o H' o [p] := by
  obtain ⟨⟨s, ty, hp, hs, hn⟩, ho, hf⟩ := h
  rw [F71_eq]
  have hc := Has_spec (G := G) hp hs hf a n
  by_cases h : 1 ≤ a ∧ a ≤ M.cs.length
  · rw [decide_eq_true h] at hc
    obtain ⟨j, rfl⟩ : ∃ j : Nat, a = j + 1 := ⟨a.toNat - 1, by omega⟩
    have hse : M.seen ((j : Int) + 1) = M.acc := by simp only [MV.seen, h, and_self, if_true]
    rw [hse] at hc
    obtain ⟨q, b, c, hi, hb, hcc, hst, hm, hfr⟩ := RefR.turned (M' := M.acc) hp hs hn ho hf rfl (j := j) (by omega) x
    have hw : IntKind.i64.wrap (j : Int) = j := w64 (by omega)
    have ew : M.wrote ((j : Int) + 1) x = M.acc.set ((j : Int) + 1) x := by simp only [MV.wrote, h, and_self, if_true]
    rw [ew]
    exact ⟨_, by simp -implicitDefEqProofs [F71, hc, nck_pv, fad_pv, ld1_pv _ _ _ (get_put hp), sub_int, hw, hi, hst], hm, hfr⟩
  · rw [seen_out h, decide_eq_false h] at hc
    rw [wrote_out h]
    exact ⟨_, by simp -implicitDefEqProofs [F71, hc], RefR.counted hp hs hn ho hf rfl⟩
theorem RCas_runs (h : RefR H o p M) (a old x : Int) (n : Nat) :
    ∃ H', run G (n + 2) 72 [pv p, cv a, cv old, cv x] H = some (.bool (M.fit a old), H') ∧ RefR H' o p (M.cas a old x) ∧ Fr H o H' o [p] := by
  obtain ⟨⟨s, ty, hp, hs, hn⟩, ho, hf⟩ := h
  rw [F72_eq]
  have hc := Has_spec (G := G) hp hs hf a n
  by_cases h : 1 ≤ a ∧ a ≤ M.cs.length
  · rw [decide_eq_true h] at hc
    obtain ⟨j, rfl⟩ : ∃ j : Nat, a = j + 1 := ⟨a.toNat - 1, by omega⟩
    have hse : M.seen ((j : Int) + 1) = M.acc := by simp only [MV.seen, h, and_self, if_true]
    rw [hse] at hc
    obtain ⟨q, b, c, hi, hb, hcc, hst, hm, hfr⟩ := RefR.turned (M' := M.acc) hp hs hn ho hf rfl (j := j) (by omega) x
    have hw : IntKind.i64.wrap (j : Int) = j := w64 (by omega)
    by_cases hold : M.cs.getD j 0 = old
    · have hfit : M.fit ((j : Int) + 1) old = true := by simp only [MV.fit, at_in, hold, decide_eq_true_eq, and_true]; exact h
      have ew : M.cas ((j : Int) + 1) old x = M.acc.set ((j : Int) + 1) x := by simp only [MV.cas, hfit, if_true]
      rw [hfit, ew]
      exact ⟨_, by simp -implicitDefEqProofs [-List.getD_eq_getElem?_getD, F72, hc, not_bool, nck_pv, fad_pv, ld1_pv _ _ _ (get_put hp), sub_int, hw, hi, ld1_pv _ _ _ hb, hcc, neq_int, hold, pick_bool, hst], hm, hfr⟩
    · have hfit : M.fit ((j : Int) + 1) old = false := by simp only [MV.fit, at_in, hold, and_false, decide_false]
      have ew : M.cas ((j : Int) + 1) old x = M.acc := by simp only [MV.cas, hfit, Bool.false_eq_true, if_false, MV.seen, h, and_self, if_true]
      rw [hfit, ew]
      exact ⟨_, by simp -implicitDefEqProofs [-List.getD_eq_getElem?_getD, F72, hc, not_bool, nck_pv, fad_pv, ld1_pv _ _ _ (get_put hp), sub_int, hw, hi, ld1_pv _ _ _ hb, hcc, neq_int, hold, pick_bool], RefR.counted hp hs hn ho hf rfl⟩
  · rw [seen_out h, decide_eq_false h] at hc
    rw [fit_out h, cas_out h]
    exact ⟨_, by simp -implicitDefEqProofs [F72, hc, not_bool, pick_bool], RefR.counted hp hs hn ho hf rfl⟩
theorem RAdd_runs (h : RefR H o p M) (a x : Int) (n : Nat) :
    ∃ H', run G (n + 2) 73 [pv p, cv a, cv x] H = some (cv (M.at a), H') ∧ RefR H' o p (M.added a x) ∧ Fr H o H' o [p] := by
  obtain ⟨⟨s, ty, hp, hs, hn⟩, ho, hf⟩ := h
  rw [F73_eq]
  have hc := Has_spec (G := G) hp hs hf a n
  by_cases h : 1 ≤ a ∧ a ≤ M.cs.length
  · rw [decide_eq_true h] at hc
    obtain ⟨j, rfl⟩ : ∃ j : Nat, a = j + 1 := ⟨a.toNat - 1, by omega⟩
    have hse : M.seen ((j : Int) + 1) = M.acc := by simp only [MV.seen, h, and_self, if_true]
    rw [hse] at hc
    obtain ⟨q, b, c, hi, hb, hcc, hst, hm, hfr⟩ := RefR.turned (M' := M.acc) hp hs hn ho hf rfl (j := j) (by omega) (IntKind.i64.wrap (M.cs.getD j 0 + x))
    have hw : IntKind.i64.wrap (j : Int) = j := w64 (by omega)
    rw [at_in]
    have ew : M.added ((j : Int) + 1) x = M.acc.set ((j : Int) + 1) (IntKind.i64.wrap (M.cs.getD j 0 + x)) := by simp only [MV.added, at_in, h, and_self, if_true]
    rw [ew]
    exact ⟨_, by simp -implicitDefEqProofs [-List.getD_eq_getElem?_getD, F73, hc, not_bool, nck_pv, fad_pv, ld1_pv _ _ _ (get_put hp), sub_int, hw, hi, ld1_pv _ _ _ hb, hcc, add_int, hst], hm, hfr⟩
  · rw [seen_out h, decide_eq_false h] at hc
    rw [added_out h, at_out M a h]
    exact ⟨_, by simp -implicitDefEqProofs [F73, hc, not_bool], RefR.counted hp hs hn ho hf rfl⟩
theorem RMake_runs {x : Value} {l : List Int} {q : Int} (h : RefR H o p M) (hx : IntsR H o q x l) (hqp : q ≠ p) (hm : 0 ≤ M.max ∧ M.max ≤ 65536) (hle : (M.cs.length : Int) ≤ M.max) (hl : l.length < 2 ^ 62) (n : Nat) :
    ∃ H' o', run G (n + 1) 69 [pv p, x] H = some (.tuple #[cv (if M.room l.length then M.cs.length + 1 else 0), .bool (M.room l.length)], H') ∧ RefR H' o' p (M.made l) ∧ Fr H o H' o' [p] := by
  obtain ⟨⟨s, ty, hp, hs, hn⟩, ho, hf⟩ := h
  rw [F69_eq]
  have hll := hs.ints.1.len
  have hxl := hx.1.len
  have l0 := fun (c : Blk) (o : Nat) => ld1_pv p o _ (get_put (c := c) hp)
  have t0 := fun (c : Blk) (o : Nat) (x : Int) => st_pv p o x _ (get_put (c := c) hp)
  have hw : IntKind.i64.wrap (M.max - M.cs.length) = M.max - M.cs.length := w64 (by omega)
  by_cases h1 : l.length = 0
  · have hrm : M.room l.length = false := by simp [MV.room, h1]
    have ew : M.made l = { M with cnt := IntKind.i64.wrap (M.cnt + 1), rej := IntKind.i64.wrap (M.rej + 1) } := by simp only [MV.made, hrm, Bool.false_eq_true, if_false]
    rw [hrm, ew]
    exact ⟨_, o, by simp -implicitDefEqProofs [F69, fad_pv, nck_pv, ld1_pv _ _ _ hp, add_int, st_pv _ _ _ _ hp, hxl, h1, eql_int, pick_bool, l0, t0, put_put], RefR.counted hp hs hn ho hf rfl⟩
  · have hnil : l ≠ [] := by intro e; simp [e] at h1
    by_cases h2 : (l.length : Int) ≤ M.max - M.cs.length
    · have hrm : M.room l.length = true := by simp only [MV.room, decide_eq_true_eq]; exact ⟨h1, h2⟩
      have h2' : ¬ ((l.length : Int) > M.max - M.cs.length) := by omega
      have h1' : ¬ ((l.length : Int) = 0) := by omega
      have ew : M.made l = { M with cnt := IntKind.i64.wrap (M.cnt + 1), cs := M.cs ++ l } := by simp only [MV.made, hrm, if_true]
      rw [hrm, ew]
      have hw1 : IntKind.i64.wrap ((M.cs.length : Int) + 1) = M.cs.length + 1 := w64 (by omega)
      have f0 : Fr H o (H.put p (hr s M.acc ty)) o [p] := (Fr.refl _ _ _).put fun _ => by simp [ho]
      obtain ⟨s', H1, o1, ha, hs', hfr, hoth⟩ := app_spec 2 (hs.put (c := hr s M.acc ty) hn) (hx.fr f0 (by simpa using hqp)).1 (by omega)
      have hpl : p < (H.put p (hr s M.acc ty)).length := by rw [put_len]; exact get_lt hp
      obtain ⟨hp', hop, hn'⟩ := hoth p hn hpl
      have hp1 : H1.get p = some (hr s M.acc ty) := by rw [hp']; exact get_put hp
      obtain ⟨b0, c0, rfl⟩ := hs'.isSlice
      simp only [MV.acc] at ha
      refine ⟨_, o1, by simp -implicitDefEqProofs [-gt_iff_lt, F69, fad_pv, nck_pv, ld1_pv _ _ _ hp, add_int, sub_int, gtr_int, st_pv _ _ _ _ hp, hxl, hll, hnil, h1', h2', hw, hw1, eql_int, pick_bool, l0, t0, put_put, ha, st_s _ _ _ _ _ _ hp1, MV.acc], ⟨⟨_, ty, get_put hp1, hs'.put hn', hn'⟩, by rw [hop]; exact ho, by simp; omega⟩, (f0.tr hfr).put fun _ => by simp [ho]⟩
    · have hrm : M.room l.length = false := by simp only [MV.room, decide_eq_false_iff_not]; omega
      have h2' : ((l.length : Int) > M.max - M.cs.length) := by omega
      have h1' : ¬ ((l.length : Int) = 0) := by omega
      have ew : M.made l = { M with cnt := IntKind.i64.wrap (M.cnt + 1), rej := IntKind.i64.wrap (M.rej + 1) } := by simp only [MV.made, hrm, Bool.false_eq_true, if_false]
      rw [hrm, ew]
      exact ⟨_, o, by simp -implicitDefEqProofs [-gt_iff_lt, F69, fad_pv, nck_pv, ld1_pv _ _ _ hp, add_int, sub_int, gtr_int, st_pv _ _ _ _ hp, hxl, hll, hnil, h1', h2', hw, eql_int, pick_bool, l0, t0, put_put], RefR.counted hp hs hn ho hf rfl⟩
theorem rbuild_new (size : Int) : abuild Try.prog 51 [(0, cv size)] = some (.agg #[cv size, .slice none 0 0, cv 0, cv 0, cv 0]) := by kernel_rfl
theorem RNew_bad (size : Int) (h : ¬ (1 ≤ size ∧ size ≤ 65536)) (n : Nat) : run G (n + 1) 29 [cv size] H = some (.tuple #[.pointer none, cv 1], H) := by
  rw [F29_eq]
  by_cases h1 : size < 1
  · simp -implicitDefEqProofs [F29, lss_int, h1, pick_bool]
  · have h2 : size > 65536 := by omega
    simp -implicitDefEqProofs [-gt_iff_lt, F29, lss_int, gtr_int, h1, h2, pick_bool]
theorem RNew_runs (o : Own) (size : Int) (h : 1 ≤ size ∧ size ≤ 65536) (n : Nat) :
    ∃ H', run G (n + 1) 29 [cv size] H = some (.tuple #[pv H.length, cv 0], H') ∧ RefR H' (o.up H.length H.length) H.length (MV.fresh size) ∧ Fr H o H' (o.up H.length H.length) [] := by
  rw [F29_eq]
  have h1 : ¬ size < 1 := by omega
  have h2 : ¬ size > 65536 := by omega
  have hb : boxS 51 (.agg #[cv size, .slice none 0 0, cv 0, cv 0, cv 0]) H = some (pv H.length, H.new (hr (.slice none 0 0) (MV.fresh size) 51)) := by
    simp [boxS, Value.cells, oneCell, newBlk, MV.fresh]
  exact ⟨_, by simp -implicitDefEqProofs [-gt_iff_lt, F29, lss_int, gtr_int, h1, h2, pick_bool, rbuild_new, hb], ⟨⟨_, 51, get_new, .inl ⟨rfl, rfl⟩, by simp⟩, up_self, by simp [MV.fresh]⟩, (Fr.refl _ _ _).new _ _⟩
end
end Go.Proofs.Ytpenlcigickkbaa.Fun
