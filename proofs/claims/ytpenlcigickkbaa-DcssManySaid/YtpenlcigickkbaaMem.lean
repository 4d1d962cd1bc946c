/- mem's functions over the abstract machine: what each comes to. -/
import Derived.Test.YtpenlcigickkbaaFun0
import Derived.Test.YtpenlcigickkbaaFun1
import Derived.Test.YtpenlcigickkbaaFun2
import Derived.Test.YtpenlcigickkbaaFun3
import Derived.Test.YtpenlcigickkbaaFun4
import Derived.Test.YtpenlcigickkbaaFun5
import Derived.Test.YtpenlcigickkbaaAmHp
namespace Go.Proofs.Ytpenlcigickkbaa.Fun
open Go.RowKit Go.Proofs.YtpenlcigickkbaaA.Am
set_option linter.unusedVariables false
set_option linter.unusedSimpArgs false

/-- A memory, in plain words. -/
structure MV where
  cs : List Int
  max : Int
  cnt : Int
  odd : Int
  rej : Int
def MV.at (M : MV) (a : Int) : Int := if a < 1 then 0 else M.cs.getD (a.toNat - 1) 0
def MV.acc (M : MV) : MV := { M with cnt := IntKind.i64.wrap (M.cnt + 1) }
def MV.oddly (M : MV) : MV := { M with cnt := IntKind.i64.wrap (M.cnt + 1), odd := IntKind.i64.wrap (M.odd + 1) }
def MV.set (M : MV) (a : Int) (x : Int) : MV := { M with cs := M.cs.set (a.toNat - 1) x }
def MV.seen (M : MV) (a : Int) : MV := if 1 ≤ a ∧ a ≤ M.cs.length then M.acc else M.oddly
def MV.wrote (M : MV) (a x : Int) : MV := if 1 ≤ a ∧ a ≤ M.cs.length then M.acc.set a x else M.oddly
def MV.added (M : MV) (a x : Int) : MV := if 1 ≤ a ∧ a ≤ M.cs.length then M.acc.set a (IntKind.i64.wrap (M.at a + x)) else M.oddly
def MV.fit (M : MV) (a old : Int) : Bool := decide (1 ≤ a ∧ a ≤ M.cs.length ∧ M.at a = old)
def MV.cas (M : MV) (a old x : Int) : MV := if M.fit a old then M.acc.set a x else M.seen a
def MV.room (M : MV) (k : Nat) : Bool := decide (k ≠ 0 ∧ (k : Int) ≤ M.max - M.cs.length)
def MV.made (M : MV) (l : List Int) : MV :=
  if M.room l.length then { M with cnt := IntKind.i64.wrap (M.cnt + 1), cs := M.cs ++ l } else { M with cnt := IntKind.i64.wrap (M.cnt + 1), rej := IntKind.i64.wrap (M.rej + 1) }
def MV.fresh (size : Int) : MV := ⟨[], size, 0, 0, 0⟩
theorem at_in (M : MV) (j : Nat) : M.at ((j : Int) + 1) = M.cs.getD j 0 := by
  have e : ((j : Int) + 1).toNat - 1 = j := by omega
  have h1 : ¬ ((j : Int) + 1 < 1) := by omega
  simp only [MV.at, h1, if_false, e]
theorem at_out (M : MV) (a : Int) (h : ¬ (1 ≤ a ∧ a ≤ M.cs.length)) : M.at a = 0 := by
  unfold MV.at; split
  · rfl
  · rw [List.getD_eq_getElem?_getD, List.getElem?_eq_none (by omega)]; rfl

theorem wrote_out {M : MV} {a : Int} (h : ¬ (1 ≤ a ∧ a ≤ M.cs.length)) (x : Int) : M.wrote a x = M.oddly := by simp only [MV.wrote, h, if_false]
theorem seen_out {M : MV} {a : Int} (h : ¬ (1 ≤ a ∧ a ≤ M.cs.length)) : M.seen a = M.oddly := by simp only [MV.seen, h, if_false]
theorem added_out {M : MV} {a : Int} (h : ¬ (1 ≤ a ∧ a ≤ M.cs.length)) (x : Int) : M.added a x = M.oddly := by simp only [MV.added, h, if_false]
theorem fit_out {M : MV} {a : Int} (h : ¬ (1 ≤ a ∧ a ≤ M.cs.length)) (x : Int) : M.fit a x = false := by simp only [MV.fit, decide_eq_false_iff_not]; omega
theorem cas_out {M : MV} {a : Int} (h : ¬ (1 ≤ a ∧ a ≤ M.cs.length)) (x y : Int) : M.cas a x y = M.oddly := by simp only [MV.cas, fit_out h, Bool.false_eq_true, if_false, seen_out h]
theorem nm {k : Int} (h : k < 0) (p : Nat) : k ∉ [(p : Int)] := by simp; omega
theorem nm2 {p q : Nat} (h : p ≠ q) : (p : Int) ∉ [(q : Int)] := by simp; omega
theorem ptM : Try.prog.underlying 24 = some (.pointer 80) := by kernel_rfl
theorem made_cs (size : Int) (w : List Int) (h : (w.length : Int) ≤ size) : ((MV.fresh size).made w).cs = w := by
  unfold MV.made
  by_cases h0 : w = []
  · subst h0; simp [MV.room, MV.fresh]
  · have : (MV.fresh size).room w.length = true := by simp [MV.room, MV.fresh, h0]; omega
    rw [this]; simp [MV.fresh]
theorem made_cnt (M : MV) (w : List Int) : (M.made w).cnt = IntKind.i64.wrap (M.cnt + 1) := by unfold MV.made; split <;> rfl
theorem made_odd (M : MV) (w : List Int) : (M.made w).odd = M.odd := by unfold MV.made; split <;> rfl
theorem made_max (M : MV) (w : List Int) : (M.made w).max = M.max := by unfold MV.made; split <;> rfl

/-- What the memory's own block is, with the slice, the counts. -/
abbrev hd (s : Value) (M : MV) (ty : TypeId) : Blk := ⟨[s, cv M.max, cv M.cnt, cv M.odd, cv M.rej], ty, 1, false⟩
/-- A memory in a heap. -/
structure MemR (H : Heap) (o : Own) (p : Nat) (M : MV) : Prop where
  is : ∃ s ty, H.get p = some (hd s M ty) ∧ Sli H o p s M.cs ∧ ∀ n k, s ≠ .slice (some ⟨p, 0, none⟩) n k
  own : o p = (p : Int)
  fits : M.cs.length ≤ 65536
theorem MemR.lt {H : Heap} {o : Own} {p : Nat} {M : MV} (h : MemR H o p M) : p < H.length := by obtain ⟨⟨_, _, h, _⟩, _⟩ := h; exact get_lt h
theorem MemR.fr {H H' : Heap} {o o' : Own} {p : Nat} {M : MV} {ps : List Int} (h : MemR H o p M) (f : Fr H o H' o' ps) (hp : (p : Int) ∉ ps) : MemR H' o' p M := by
  have hl := h.lt
  obtain ⟨⟨s, ty, h1, h2, h3⟩, h4, h5⟩ := h
  exact ⟨⟨s, ty, by rw [f.same p hl (by rw [h4]; exact hp)]; exact h1, h2.fr f hp, h3⟩, by rw [f.own p hl]; exact h4, h5⟩
theorem ptI : Try.prog.underlying 81 = some (.pointer 2) := by kernel_rfl
theorem slI : Try.prog.underlying 28 = some (.slice 2) := by kernel_rfl
section
variable {G : Oracle} {H : Heap} {o : Own} {p : Nat} {M : MV}
theorem At_runs (h : MemR H o p M) (a : Int) (n : Nat) : run G (n + 1) 28 [pv p, cv a] H = some (cv (M.at a), H) := by
  rw [F28_eq]
  obtain ⟨⟨s, ty, hp, hs, _⟩, _, hf⟩ := h
  have hl := hs.ints.1.len
  by_cases h1 : a < 1
  · simp -implicitDefEqProofs [F28, lss_int, h1, pick_bool, MV.at, undef]
  · by_cases h2 : a > (M.cs.length : Int)
    · simp -implicitDefEqProofs [F28, lss_int, h1, pick_bool, MV.at, fad_pv, nck_pv, ld1_pv _ _ _ hp, hl, gtr_int, h2]
      rw [List.getElem?_eq_none (by omega)]; rfl
    · obtain ⟨j, rfl⟩ : ∃ j : Nat, a = j + 1 := ⟨a.toNat - 1, by omega⟩
      have hw : IntKind.i64.wrap (j : Int) = j := w64 (by omega)
      obtain ⟨i, off, b, hi, hb, hc⟩ := hs.ints.1.idx (j := j) (by omega)
      rw [at_in]
      simp -implicitDefEqProofs [-List.getD_eq_getElem?_getD, F28, lss_int, h1, pick_bool, fad_pv, nck_pv, ld1_pv _ _ _ hp, hl, gtr_int, h2, sub_int, hw, hi, ld1_pv _ _ _ hb, hc]

theorem Cell_spec {s : Value} {ty : TypeId} (hp : H.get p = some (hd s M ty)) (hs : Sli H o p s M.cs) (hf : M.cs.length ≤ 65536) (a : Int) (n : Nat) :
    run G (n + 1) 66 [pv p, cv a] H = (if 1 ≤ a ∧ a ≤ M.cs.length then
      match s with
      | .slice (some ⟨q, _, _⟩) _ _ => some (.pointer (some ⟨q, a.toNat - 1, none⟩), H.put p (hd s M.acc ty))
      | _ => none
    else some (.pointer none, H.put p (hd s M.oddly ty))) := by
  rw [F66_eq]
  have hl := hs.ints.1.len
  have l0 := fun (c : Blk) (o : Nat) => ld1_pv p o _ (get_put (c := c) hp)
  have t0 := fun (c : Blk) (o : Nat) (x : Int) => st_pv p o x _ (get_put (c := c) hp)
  by_cases h1 : a < 1
  · rw [if_neg (by omega)]
    simp -implicitDefEqProofs [F66, fad_pv, nck_pv, ld1_pv _ _ _ hp, add_int, st_pv _ _ _ _ hp, lss_int, h1, pick_bool, l0, t0, put_put, MV.acc, MV.oddly]
  · by_cases h2 : a > (M.cs.length : Int)
    · rw [if_neg (by omega)]
      simp -implicitDefEqProofs [F66, fad_pv, nck_pv, ld1_pv _ _ _ hp, add_int, st_pv _ _ _ _ hp, lss_int, gtr_int, h1, h2, hl, pick_bool, l0, t0, put_put, MV.acc, MV.oddly]
    · rw [if_pos (by omega)]
      obtain ⟨j, rfl⟩ : ∃ j : Nat, a = j + 1 := ⟨a.toNat - 1, by omega⟩
      have hw : IntKind.i64.wrap (j : Int) = j := w64 (by omega)
      obtain ⟨q, b, c, hi, _, _, _, _, ⟨n1, k1, rfl⟩, _⟩ := hs.set (j := j) (by omega) 0
      have e : ((j : Int) + 1).toNat - 1 = j := by omega
      simp -implicitDefEqProofs [F66, fad_pv, nck_pv, ld1_pv _ _ _ hp, add_int, sub_int, st_pv _ _ _ _ hp, lss_int, gtr_int, h1, h2, hl, hw, hi, pick_bool, l0, t0, put_put, MV.acc, MV.oddly]
/-- An access that turns nothing but the counts. -/
theorem MemR.counted {s : Value} {ty : TypeId} {M' : MV} (hp : H.get p = some (hd s M ty)) (hs : Sli H o p s M.cs) (hn : ∀ n k, s ≠ .slice (some ⟨p, 0, none⟩) n k) (ho : o p = (p : Int)) (hf : M.cs.length ≤ 65536) (e : M'.cs = M.cs) :
    MemR (H.put p (hd s M' ty)) o p M' ∧ Fr H o (H.put p (hd s M' ty)) o [p] :=
  ⟨⟨⟨s, ty, get_put hp, by rw [e]; exact hs.put hn, hn⟩, ho, by rw [e]; exact hf⟩, (Fr.refl _ _ _).put fun _ => by simp [ho]⟩
theorem seen_cs (M : MV) (a : Int) : (M.seen a).cs = M.cs := by unfold MV.seen; split <;> rfl
theorem Read_runs (h : MemR H o p M) (a : Int) (n : Nat) :
    ∃ H', run G (n + 2) 18 [pv p, cv a] H = some (cv (M.at a), H') ∧ MemR H' o p (M.seen a) ∧ Fr H o H' o [p] := by
  obtain ⟨⟨s, ty, hp, hs, hn⟩, ho, hf⟩ := h
  refine ⟨H.put p (hd s (M.seen a) ty), ?_, MemR.counted hp hs hn ho hf (seen_cs M a)⟩
  rw [F18_eq]
  have hc := Cell_spec (G := G) hp hs hf a n
  by_cases h : 1 ≤ a ∧ a ≤ M.cs.length
  · rw [if_pos h] at hc
    obtain ⟨j, rfl⟩ : ∃ j : Nat, a = j + 1 := ⟨a.toNat - 1, by omega⟩
    obtain ⟨q, b, c, _, hb, _, _, hcc, ⟨n1, k1, rfl⟩, _⟩ := (hs.put (c := hd s M.acc ty) hn).set (j := j) (by omega) 0
    have e : ((j : Int) + 1).toNat - 1 = j := by omega
    simp only [e] at hc
    rw [at_in]
    simp -implicitDefEqProofs [-List.getD_eq_getElem?_getD, F18, hc, ptr_eql_nil _ ptI, nck_pv, ld1_pv _ _ _ hb, hcc, MV.seen, h]
  · rw [if_neg h] at hc
    rw [at_out M a h]
    simp -implicitDefEqProofs [F18, hc, ptr_eql_nil _ ptI, MV.seen, h]

/-- A cell turned. -/
theorem MemR.turned {s : Value} {ty : TypeId} (hp : H.get p = some (hd s M ty)) (hs : Sli H o p s M.cs) (hn : ∀ n k, s ≠ .slice (some ⟨p, 0, none⟩) n k) (ho : o p = (p : Int)) (hf : M.cs.length ≤ 65536) {j : Nat} (hj : j < M.cs.length) (x : Int) :
    ∃ q b c n k, s = .slice (some ⟨q, 0, none⟩) n k ∧ (H.put p (hd s M.acc ty)).get q = some b ∧ b.cells[j]? = some (cv (M.cs.getD j 0)) ∧
      stS 1 (.pointer (some ⟨q, j, none⟩)) (cv x) (H.put p (hd s M.acc ty)) = some (undef, (H.put p (hd s M.acc ty)).put q c) ∧
      MemR ((H.put p (hd s M.acc ty)).put q c) o p (M.acc.set ((j : Int) + 1) x) ∧ Fr H o ((H.put p (hd s M.acc ty)).put q c) o [p] := by
  obtain ⟨q, b, c, _, hb, _, hoq, hcc, ⟨n1, k1, rfl⟩, hst, hs2⟩ := (hs.put (c := hd s M.acc ty) hn).set (j := j) hj x
  have hqp : q ≠ p := by rintro rfl; exact hn _ _ rfl
  have e : ((j : Int) + 1).toNat - 1 = j := by omega
  refine ⟨q, b, c, n1, k1, rfl, hb, hcc, hst, ⟨⟨_, ty, ?_, ?_, hn⟩, ho, ?_⟩, ((Fr.refl _ _ _).put fun _ => by simp [ho]).put fun _ => by simp [hoq]⟩
  · rw [get_put_ne (fun e => hqp e.symm)]; exact get_put hp
  · simp only [MV.set, e]; exact hs2
  · simp only [MV.set, List.length_set]; exact hf
theorem Write_runs (h : MemR H o p M) (a x : Int) (n : Nat) :
    ∃ H', run G (n + 2) 24 [pv p, cv a, cv x] H = some (.tuple #[], H') ∧ MemR H' o p (M.wrote a x) ∧ Fr H o H' o [p] := by
  obtain ⟨⟨s, ty, hp, hs, hn⟩, ho, hf⟩ := h
  rw [F24_eq]
  have hc := Cell_spec (G := G) hp hs hf a n
  by_cases h : 1 ≤ a ∧ a ≤ M.cs.length
  · rw [if_pos h] at hc
    obtain ⟨j, rfl⟩ : ∃ j : Nat, a = j + 1 := ⟨a.toNat - 1, by omega⟩
    obtain ⟨q, b, c, n1, k1, rfl, hb, hcc, hst, hm, hfr⟩ := MemR.turned hp hs hn ho hf (j := j) (by omega) x
    have e : ((j : Int) + 1).toNat - 1 = j := by omega
    simp only [e] at hc
    have ew : M.wrote ((j : Int) + 1) x = M.acc.set ((j : Int) + 1) x := by simp only [MV.wrote, h, and_self, if_true]
    rw [ew]
    exact ⟨_, by simp -implicitDefEqProofs [F24, hc, ptr_neq_nil _ ptI, nck_pv, hst], hm, hfr⟩
  · rw [if_neg h] at hc
    have ew : M.wrote a x = M.oddly := by simp only [MV.wrote, h, if_false]
    rw [ew]
    exact ⟨_, by simp -implicitDefEqProofs [F24, hc, ptr_neq_nil _ ptI], MemR.counted hp hs hn ho hf rfl⟩
theorem Add_runs (h : MemR H o p M) (a x : Int) (n : Nat) :
    ∃ H', run G (n + 2) 26 [pv p, cv a, cv x] H = some (cv (M.at a), H') ∧ MemR H' o p (M.added a x) ∧ Fr H o H' o [p] := by
  obtain ⟨⟨s, ty, hp, hs, hn⟩, ho, hf⟩ := h
  rw [F26_eq]
  have hc := Cell_spec (G := G) hp hs hf a n
  by_cases h : 1 ≤ a ∧ a ≤ M.cs.length
  · rw [if_pos h] at hc
    obtain ⟨j, rfl⟩ : ∃ j : Nat, a = j + 1 := ⟨a.toNat - 1, by omega⟩
    obtain ⟨q, b, c, n1, k1, rfl, hb, hcc, hst, hm, hfr⟩ := MemR.turned hp hs hn ho hf (j := j) (by omega) (IntKind.i64.wrap (M.cs.getD j 0 + x))
    have e : ((j : Int) + 1).toNat - 1 = j := by omega
    simp only [e] at hc
    rw [at_in]
    have ew : M.added ((j : Int) + 1) x = M.acc.set ((j : Int) + 1) (IntKind.i64.wrap (M.cs.getD j 0 + x)) := by simp only [MV.added, at_in, h, and_self, if_true]
    rw [ew]
    exact ⟨_, by simp -implicitDefEqProofs [-List.getD_eq_getElem?_getD, F26, hc, ptr_eql_nil _ ptI, nck_pv, ld1_pv _ _ _ hb, hcc, add_int, hst], hm, hfr⟩
  · rw [if_neg h] at hc
    have ew : M.added a x = M.oddly := by simp only [MV.added, h, if_false]
    rw [ew, at_out M a h]
    exact ⟨_, by simp -implicitDefEqProofs [F26, hc, ptr_eql_nil _ ptI], MemR.counted hp hs hn ho hf rfl⟩
theorem Cas_runs (h : MemR H o p M) (a old x : Int) (n : Nat) :
    ∃ H', run G (n + 2) 25 [pv p, cv a, cv old, cv x] H = some (.bool (M.fit a old), H') ∧ MemR H' o p (M.cas a old x) ∧ Fr H o H' o [p] := by
  obtain ⟨⟨s, ty, hp, hs, hn⟩, ho, hf⟩ := h
  rw [F25_eq]
  have hc := Cell_spec (G := G) hp hs hf a n
  by_cases h : 1 ≤ a ∧ a ≤ M.cs.length
  · rw [if_pos h] at hc
    obtain ⟨j, rfl⟩ : ∃ j : Nat, a = j + 1 := ⟨a.toNat - 1, by omega⟩
    obtain ⟨q, b, c, n1, k1, rfl, hb, hcc, hst, hm, hfr⟩ := MemR.turned hp hs hn ho hf (j := j) (by omega) x
    have e : ((j : Int) + 1).toNat - 1 = j := by omega
    simp only [e] at hc
    by_cases hold : M.cs.getD j 0 = old
    · have hfit : M.fit ((j : Int) + 1) old = true := by simp only [MV.fit, at_in, hold, decide_eq_true_eq, and_true]; exact h
      have ew : M.cas ((j : Int) + 1) old x = M.acc.set ((j : Int) + 1) x := by simp only [MV.cas, hfit, if_true]
      rw [hfit, ew]
      exact ⟨_, by simp -implicitDefEqProofs [-List.getD_eq_getElem?_getD, F25, hc, ptr_eql_nil _ ptI, nck_pv, ld1_pv _ _ _ hb, hcc, neq_int, hold, pick_bool, hst], hm, hfr⟩
    · have hfit : M.fit ((j : Int) + 1) old = false := by simp only [MV.fit, at_in, hold, and_false, decide_false]
      have ew : M.cas ((j : Int) + 1) old x = M.acc := by simp only [MV.cas, hfit, Bool.false_eq_true, if_false, MV.seen, h, and_self, if_true]
      rw [hfit, ew]
      exact ⟨_, by simp -implicitDefEqProofs [-List.getD_eq_getElem?_getD, F25, hc, ptr_eql_nil _ ptI, nck_pv, ld1_pv _ _ _ hb, hcc, neq_int, hold, pick_bool], MemR.counted hp hs hn ho hf rfl⟩
  · rw [if_neg h] at hc
    have hfit : M.fit a old = false := by simp only [MV.fit, decide_eq_false_iff_not]; omega
    have ew : M.cas a old x = M.oddly := by simp only [MV.cas, hfit, Bool.false_eq_true, if_false, MV.seen, h]
    rw [hfit, ew]
    exact ⟨_, by simp -implicitDefEqProofs [F25, hc, ptr_eql_nil _ ptI, pick_bool], MemR.counted hp hs hn ho hf rfl⟩

theorem Make_runs {x : Value} {l : List Int} {q : Int} (h : MemR H o p M) (hx : IntsR H o q x l) (hqp : q ≠ p) (hm : 0 ≤ M.max ∧ M.max ≤ 65536) (hle : (M.cs.length : Int) ≤ M.max) (hl : l.length < 2 ^ 62) (n : Nat) :
    ∃ H' o', run G (n + 1) 17 [pv p, x] H = some (.tuple #[cv (if M.room l.length then M.cs.length + 1 else 0), .bool (M.room l.length)], H') ∧ MemR H' o' p (M.made l) ∧ Fr H o H' o' [p] := by
  obtain ⟨⟨s, ty, hp, hs, hn⟩, ho, hf⟩ := h
  rw [F17_eq]
  have hll := hs.ints.1.len
  have hxl := hx.1.len
  have l0 := fun (c : Blk) (o : Nat) => ld1_pv p o _ (get_put (c := c) hp)
  have t0 := fun (c : Blk) (o : Nat) (x : Int) => st_pv p o x _ (get_put (c := c) hp)
  have hw : IntKind.i64.wrap (M.max - M.cs.length) = M.max - M.cs.length := w64 (by omega)
  by_cases h1 : l.length = 0
  · have hr : M.room l.length = false := by simp [MV.room, h1]
    have ew : M.made l = { M with cnt := IntKind.i64.wrap (M.cnt + 1), rej := IntKind.i64.wrap (M.rej + 1) } := by simp only [MV.made, hr, Bool.false_eq_true, if_false]
    rw [hr, ew]
    exact ⟨_, o, by simp -implicitDefEqProofs [F17, fad_pv, nck_pv, ld1_pv _ _ _ hp, add_int, st_pv _ _ _ _ hp, hxl, h1, eql_int, pick_bool, l0, t0, put_put], MemR.counted hp hs hn ho hf rfl⟩
  · have hnil : l ≠ [] := by intro e; simp [e] at h1
    by_cases h2 : (l.length : Int) ≤ M.max - M.cs.length
    · have hr : M.room l.length = true := by simp only [MV.room, decide_eq_true_eq]; exact ⟨h1, h2⟩
      have h2' : ¬ ((l.length : Int) > M.max - M.cs.length) := by omega
      have h1' : ¬ ((l.length : Int) = 0) := by omega
      have ew : M.made l = { M with cnt := IntKind.i64.wrap (M.cnt + 1), cs := M.cs ++ l } := by simp only [MV.made, hr, if_true]
      rw [hr, ew]
      have hw1 : IntKind.i64.wrap ((M.cs.length : Int) + 1) = M.cs.length + 1 := w64 (by omega)
      have f0 : Fr H o (H.put p (hd s M.acc ty)) o [p] := (Fr.refl _ _ _).put fun _ => by simp [ho]
      obtain ⟨s', H1, o1, ha, hs', hfr, hoth⟩ := app_spec 2 (hs.put (c := hd s M.acc ty) hn) (hx.fr f0 (by simpa using hqp)).1 (by omega)
      have hpl : p < (H.put p (hd s M.acc ty)).length := by rw [put_len]; exact get_lt hp
      obtain ⟨hp', hop, hn'⟩ := hoth p hn hpl
      have hp1 : H1.get p = some (hd s M.acc ty) := by rw [hp']; exact get_put hp
      obtain ⟨b0, c0, rfl⟩ := hs'.isSlice
      simp only [MV.acc] at ha
      refine ⟨_, o1, by simp -implicitDefEqProofs [-gt_iff_lt, F17, fad_pv, nck_pv, ld1_pv _ _ _ hp, add_int, sub_int, gtr_int, st_pv _ _ _ _ hp, hxl, hll, hnil, h1', h2', hw, hw1, eql_int, pick_bool, l0, t0, put_put, ha, st_s _ _ _ _ _ _ hp1, MV.acc], ⟨⟨_, ty, get_put hp1, hs'.put hn', hn'⟩, by rw [hop]; exact ho, by simp; omega⟩, (f0.tr hfr).put fun _ => by simp [ho]⟩
    · have hr : M.room l.length = false := by simp only [MV.room, decide_eq_false_iff_not]; omega
      have h2' : ((l.length : Int) > M.max - M.cs.length) := by omega
      have h1' : ¬ ((l.length : Int) = 0) := by omega
      have ew : M.made l = { M with cnt := IntKind.i64.wrap (M.cnt + 1), rej := IntKind.i64.wrap (M.rej + 1) } := by simp only [MV.made, hr, Bool.false_eq_true, if_false]
      rw [hr, ew]
      exact ⟨_, o, by simp -implicitDefEqProofs [-gt_iff_lt, F17, fad_pv, nck_pv, ld1_pv _ _ _ hp, add_int, sub_int, gtr_int, st_pv _ _ _ _ hp, hxl, hll, hnil, h1', h2', hw, eql_int, pick_bool, l0, t0, put_put], MemR.counted hp hs hn ho hf rfl⟩

theorem Odd_runs (h : MemR H o p M) (n : Nat) : run G (n + 1) 21 [pv p] H = some (cv M.odd, H) := by
  obtain ⟨⟨s, ty, hp, hs, _⟩, _, hf⟩ := h
  rw [F21_eq]; simp -implicitDefEqProofs [F21, fad_pv, nck_pv, ld1_pv _ _ _ hp]
theorem Refused_runs (h : MemR H o p M) (n : Nat) : run G (n + 1) 32 [pv p] H = some (cv M.rej, H) := by
  obtain ⟨⟨s, ty, hp, hs, _⟩, _, hf⟩ := h
  rw [F32_eq]; simp -implicitDefEqProofs [F32, fad_pv, nck_pv, ld1_pv _ _ _ hp]
theorem Size_runs (h : MemR H o p M) (n : Nat) : run G (n + 1) 35 [pv p] H = some (cv M.max, H) := by
  obtain ⟨⟨s, ty, hp, hs, _⟩, _, hf⟩ := h
  rw [F35_eq]; simp -implicitDefEqProofs [F35, fad_pv, nck_pv, ld1_pv _ _ _ hp]
theorem Count_runs (h : MemR H o p M) (n : Nat) : run G (n + 1) 23 [pv p] H = some (cv M.cnt, H) := by
  obtain ⟨⟨s, ty, hp, hs, _⟩, _, hf⟩ := h
  rw [F23_eq]; simp -implicitDefEqProofs [F23, fad_pv, nck_pv, ld1_pv _ _ _ hp]
theorem Used_runs (h : MemR H o p M) (n : Nat) : run G (n + 1) 20 [pv p] H = some (cv M.cs.length, H) := by
  obtain ⟨⟨s, ty, hp, hs, _⟩, _, hf⟩ := h
  have hl := hs.ints.1.len
  rw [F20_eq]; simp -implicitDefEqProofs [F20, fad_pv, nck_pv, ld1_pv _ _ _ hp, hl]
theorem build_new (size : Int) : abuild Try.prog 80 [(1, cv size)] = some (.agg #[.slice none 0 0, cv size, cv 0, cv 0, cv 0]) := by kernel_rfl
theorem New_bad (size : Int) (h : ¬ (1 ≤ size ∧ size ≤ 65536)) (n : Nat) : run G (n + 1) 16 [cv size] H = some (.tuple #[.pointer none, cv 1], H) := by
  rw [F16_eq]
  by_cases h1 : size < 1
  · simp -implicitDefEqProofs [F16, lss_int, h1, pick_bool]
  · have h2 : size > 65536 := by omega
    simp -implicitDefEqProofs [-gt_iff_lt, F16, lss_int, gtr_int, h1, h2, pick_bool]
theorem New_runs (o : Own) (size : Int) (h : 1 ≤ size ∧ size ≤ 65536) (n : Nat) :
    ∃ H', run G (n + 1) 16 [cv size] H = some (.tuple #[pv H.length, cv 0], H') ∧ MemR H' (o.up H.length H.length) H.length (MV.fresh size) ∧ Fr H o H' (o.up H.length H.length) [] := by
  rw [F16_eq]
  have h1 : ¬ size < 1 := by omega
  have h2 : ¬ size > 65536 := by omega
  have hb : boxS 80 (.agg #[.slice none 0 0, cv size, cv 0, cv 0, cv 0]) H = some (pv H.length, H.new (hd (.slice none 0 0) (MV.fresh size) 80)) := by
    simp [boxS, Value.cells, oneCell, newBlk, MV.fresh]
  exact ⟨_, by simp -implicitDefEqProofs [-gt_iff_lt, F16, lss_int, gtr_int, h1, h2, pick_bool, build_new, hb], ⟨⟨_, 80, get_new, .inl ⟨rfl, rfl⟩, by simp⟩, up_self, by simp [MV.fresh]⟩, (Fr.refl _ _ _).new _ _⟩

theorem build0 (H : Heap) : abuildSlice Try.prog 28 0 [] H = some (.slice (some ⟨H.length, 0, none⟩) 0 0, H.new ⟨[], 2, 1, false⟩) := by kernel_rfl
/-- slices.Clone: a slice of its own. -/
theorem SClone_runs {q : Int} {s : Value} {l : List Int} (hs : IntsR H o q s l) (hf : l.length ≤ 65536) (r : Int) (n : Nat) :
    ∃ s' H' o', run G (n + 1) 67 [s] H = some (s', H') ∧ Sli H' o' r s' l ∧ Fr H o H' o' [] ∧ ∀ i, i < H.length → ∀ m k, s' ≠ .slice (some ⟨i, 0, none⟩) m k := by
  rw [F67_eq]
  rcases hs.1 with ⟨rfl, rfl⟩ | ⟨i, off, c, rfl, hb⟩
  · exact ⟨_, _, o, by simp -implicitDefEqProofs [F67, slice_eql_nil _ _ _ slI], .inl ⟨rfl, rfl⟩, .refl _ _ _, fun i _ m k e => by cases e⟩
  · have f0 : Fr H o (H.new ⟨[], 2, 1, false⟩) (o.up H.length r) [] := (Fr.refl _ _ _).new _ _
    have hs0 : Sli (H.new ⟨[], 2, 1, false⟩) (o.up H.length r) r (.slice (some ⟨H.length, 0, none⟩) 0 0) [] := .inr ⟨H.length, 0, [], 2, rfl, by simpa using get_new, rfl, up_self⟩
    obtain ⟨s', H', o', ha, hs', hfr, hoth⟩ := app_spec 2 hs0 (hs.fr f0 (by simp)).1 (by simp; omega)
    simp only [List.nil_append] at hs'
    have hlt : ∀ i, i < H.length → H'.get i = H.get i ∧ o' i = o i ∧ ∀ m k, s' ≠ .slice (some ⟨i, 0, none⟩) m k := by
      intro i hi
      obtain ⟨h1, h2, h3⟩ := hoth i (fun n k e => by cases e; omega) (by rw [new_len]; omega)
      exact ⟨by rw [h1, get_new_lt hi], by rw [h2, up_ne (by omega)], h3⟩
    refine ⟨s', H', o', by simp -implicitDefEqProofs [F67, slice_eql_nil _ _ _ slI, build0, ha], hs', ⟨fun i hi _ => (hlt i hi).1, fun i hi => (hlt i hi).2.1, ?_⟩, fun i hi => (hlt i hi).2.2⟩
    have := hfr.size; rw [new_len] at this; omega
theorem Cells_runs (h : MemR H o p M) (r : Int) (n : Nat) :
    ∃ s' H' o', run G (n + 2) 22 [pv p] H = some (s', H') ∧ Sli H' o' r s' M.cs ∧ Fr H o H' o' [] := by
  obtain ⟨⟨s, ty, hp, hs, hn⟩, ho, hf⟩ := h
  obtain ⟨s', H', o', h1, h2, h3, _⟩ := SClone_runs (G := G) hs.ints hf r n
  refine ⟨s', H', o', ?_, h2, h3⟩
  rw [F22_eq]
  simp -implicitDefEqProofs [F22, fad_pv, nck_pv, ld1_pv _ _ _ hp, h1]
theorem ldn_pv (k p : Nat) (H : Heap) {b : Blk} (h : H.get p = some b) (hk : b.cells.length = k) : ldn k (.pointer (some ⟨p, 0, none⟩)) H = some (.agg b.cells.toArray) := by
  simp only [ldn, ldCells, h]
  rw [if_pos (by omega)]
  simp [← hk]
theorem Clone_runs (h : MemR H o p M) (n : Nat) :
    ∃ H' o', run G (n + 2) 30 [pv p] H = some (pv H.length, H') ∧ MemR H' o' H.length M ∧ Fr H o H' o' [] := by
  obtain ⟨⟨s, ty, hp, hs, hn⟩, ho, hf⟩ := h
  have f1 : Fr H o (H.new ⟨[.slice none 0 0, cv 0, cv 0, cv 0, cv 0], 80, 1, false⟩) (o.up H.length H.length) [] := (Fr.refl _ _ _).new _ _
  have g1 : (H.new ⟨[.slice none 0 0, cv 0, cv 0, cv 0, cv 0], 80, 1, false⟩).get H.length = some ⟨[.slice none 0 0, cv 0, cv 0, cv 0, cv 0], 80, 1, false⟩ := get_new
  have hl : H.length < (H.new ⟨[.slice none 0 0, cv 0, cv 0, cv 0, cv 0], 80, 1, false⟩).length := by rw [new_len]; omega
  have hpl := get_lt hp
  have hst : stS 5 (pv H.length) (.agg #[s, cv M.max, cv M.cnt, cv M.odd, cv M.rej]) (H.new ⟨[.slice none 0 0, cv 0, cv 0, cv 0, cv 0], 80, 1, false⟩) = some (undef, (H.new ⟨[.slice none 0 0, cv 0, cv 0, cv 0, cv 0], 80, 1, false⟩).put H.length (hd s M 80)) := by
    obtain ⟨b, c, rfl⟩ := hs.isSlice
    simp [stS, Value.cells, known, stCells, g1, oneCell, splice]
  generalize hH1 : H.new ⟨[.slice none 0 0, cv 0, cv 0, cv 0, cv 0], 80, 1, false⟩ = H1 at *
  have f2 : Fr H o (H1.put H.length (hd s M 80)) (o.up H.length H.length) [] := f1.put fun h => by omega
  obtain ⟨s', H3, o3, e3, c3, f3, fresh⟩ := SClone_runs (G := G) (hs.ints.fr f2 (by simp)) hf H.length n
  have hl2 : H.length < (H1.put H.length (hd s M 80)).length := by rw [put_len]; exact hl
  have g3 : H3.get H.length = some (hd s M 80) := by rw [f3.same _ hl2 (by simp)]; exact get_put g1
  obtain ⟨b', c', rfl⟩ := c3.isSlice
  refine ⟨H3.put H.length (hd (.slice b' M.cs.length c') M 80), o3, ?_, ⟨⟨_, _, get_put g3, c3.put (fresh _ hl2), fresh _ hl2⟩, by rw [f3.own _ hl2]; exact up_self, hf⟩, (f2.tr f3).put fun h => by omega⟩
  rw [F30_eq]
  have hnb : newBlk H 80 1 [.slice none 0 0, cv 0, cv 0, cv 0, cv 0] = (pv H.length, H1) := by rw [← hH1]; rfl
  have gp : H1.get p = some (hd s M ty) := by rw [f1.same p hpl (by simp)]; exact hp
  have gp2 : (H1.put H.length (hd s M 80)).get p = some (hd s M ty) := by rw [get_put_ne (by omega)]; exact gp
  simp -implicitDefEqProofs [F30, nck_pv, ldn_pv 5 p _ hp rfl, hnb, hst, fad_pv, ld1_pv _ _ _ gp2, e3, st_s _ _ _ _ _ _ g3]
end
end Go.Proofs.Ytpenlcigickkbaa.Fun
