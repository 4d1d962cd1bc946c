/- help's and dcss's frames, view.Logic, over the abstract machine: what each step comes to. -/
import Derived.Test.YtpenlcigickkbaaFun0
import Derived.Test.YtpenlcigickkbaaFun2
import Derived.Test.YtpenlcigickkbaaFun3
import Derived.Test.YtpenlcigickkbaaFun4
import Derived.Test.YtpenlcigickkbaaFun5
import Derived.Test.YtpenlcigickkbaaNode
namespace Go.Proofs.Ytpenlcigickkbaa.Fun
open Go.RowKit Go.Proofs.YtpenlcigickkbaaA.Am
set_option linter.unusedVariables false
set_option linter.unusedSimpArgs false
abbrev wr (x : Int) : Int := IntKind.i64.wrap x
/-- A frame of help, in plain words. -/
structure HV where
  next : Int
  at_ : Int
  guard : Int
  out : Int
  place : Int
  word : Int
abbrev hcells (h : HV) : List Value := [cv h.next, cv h.at_, cv h.guard, cv h.out, cv h.place, cv h.word]
abbrev HelpR (H : Heap) (o : Own) (f : Nat) (h : HV) : Prop := ∃ ty, B1 H o f ⟨hcells h, ty, 1, false⟩
theorem HelpR.fr {H H' : Heap} {o o' : Own} {ps : List Int} {f : Nat} {h : HV} (k : HelpR H o f h) (g : Fr H o H' o' ps) (hp : (f : Int) ∉ ps) : HelpR H' o' f h := by
  obtain ⟨ty, b⟩ := k; exact ⟨ty, b.fr g hp⟩
theorem HelpR.lt {H : Heap} {o : Own} {f : Nat} {h : HV} (k : HelpR H o f h) : f < H.length := by obtain ⟨ty, b⟩ := k; exact b.lt
/-- What a step of help comes to: the frame, the memory. -/
def hstep (h : HV) (M : MV) : HV × MV :=
  if h.next = 0 then ({ h with guard := M.at (wr h.at_), next := 1 }, M.seen (wr h.at_))
  else if h.next = 1 then ({ h with out := if M.at h.guard = 0 then 1 else 2, next := 2 }, M.seen h.guard)
  else if h.next = 2 then ({ h with next := 3 }, M.cas (wr (h.at_ + 4)) 0 h.out)
  else if h.next = 3 then ({ h with out := M.at (wr (h.at_ + 4)), next := 4 }, M.seen (wr (h.at_ + 4)))
  else if h.next = 4 then ({ h with place := M.at (wr (h.at_ + 1)), next := 5 }, M.seen (wr (h.at_ + 1)))
  else if h.next = 5 then (if h.out = 1 then ({ h with word := M.at (wr (h.at_ + 3)), next := 6 }, M.seen (wr (h.at_ + 3))) else ({ h with word := M.at (wr (h.at_ + 2)), next := 6 }, M.seen (wr (h.at_ + 2))))
  else if h.next = 6 then ({ h with next := 7 }, M.cas h.place (ofI 5 h.at_) h.word)
  else (h, M)
section
variable {G : Oracle} {H : Heap} {o : Own} {f p : Nat} {M : MV}
theorem HDone_runs {h : HV} (k : HelpR H o f h) (n : Nat) : run G (n + 1) 78 [pv f] H = some (.bool (decide (h.next = 7)), H) := by
  obtain ⟨ty, b⟩ := k
  rw [F78_eq]
  simp -implicitDefEqProofs [F78, nck_pv, fad_pv, ld1_pv _ _ _ b.1, eql_int]
theorem HNew_runs (o : Own) (a : Int) (n : Nat) : ∃ H', run G (n + 1) 56 [cv a] H = some (pv H.length, H') ∧ HelpR H' (o.up H.length H.length) H.length ⟨0, a, 0, 0, 0, 0⟩ ∧ Fr H o H' (o.up H.length H.length) [] := by
  have hb : abuild Try.prog 93 [(1, cv a)] = some (.agg #[cv 0, cv a, cv 0, cv 0, cv 0, cv 0]) := by kernel_rfl
  have hx : boxS 93 (.agg #[cv 0, cv a, cv 0, cv 0, cv 0, cv 0]) H = some (pv H.length, H.new ⟨[cv 0, cv a, cv 0, cv 0, cv 0, cv 0], 93, 1, false⟩) := by
    simp [boxS, Value.cells, oneCell, newBlk]
  exact ⟨_, by rw [F56_eq]; simp -implicitDefEqProofs [F56, hb, hx], ⟨93, B1.new H o _⟩, (Fr.refl _ _ _).new _ _⟩
/-- The end of a step: on, and is it done? -/
theorem hj0 {h : HV} {ty : TypeId} {v1 v4 v8 v9 v21 v32 v36 v49 v61 v73 v79 v100 : Value} (b : B1 H o f ⟨hcells h, ty, 1, false⟩) (n : Nat) :
    F57_j0 (run G (n + 1)) (n + 1) [pv f, v1, v4, v8, v9, v21, v32, v36, v49, v61, v73, v79, v100] H = some (.bool (decide (wr (h.next + 1) = 7)), H.put f ⟨hcells { h with next := wr (h.next + 1) }, ty, 1, false⟩) := by
  have L := fun i => ld1_pv f i H b.1
  have T := fun i x => st_pv f i x H b.1
  have d := HDone_runs (G := G) (h := { h with next := wr (h.next + 1) }) ⟨ty, b.put⟩ n
  simp -implicitDefEqProofs [F57_j0_v, F57_j0v, nck_pv, fad_pv, L, add_int, T, d]
theorem HStep_runs {h : HV} (k : HelpR H o f h) (hm : MemR H o p M) (hfp : f ≠ p) (hnx : 0 ≤ h.next ∧ h.next ≤ 7) (n : Nat) :
    ∃ H', run G (n + 4) 57 [pv f, pv p] H = some (.bool (decide ((hstep h M).1.next = 7)), H') ∧ HelpR H' o f (hstep h M).1 ∧ MemR H' o p (hstep h M).2 ∧ Fr H o H' o [f, p] := by
  obtain ⟨ty, b⟩ := k
  rw [F57_eq]
  have L := fun i => ld1_pv f i H b.1
  have T := fun i x => st_pv f i x H b.1
  have hpf : p ≠ f := fun e => hfp e.symm
  have fin1 : ∀ {H1 : Heap} {M1 : MV}, MemR H1 o p M1 → Fr H o H1 o [p] → ∀ g' : HV, MemR (H1.put f ⟨hcells g', ty, 1, false⟩) o p M1 ∧ Fr H o (H1.put f ⟨hcells g', ty, 1, false⟩) o [f, p] ∧ HelpR (H1.put f ⟨hcells g', ty, 1, false⟩) o f g' := by
    intro H1 M1 m1 f1 g'
    have b1 := b.fr f1 (nm2 hfp)
    have fr2 : ∀ c, Fr H1 o (H1.put f c) o [f] := fun c => (Fr.refl _ _ _).put fun _ => by simp [b.2]
    exact ⟨m1.fr (fr2 _) (nm2 hpf), (f1.wk (by simp)).tr ((fr2 _).wk (by simp)), ty, b1.put⟩
  have w1 : wr (0 + 1) = 1 := by decide
  have w2 : wr (1 + 1) = 2 := by decide
  have w3 : wr (2 + 1) = 3 := by decide
  have w4 : wr (3 + 1) = 4 := by decide
  have w5 : wr (4 + 1) = 5 := by decide
  have w6 : wr (5 + 1) = 6 := by decide
  have w7 : wr (6 + 1) = 7 := by decide
  obtain ⟨nx, at_, guard, out, place, word⟩ := h
  simp only at hnx
  rcases (show nx = 0 ∨ nx = 1 ∨ nx = 2 ∨ nx = 3 ∨ nx = 4 ∨ nx = 5 ∨ nx = 6 ∨ nx = 7 by omega) with rfl | rfl | rfl | rfl | rfl | rfl | rfl | rfl
  · obtain ⟨H1, e1, m1, f1⟩ := Read_runs (G := G) hm (wr at_) (n + 1)
    have b1 := b.fr f1 (nm2 hfp)
    have T1 := fun i x => st_pv f i x H1 b1.1
    have J := fun v1 v4 v8 v9 v21 v32 v36 v49 v61 v73 v79 v100 => hj0 (G := G) (h := ⟨0, at_, M.at (wr at_), out, place, word⟩) (v1 := v1) (v4 := v4) (v8 := v8) (v9 := v9) (v21 := v21) (v32 := v32) (v36 := v36) (v49 := v49) (v61 := v61) (v73 := v73) (v79 := v79) (v100 := v100) (b1.put (c := ⟨hcells ⟨0, at_, M.at (wr at_), out, place, word⟩, ty, 1, false⟩)) (n + 2)
    rw [w1] at J
    obtain ⟨r1, r2, r3⟩ := fin1 m1 f1 ⟨1, at_, M.at (wr at_), out, place, word⟩
    refine ⟨H1.put f ⟨hcells ⟨1, at_, M.at (wr at_), out, place, word⟩, ty, 1, false⟩, ?_, r3, r1, r2⟩
    simp only [put_put] at J
    simp -implicitDefEqProofs [F57, nck_pv, fad_pv, L, eql_int, add_int, e1, T1, J, hstep]
  · have fa : Fr H o (H.put f ⟨hcells ⟨1, at_, guard, 1, place, word⟩, ty, 1, false⟩) o [f] := (Fr.refl _ _ _).put fun _ => by simp [b.2]
    have ba := b.put (c := ⟨hcells ⟨1, at_, guard, 1, place, word⟩, ty, 1, false⟩)
    have La := fun i => ld1_pv f i _ ba.1
    obtain ⟨H1, e1, m1, f1⟩ := Read_runs (G := G) (hm.fr fa (nm2 hpf)) guard (n + 1)
    have b1 := ba.fr f1 (nm2 hfp)
    have T1 := fun i x => st_pv f i x H1 b1.1
    have fr2 : ∀ c, Fr H1 o (H1.put f c) o [f] := fun c => (Fr.refl _ _ _).put fun _ => by simp [b.2]
    by_cases hg : M.at guard = 0
    · have J := fun v1 v4 v8 v9 v21 v32 v36 v49 v61 v73 v79 v100 => hj0 (G := G) (h := ⟨1, at_, guard, 1, place, word⟩) (v1 := v1) (v4 := v4) (v8 := v8) (v9 := v9) (v21 := v21) (v32 := v32) (v36 := v36) (v49 := v49) (v61 := v61) (v73 := v73) (v79 := v79) (v100 := v100) b1 (n + 2)
      rw [w2] at J
      refine ⟨H1.put f ⟨hcells ⟨2, at_, guard, 1, place, word⟩, ty, 1, false⟩, ?_, ?_, ?_, ((fa.wk (by simp)).tr (f1.wk (by simp))).tr ((fr2 _).wk (by simp))⟩
      · simp -implicitDefEqProofs [F57, nck_pv, fad_pv, L, T, La, eql_int, neq_int, e1, J, hstep, hg]
      · exact ⟨ty, by simp only [hstep, hg]; exact b1.put⟩
      · exact m1.fr (fr2 _) (nm2 hpf)
    · have J := fun v1 v4 v8 v9 v21 v32 v36 v49 v61 v73 v79 v100 => hj0 (G := G) (h := ⟨1, at_, guard, 2, place, word⟩) (v1 := v1) (v4 := v4) (v8 := v8) (v9 := v9) (v21 := v21) (v32 := v32) (v36 := v36) (v49 := v49) (v61 := v61) (v73 := v73) (v79 := v79) (v100 := v100) (b1.put (c := ⟨hcells ⟨1, at_, guard, 2, place, word⟩, ty, 1, false⟩)) (n + 2)
      rw [w2] at J
      simp only [put_put] at J
      refine ⟨H1.put f ⟨hcells ⟨2, at_, guard, 2, place, word⟩, ty, 1, false⟩, ?_, ?_, ?_, ((fa.wk (by simp)).tr (f1.wk (by simp))).tr ((fr2 _).wk (by simp))⟩
      · simp -implicitDefEqProofs [F57, nck_pv, fad_pv, L, T, La, T1, eql_int, neq_int, e1, J, hstep, hg]
      · exact ⟨ty, by simp only [hstep, hg]; exact b1.put⟩
      · exact m1.fr (fr2 _) (nm2 hpf)
  · obtain ⟨H1, e1, m1, f1⟩ := Cas_runs (G := G) hm (wr (at_ + 4)) 0 out (n + 1)
    have b1 := b.fr f1 (nm2 hfp)
    have J := fun v1 v4 v8 v9 v21 v32 v36 v49 v61 v73 v79 v100 => hj0 (G := G) (h := ⟨2, at_, guard, out, place, word⟩) (v1 := v1) (v4 := v4) (v8 := v8) (v9 := v9) (v21 := v21) (v32 := v32) (v36 := v36) (v49 := v49) (v61 := v61) (v73 := v73) (v79 := v79) (v100 := v100) b1 (n + 2)
    rw [w3] at J
    obtain ⟨r1, r2, r3⟩ := fin1 m1 f1 ⟨3, at_, guard, out, place, word⟩
    refine ⟨H1.put f ⟨hcells ⟨3, at_, guard, out, place, word⟩, ty, 1, false⟩, ?_, r3, r1, r2⟩
    simp -implicitDefEqProofs [F57, nck_pv, fad_pv, L, eql_int, add_int, e1, J, hstep]
  · obtain ⟨H1, e1, m1, f1⟩ := Read_runs (G := G) hm (wr (at_ + 4)) (n + 1)
    have b1 := b.fr f1 (nm2 hfp)
    have T1 := fun i x => st_pv f i x H1 b1.1
    have J := fun v1 v4 v8 v9 v21 v32 v36 v49 v61 v73 v79 v100 => hj0 (G := G) (h := ⟨3, at_, guard, M.at (wr (at_ + 4)), place, word⟩) (v1 := v1) (v4 := v4) (v8 := v8) (v9 := v9) (v21 := v21) (v32 := v32) (v36 := v36) (v49 := v49) (v61 := v61) (v73 := v73) (v79 := v79) (v100 := v100) (b1.put (c := ⟨hcells ⟨3, at_, guard, M.at (wr (at_ + 4)), place, word⟩, ty, 1, false⟩)) (n + 2)
    rw [w4] at J
    obtain ⟨r1, r2, r3⟩ := fin1 m1 f1 ⟨4, at_, guard, M.at (wr (at_ + 4)), place, word⟩
    refine ⟨H1.put f ⟨hcells ⟨4, at_, guard, M.at (wr (at_ + 4)), place, word⟩, ty, 1, false⟩, ?_, r3, r1, r2⟩
    simp only [put_put] at J
    simp -implicitDefEqProofs [F57, nck_pv, fad_pv, L, eql_int, add_int, e1, T1, J, hstep]
  · obtain ⟨H1, e1, m1, f1⟩ := Read_runs (G := G) hm (wr (at_ + 1)) (n + 1)
    have b1 := b.fr f1 (nm2 hfp)
    have T1 := fun i x => st_pv f i x H1 b1.1
    have J := fun v1 v4 v8 v9 v21 v32 v36 v49 v61 v73 v79 v100 => hj0 (G := G) (h := ⟨4, at_, guard, out, M.at (wr (at_ + 1)), word⟩) (v1 := v1) (v4 := v4) (v8 := v8) (v9 := v9) (v21 := v21) (v32 := v32) (v36 := v36) (v49 := v49) (v61 := v61) (v73 := v73) (v79 := v79) (v100 := v100) (b1.put (c := ⟨hcells ⟨4, at_, guard, out, M.at (wr (at_ + 1)), word⟩, ty, 1, false⟩)) (n + 2)
    rw [w5] at J
    obtain ⟨r1, r2, r3⟩ := fin1 m1 f1 ⟨5, at_, guard, out, M.at (wr (at_ + 1)), word⟩
    refine ⟨H1.put f ⟨hcells ⟨5, at_, guard, out, M.at (wr (at_ + 1)), word⟩, ty, 1, false⟩, ?_, r3, r1, r2⟩
    simp only [put_put] at J
    simp -implicitDefEqProofs [F57, nck_pv, fad_pv, L, eql_int, add_int, e1, T1, J, hstep]
  · by_cases ho : out = 1
    · subst ho
      obtain ⟨H1, e1, m1, f1⟩ := Read_runs (G := G) hm (wr (at_ + 3)) (n + 1)
      have b1 := b.fr f1 (nm2 hfp)
      have T1 := fun i x => st_pv f i x H1 b1.1
      have J := fun v1 v4 v8 v9 v21 v32 v36 v49 v61 v73 v79 v100 => hj0 (G := G) (h := ⟨5, at_, guard, 1, place, M.at (wr (at_ + 3))⟩) (v1 := v1) (v4 := v4) (v8 := v8) (v9 := v9) (v21 := v21) (v32 := v32) (v36 := v36) (v49 := v49) (v61 := v61) (v73 := v73) (v79 := v79) (v100 := v100) (b1.put (c := ⟨hcells ⟨5, at_, guard, 1, place, M.at (wr (at_ + 3))⟩, ty, 1, false⟩)) (n + 2)
      rw [w6] at J
      obtain ⟨r1, r2, r3⟩ := fin1 m1 f1 ⟨6, at_, guard, 1, place, M.at (wr (at_ + 3))⟩
      refine ⟨H1.put f ⟨hcells ⟨6, at_, guard, 1, place, M.at (wr (at_ + 3))⟩, ty, 1, false⟩, ?_, r3, r1, r2⟩
      simp only [put_put] at J
      simp -implicitDefEqProofs [F57, nck_pv, fad_pv, L, eql_int, add_int, e1, T1, J, hstep]
    · obtain ⟨H1, e1, m1, f1⟩ := Read_runs (G := G) hm (wr (at_ + 2)) (n + 1)
      have b1 := b.fr f1 (nm2 hfp)
      have T1 := fun i x => st_pv f i x H1 b1.1
      have J := fun v1 v4 v8 v9 v21 v32 v36 v49 v61 v73 v79 v100 => hj0 (G := G) (h := ⟨5, at_, guard, out, place, M.at (wr (at_ + 2))⟩) (v1 := v1) (v4 := v4) (v8 := v8) (v9 := v9) (v21 := v21) (v32 := v32) (v36 := v36) (v49 := v49) (v61 := v61) (v73 := v73) (v79 := v79) (v100 := v100) (b1.put (c := ⟨hcells ⟨5, at_, guard, out, place, M.at (wr (at_ + 2))⟩, ty, 1, false⟩)) (n + 2)
      rw [w6] at J
      obtain ⟨r1, r2, r3⟩ := fin1 m1 f1 ⟨6, at_, guard, out, place, M.at (wr (at_ + 2))⟩
      refine ⟨H1.put f ⟨hcells ⟨6, at_, guard, out, place, M.at (wr (at_ + 2))⟩, ty, 1, false⟩, ?_, by simp only [hstep, ho]; exact r3, by simp only [hstep, ho]; exact r1, r2⟩
      simp only [put_put] at J
      simp -implicitDefEqProofs [F57, nck_pv, fad_pv, L, eql_int, add_int, e1, T1, J, hstep, ho]
  · have eo := fun H => Of_runs (G := G) (n + 1) 5 at_ H
    obtain ⟨H1, e1, m1, f1⟩ := Cas_runs (G := G) hm place (ofI 5 at_) word (n + 1)
    have b1 := b.fr f1 (nm2 hfp)
    have J := fun v1 v4 v8 v9 v21 v32 v36 v49 v61 v73 v79 v100 => hj0 (G := G) (h := ⟨6, at_, guard, out, place, word⟩) (v1 := v1) (v4 := v4) (v8 := v8) (v9 := v9) (v21 := v21) (v32 := v32) (v36 := v36) (v49 := v49) (v61 := v61) (v73 := v73) (v79 := v79) (v100 := v100) b1 (n + 2)
    rw [w7] at J
    obtain ⟨r1, r2, r3⟩ := fin1 m1 f1 ⟨7, at_, guard, out, place, word⟩
    refine ⟨H1.put f ⟨hcells ⟨7, at_, guard, out, place, word⟩, ty, 1, false⟩, ?_, r3, r1, r2⟩
    simp -implicitDefEqProofs [F57, nck_pv, fad_pv, L, eql_int, eo, e1, J, hstep]
  · refine ⟨H, ?_, ⟨ty, b⟩, hm, .refl _ _ _⟩
    simp -implicitDefEqProofs [F57, nck_pv, fad_pv, L, eql_int, hstep]
end
/-- A frame of dcss, in plain words. -/
structure DV where
  next : Int
  guard : Int
  place : Int
  old : Int
  new : Int
  record : Int
  settle : Int
  outcome : Int
abbrev dcells (d : DV) : List Value := [cv d.next, cv d.guard, cv d.place, cv d.old, cv d.new, cv d.record, cv d.settle, cv d.outcome]
abbrev DcssR (H : Heap) (o : Own) (f : Nat) (d : DV) : Prop := ∃ ty, B1 H o f ⟨dcells d, ty, 1, false⟩
theorem DcssR.fr {H H' : Heap} {o o' : Own} {ps : List Int} {f : Nat} {d : DV} (k : DcssR H o f d) (g : Fr H o H' o' ps) (hp : (f : Int) ∉ ps) : DcssR H' o' f d := by
  obtain ⟨ty, b⟩ := k; exact ⟨ty, b.fr g hp⟩
theorem DcssR.lt {H : Heap} {o : Own} {f : Nat} {d : DV} (k : DcssR H o f d) : f < H.length := by obtain ⟨ty, b⟩ := k; exact b.lt
/-- What a step of dcss comes to. -/
def dstep (d : DV) (M : MV) : DV × MV :=
  if d.next = 0 then (if M.room 5 then { d with record := M.cs.length + 1, next := 1 } else { d with record := 0, outcome := 3, next := 6 }, M.made [d.guard, d.place, d.old, d.new, 0])
  else if d.next = 1 then (if M.fit d.place d.old then { d with next := 2 } else { d with outcome := 0, next := 6 }, M.cas d.place d.old (ofI 5 d.record))
  else if d.next = 2 then ({ d with settle := if M.at d.guard = 0 then 1 else 2, next := 3 }, M.seen d.guard)
  else if d.next = 3 then ({ d with next := 4 }, M.cas (wr (d.record + 4)) 0 d.settle)
  else if d.next = 4 then ({ d with settle := M.at (wr (d.record + 4)), next := 5 }, M.seen (wr (d.record + 4)))
  else if d.next = 5 then (if d.settle = 1 then ({ d with outcome := 1, next := 6 }, M.cas d.place (ofI 5 d.record) d.new) else ({ d with outcome := 2, next := 6 }, M.cas d.place (ofI 5 d.record) d.old))
  else (d, M)
section
variable {G : Oracle} {H : Heap} {o : Own} {f p : Nat} {M : MV}
theorem DDone_runs {d : DV} (k : DcssR H o f d) (n : Nat) : run G (n + 1) 65 [pv f] H = some (.bool (decide (d.next = 6)), H) := by
  obtain ⟨ty, b⟩ := k
  rw [F65_eq]; simp -implicitDefEqProofs [F65, nck_pv, fad_pv, ld1_pv _ _ _ b.1, eql_int]
theorem DOutcome_runs {d : DV} (k : DcssR H o f d) (n : Nat) : run G (n + 1) 61 [pv f] H = some (cv d.outcome, H) := by
  obtain ⟨ty, b⟩ := k
  rw [F61_eq]; simp -implicitDefEqProofs [F61, nck_pv, fad_pv, ld1_pv _ _ _ b.1]
theorem DRecord_runs {d : DV} (k : DcssR H o f d) (n : Nat) : run G (n + 1) 62 [pv f] H = some (cv d.record, H) := by
  obtain ⟨ty, b⟩ := k
  rw [F62_eq]; simp -implicitDefEqProofs [F62, nck_pv, fad_pv, ld1_pv _ _ _ b.1]
theorem DNew_runs (o : Own) (g a b c : Int) (n : Nat) : ∃ H', run G (n + 1) 59 [cv g, cv a, cv b, cv c] H = some (pv H.length, H') ∧ DcssR H' (o.up H.length H.length) H.length ⟨0, g, a, b, c, 0, 0, 0⟩ ∧ Fr H o H' (o.up H.length H.length) [] := by
  have hb : abuild Try.prog 95 [(1, cv g), (2, cv a), (3, cv b), (4, cv c)] = some (.agg #[cv 0, cv g, cv a, cv b, cv c, cv 0, cv 0, cv 0]) := by kernel_rfl
  have hx : boxS 95 (.agg #[cv 0, cv g, cv a, cv b, cv c, cv 0, cv 0, cv 0]) H = some (pv H.length, H.new ⟨[cv 0, cv g, cv a, cv b, cv c, cv 0, cv 0, cv 0], 95, 1, false⟩) := by
    simp [boxS, Value.cells, oneCell, newBlk]
  exact ⟨_, by rw [F59_eq]; simp -implicitDefEqProofs [F59, hb, hx], ⟨95, B1.new H o _⟩, (Fr.refl _ _ _).new _ _⟩
theorem dend {d : DV} {ty : TypeId} (b : B1 H o f ⟨dcells d, ty, 1, false⟩) (x : Int) (n : Nat) : run G (n + 1) 80 [pv f, cv x] H = some (.tuple #[], H.put f ⟨dcells { d with outcome := x, next := 6 }, ty, 1, false⟩) := by
  have T := fun i y => st_pv f i y H b.1
  have T2 := fun (c : Blk) i y => st_pv f i y _ (get_put (c := c) b.1)
  rw [F80_eq]
  simp -implicitDefEqProofs [F80, nck_pv, fad_pv, T, T2, put_put]
theorem dj0 {d : DV} {ty : TypeId} {v1 v4 v16 v17 v6 v7 v49 v52 v5 v68 v71 v85 v89 v105 v120 v126 : Value} (b : B1 H o f ⟨dcells d, ty, 1, false⟩) (n : Nat) :
    F60_j0 (run G (n + 1)) (n + 1) [pv f, v1, v4, v16, v17, v6, v7, v49, v52, v5, v68, v71, v85, v89, v105, v120, v126] H = some (.bool (decide (d.next = 6)), H) := by
  have e := DDone_runs (G := G) ⟨ty, b⟩ n
  simp -implicitDefEqProofs [F60_j0_v, F60_j0v, e]
theorem DStep_runs {d : DV} (k : DcssR H o f d) (hm : MemR H o p M) (hfp : f ≠ p) (hnx : 0 ≤ d.next ∧ d.next ≤ 6) (hmx : 0 ≤ M.max ∧ M.max ≤ 65536) (hle : (M.cs.length : Int) ≤ M.max) (n : Nat) :
    ∃ H' o', run G (n + 4) 60 [pv f, pv p] H = some (.bool (decide ((dstep d M).1.next = 6)), H') ∧ DcssR H' o' f (dstep d M).1 ∧ MemR H' o' p (dstep d M).2 ∧ Fr H o H' o' [f, p] := by
  obtain ⟨ty, b⟩ := k
  rw [F60_eq]
  have L := fun i => ld1_pv f i H b.1
  have T := fun i x => st_pv f i x H b.1
  have T2 := fun (c : Blk) i y => st_pv f i y _ (get_put (c := c) b.1)
  have L2 := fun (c : Blk) i => ld1_pv f i _ (get_put (c := c) b.1)
  have hpf : p ≠ f := fun e => hfp e.symm
  have fin1 : ∀ {H1 : Heap} {o1 : Own} {M1 : MV}, MemR H1 o1 p M1 → Fr H o H1 o1 [f, p] → H1.get f ≠ none → ∀ g' : DV, MemR (H1.put f ⟨dcells g', ty, 1, false⟩) o1 p M1 ∧ Fr H o (H1.put f ⟨dcells g', ty, 1, false⟩) o1 [f, p] ∧ DcssR (H1.put f ⟨dcells g', ty, 1, false⟩) o1 f g' := by
    intro H1 o1 M1 m1 f1 hne g'
    have ho1 : o1 f = (f : Int) := by rw [f1.own f b.lt]; exact b.2
    have fr2 : ∀ c, Fr H1 o1 (H1.put f c) o1 [f] := fun c => (Fr.refl _ _ _).put fun _ => by simp [ho1]
    cases hg : H1.get f with
    | none => exact absurd hg hne
    | some c => exact ⟨m1.fr (fr2 _) (nm2 hpf), f1.tr ((fr2 _).wk (by simp)), ty, get_put hg, ho1⟩
  have eo := fun a H => Of_runs (G := G) (n + 1) 5 a H
  obtain ⟨nx, guard, place, old, new, record, settle, outcome⟩ := d
  simp only at hnx
  rcases (show nx = 0 ∨ nx = 1 ∨ nx = 2 ∨ nx = 3 ∨ nx = 4 ∨ nx = 5 ∨ nx = 6 by omega) with rfl | rfl | rfl | rfl | rfl | rfl | rfl
  · obtain ⟨s, H1, o1, e1, c1, f1⟩ := Dcss_runs (G := G) (H := H) (o := o) (-7) guard place old new (n + 2)
    have b1 := b.fr f1 (by simp)
    obtain ⟨H2, o2, e2, m2, f2⟩ := Make_runs (G := G) (hm.fr f1 (by simp)) c1.ints (by omega) hmx hle (by simp) (n + 2)
    have b2 := b1.fr f2 (nm2 hfp)
    have T1 := fun i x => st_pv f i x H2 b2.1
    have T3 := fun (c : Blk) i y => st_pv f i y _ (get_put (c := c) b2.1)
    have fA : Fr H o H2 o2 [f, p] := (f1.wk (by simp)).tr (f2.wk (by simp))
    have hne : H2.get f ≠ none := by rw [b2.1]; simp
    have hlen : ([guard, place, old, new, 0] : List Int).length = 5 := rfl
    rw [hlen] at e2
    cases hr : M.room 5 with
    | true =>
      rw [hr] at e2
      obtain ⟨r1, r2, r3⟩ := fin1 m2 fA hne ⟨1, guard, place, old, new, (M.cs.length : Int) + 1, settle, outcome⟩
      have Jx := fun v1 v4 v16 v17 v6 v7 v49 v52 v5 v68 v71 v85 v89 v105 v120 v126 => dj0 (G := G) (d := ⟨1, guard, place, old, new, (M.cs.length : Int) + 1, settle, outcome⟩) (v1 := v1) (v4 := v4) (v16 := v16) (v17 := v17) (v6 := v6) (v7 := v7) (v49 := v49) (v52 := v52) (v5 := v5) (v68 := v68) (v71 := v71) (v85 := v85) (v89 := v89) (v105 := v105) (v120 := v120) (v126 := v126) (b2.put (c := ⟨dcells ⟨1, guard, place, old, new, (M.cs.length : Int) + 1, settle, outcome⟩, ty, 1, false⟩)) (n + 2)
      refine ⟨H2.put f ⟨dcells ⟨1, guard, place, old, new, (M.cs.length : Int) + 1, settle, outcome⟩, ty, 1, false⟩, o2, ?_, by simpa [dstep, hr] using r3, by simpa [dstep] using r1, r2⟩
      simp -implicitDefEqProofs [F60, nck_pv, fad_pv, L, eo, eql_int, e1, e2, ext_i, T1, T3, put_put, not_bool, Jx, dstep, hr]
    | false =>
      rw [hr] at e2
      obtain ⟨r1, r2, r3⟩ := fin1 m2 fA hne ⟨6, guard, place, old, new, 0, settle, 3⟩
      have ee := dend (G := G) (b2.put (c := ⟨dcells ⟨1, guard, place, old, new, 0, settle, outcome⟩, ty, 1, false⟩)) 3 (n + 2)
      simp only [put_put] at ee
      have Jx := fun v1 v4 v16 v17 v6 v7 v49 v52 v5 v68 v71 v85 v89 v105 v120 v126 => dj0 (G := G) (d := ⟨6, guard, place, old, new, 0, settle, 3⟩) (v1 := v1) (v4 := v4) (v16 := v16) (v17 := v17) (v6 := v6) (v7 := v7) (v49 := v49) (v52 := v52) (v5 := v5) (v68 := v68) (v71 := v71) (v85 := v85) (v89 := v89) (v105 := v105) (v120 := v120) (v126 := v126) (b2.put (c := ⟨dcells ⟨6, guard, place, old, new, 0, settle, 3⟩, ty, 1, false⟩)) (n + 2)
      refine ⟨H2.put f ⟨dcells ⟨6, guard, place, old, new, 0, settle, 3⟩, ty, 1, false⟩, o2, ?_, by simpa [dstep, hr] using r3, by simpa [dstep] using r1, r2⟩
      simp -implicitDefEqProofs [F60, nck_pv, fad_pv, L, eo, eql_int, e1, e2, ext_i, T1, T3, put_put, not_bool, ee, Jx, dstep, hr]
  · have fa : Fr H o (H.put f ⟨dcells ⟨2, guard, place, old, new, record, settle, outcome⟩, ty, 1, false⟩) o [f] := (Fr.refl _ _ _).put fun _ => by simp [b.2]
    have ba := b.put (c := ⟨dcells ⟨2, guard, place, old, new, record, settle, outcome⟩, ty, 1, false⟩)
    obtain ⟨H1, e1, m1, f1⟩ := Cas_runs (G := G) (hm.fr fa (nm2 hpf)) place old (ofI 5 record) (n + 1)
    have b1 := ba.fr f1 (nm2 hfp)
    have fA : Fr H o H1 o [f, p] := (fa.wk (by simp)).tr (f1.wk (by simp))
    have hne : H1.get f ≠ none := by rw [b1.1]; simp
    cases hr : M.fit place old with
    | true =>
      rw [hr] at e1
      have Jx := fun v1 v4 v16 v17 v6 v7 v49 v52 v5 v68 v71 v85 v89 v105 v120 v126 => dj0 (G := G) (d := ⟨2, guard, place, old, new, record, settle, outcome⟩) (v1 := v1) (v4 := v4) (v16 := v16) (v17 := v17) (v6 := v6) (v7 := v7) (v49 := v49) (v52 := v52) (v5 := v5) (v68 := v68) (v71 := v71) (v85 := v85) (v89 := v89) (v105 := v105) (v120 := v120) (v126 := v126) b1 (n + 2)
      refine ⟨H1, o, ?_, ⟨ty, by simpa [dstep, hr] using b1⟩, by simpa [dstep] using m1, fA⟩
      simp -implicitDefEqProofs [F60, nck_pv, fad_pv, L, eo, eql_int, T, L2, e1, not_bool, Jx, dstep, hr]
    | false =>
      rw [hr] at e1
      obtain ⟨r1, r2, r3⟩ := fin1 m1 fA hne ⟨6, guard, place, old, new, record, settle, 0⟩
      have ee := dend (G := G) b1 0 (n + 2)
      have Jx := fun v1 v4 v16 v17 v6 v7 v49 v52 v5 v68 v71 v85 v89 v105 v120 v126 => dj0 (G := G) (d := ⟨6, guard, place, old, new, record, settle, 0⟩) (v1 := v1) (v4 := v4) (v16 := v16) (v17 := v17) (v6 := v6) (v7 := v7) (v49 := v49) (v52 := v52) (v5 := v5) (v68 := v68) (v71 := v71) (v85 := v85) (v89 := v89) (v105 := v105) (v120 := v120) (v126 := v126) (b1.put (c := ⟨dcells ⟨6, guard, place, old, new, record, settle, 0⟩, ty, 1, false⟩)) (n + 2)
      refine ⟨H1.put f ⟨dcells ⟨6, guard, place, old, new, record, settle, 0⟩, ty, 1, false⟩, o, ?_, by simpa [dstep, hr] using r3, by simpa [dstep] using r1, r2⟩
      simp -implicitDefEqProofs [F60, nck_pv, fad_pv, L, eo, eql_int, T, L2, e1, not_bool, ee, Jx, dstep, hr]
  · have fa : Fr H o (H.put f ⟨dcells ⟨3, guard, place, old, new, record, 1, outcome⟩, ty, 1, false⟩) o [f] := (Fr.refl _ _ _).put fun _ => by simp [b.2]
    have ba := b.put (c := ⟨dcells ⟨3, guard, place, old, new, record, 1, outcome⟩, ty, 1, false⟩)
    obtain ⟨H1, e1, m1, f1⟩ := Read_runs (G := G) (hm.fr fa (nm2 hpf)) guard (n + 1)
    have b1 := ba.fr f1 (nm2 hfp)
    have T1 := fun i x => st_pv f i x H1 b1.1
    have fA : Fr H o H1 o [f, p] := (fa.wk (by simp)).tr (f1.wk (by simp))
    have hne : H1.get f ≠ none := by rw [b1.1]; simp
    by_cases hg : M.at guard = 0
    · have Jx := fun v1 v4 v16 v17 v6 v7 v49 v52 v5 v68 v71 v85 v89 v105 v120 v126 => dj0 (G := G) (d := ⟨3, guard, place, old, new, record, 1, outcome⟩) (v1 := v1) (v4 := v4) (v16 := v16) (v17 := v17) (v6 := v6) (v7 := v7) (v49 := v49) (v52 := v52) (v5 := v5) (v68 := v68) (v71 := v71) (v85 := v85) (v89 := v89) (v105 := v105) (v120 := v120) (v126 := v126) b1 (n + 2)
      refine ⟨H1, o, ?_, ⟨ty, by simpa [dstep, hg] using b1⟩, by simpa [dstep] using m1, fA⟩
      simp -implicitDefEqProofs [F60, nck_pv, fad_pv, L, eo, eql_int, neq_int, T, T2, L2, put_put, e1, hg, Jx, dstep]
    · obtain ⟨r1, r2, r3⟩ := fin1 m1 fA hne ⟨3, guard, place, old, new, record, 2, outcome⟩
      have Jx := fun v1 v4 v16 v17 v6 v7 v49 v52 v5 v68 v71 v85 v89 v105 v120 v126 => dj0 (G := G) (d := ⟨3, guard, place, old, new, record, 2, outcome⟩) (v1 := v1) (v4 := v4) (v16 := v16) (v17 := v17) (v6 := v6) (v7 := v7) (v49 := v49) (v52 := v52) (v5 := v5) (v68 := v68) (v71 := v71) (v85 := v85) (v89 := v89) (v105 := v105) (v120 := v120) (v126 := v126) (b1.put (c := ⟨dcells ⟨3, guard, place, old, new, record, 2, outcome⟩, ty, 1, false⟩)) (n + 2)
      refine ⟨H1.put f ⟨dcells ⟨3, guard, place, old, new, record, 2, outcome⟩, ty, 1, false⟩, o, ?_, by simpa [dstep, hg] using r3, by simpa [dstep] using r1, r2⟩
      simp -implicitDefEqProofs [F60, nck_pv, fad_pv, L, eo, eql_int, neq_int, T, T2, L2, put_put, e1, hg, T1, Jx, dstep]
  · obtain ⟨H1, e1, m1, f1⟩ := Cas_runs (G := G) hm (wr (record + 4)) 0 settle (n + 1)
    have b1 := b.fr f1 (nm2 hfp)
    have T1 := fun i x => st_pv f i x H1 b1.1
    have fA : Fr H o H1 o [f, p] := f1.wk (by simp)
    have hne : H1.get f ≠ none := by rw [b1.1]; simp
    obtain ⟨r1, r2, r3⟩ := fin1 m1 fA hne ⟨4, guard, place, old, new, record, settle, outcome⟩
    have Jx := fun v1 v4 v16 v17 v6 v7 v49 v52 v5 v68 v71 v85 v89 v105 v120 v126 => dj0 (G := G) (d := ⟨4, guard, place, old, new, record, settle, outcome⟩) (v1 := v1) (v4 := v4) (v16 := v16) (v17 := v17) (v6 := v6) (v7 := v7) (v49 := v49) (v52 := v52) (v5 := v5) (v68 := v68) (v71 := v71) (v85 := v85) (v89 := v89) (v105 := v105) (v120 := v120) (v126 := v126) (b1.put (c := ⟨dcells ⟨4, guard, place, old, new, record, settle, outcome⟩, ty, 1, false⟩)) (n + 2)
    refine ⟨H1.put f ⟨dcells ⟨4, guard, place, old, new, record, settle, outcome⟩, ty, 1, false⟩, o, ?_, by simpa [dstep] using r3, by simpa [dstep] using r1, r2⟩
    simp -implicitDefEqProofs [F60, nck_pv, fad_pv, L, eo, eql_int, add_int, e1, T1, Jx, dstep]
  · obtain ⟨H1, e1, m1, f1⟩ := Read_runs (G := G) hm (wr (record + 4)) (n + 1)
    have b1 := b.fr f1 (nm2 hfp)
    have T1 := fun i x => st_pv f i x H1 b1.1
    have T3 := fun (c : Blk) i y => st_pv f i y _ (get_put (c := c) b1.1)
    have fA : Fr H o H1 o [f, p] := f1.wk (by simp)
    have hne : H1.get f ≠ none := by rw [b1.1]; simp
    obtain ⟨r1, r2, r3⟩ := fin1 m1 fA hne ⟨5, guard, place, old, new, record, M.at (wr (record + 4)), outcome⟩
    have Jx := fun v1 v4 v16 v17 v6 v7 v49 v52 v5 v68 v71 v85 v89 v105 v120 v126 => dj0 (G := G) (d := ⟨5, guard, place, old, new, record, M.at (wr (record + 4)), outcome⟩) (v1 := v1) (v4 := v4) (v16 := v16) (v17 := v17) (v6 := v6) (v7 := v7) (v49 := v49) (v52 := v52) (v5 := v5) (v68 := v68) (v71 := v71) (v85 := v85) (v89 := v89) (v105 := v105) (v120 := v120) (v126 := v126) (b1.put (c := ⟨dcells ⟨5, guard, place, old, new, record, M.at (wr (record + 4)), outcome⟩, ty, 1, false⟩)) (n + 2)
    refine ⟨H1.put f ⟨dcells ⟨5, guard, place, old, new, record, M.at (wr (record + 4)), outcome⟩, ty, 1, false⟩, o, ?_, by simpa [dstep] using r3, by simpa [dstep] using r1, r2⟩
    simp -implicitDefEqProofs [F60, nck_pv, fad_pv, L, eo, eql_int, add_int, e1, T1, T3, put_put, Jx, dstep]
  · by_cases hs : settle = 1
    · subst hs
      have hs : True := trivial
      obtain ⟨H1, e1, m1, f1⟩ := Cas_runs (G := G) hm place (ofI 5 record) new (n + 1)
      have b1 := b.fr f1 (nm2 hfp)
      have fA : Fr H o H1 o [f, p] := f1.wk (by simp)
      have hne : H1.get f ≠ none := by rw [b1.1]; simp
      obtain ⟨r1, r2, r3⟩ := fin1 m1 fA hne ⟨6, guard, place, old, new, record, 1, 1⟩
      have ee := dend (G := G) b1 1 (n + 2)
      have Jx := fun v1 v4 v16 v17 v6 v7 v49 v52 v5 v68 v71 v85 v89 v105 v120 v126 => dj0 (G := G) (d := ⟨6, guard, place, old, new, record, 1, 1⟩) (v1 := v1) (v4 := v4) (v16 := v16) (v17 := v17) (v6 := v6) (v7 := v7) (v49 := v49) (v52 := v52) (v5 := v5) (v68 := v68) (v71 := v71) (v85 := v85) (v89 := v89) (v105 := v105) (v120 := v120) (v126 := v126) (b1.put (c := ⟨dcells ⟨6, guard, place, old, new, record, 1, 1⟩, ty, 1, false⟩)) (n + 2)
      refine ⟨H1.put f ⟨dcells ⟨6, guard, place, old, new, record, 1, 1⟩, ty, 1, false⟩, o, ?_, by simpa [dstep, hs] using r3, by simpa [dstep, hs] using r1, r2⟩
      simp -implicitDefEqProofs [F60, nck_pv, fad_pv, L, eo, eql_int, e1, ee, Jx, dstep, hs]
    · obtain ⟨H1, e1, m1, f1⟩ := Cas_runs (G := G) hm place (ofI 5 record) old (n + 1)
      have b1 := b.fr f1 (nm2 hfp)
      have fA : Fr H o H1 o [f, p] := f1.wk (by simp)
      have hne : H1.get f ≠ none := by rw [b1.1]; simp
      obtain ⟨r1, r2, r3⟩ := fin1 m1 fA hne ⟨6, guard, place, old, new, record, settle, 2⟩
      have ee := dend (G := G) b1 2 (n + 2)
      have Jx := fun v1 v4 v16 v17 v6 v7 v49 v52 v5 v68 v71 v85 v89 v105 v120 v126 => dj0 (G := G) (d := ⟨6, guard, place, old, new, record, settle, 2⟩) (v1 := v1) (v4 := v4) (v16 := v16) (v17 := v17) (v6 := v6) (v7 := v7) (v49 := v49) (v52 := v52) (v5 := v5) (v68 := v68) (v71 := v71) (v85 := v85) (v89 := v89) (v105 := v105) (v120 := v120) (v126 := v126) (b1.put (c := ⟨dcells ⟨6, guard, place, old, new, record, settle, 2⟩, ty, 1, false⟩)) (n + 2)
      refine ⟨H1.put f ⟨dcells ⟨6, guard, place, old, new, record, settle, 2⟩, ty, 1, false⟩, o, ?_, by simpa [dstep, hs] using r3, by simpa [dstep, hs] using r1, r2⟩
      simp -implicitDefEqProofs [F60, nck_pv, fad_pv, L, eo, eql_int, e1, ee, Jx, dstep, hs]
  · have Jx := fun v1 v4 v16 v17 v6 v7 v49 v52 v5 v68 v71 v85 v89 v105 v120 v126 => dj0 (G := G) (d := ⟨6, guard, place, old, new, record, settle, outcome⟩) (v1 := v1) (v4 := v4) (v16 := v16) (v17 := v17) (v6 := v6) (v7 := v7) (v49 := v49) (v52 := v52) (v5 := v5) (v68 := v68) (v71 := v71) (v85 := v85) (v89 := v89) (v105 := v105) (v120 := v120) (v126 := v126) b (n + 2)
    refine ⟨H, o, ?_, ⟨ty, b⟩, hm, .refl _ _ _⟩
    simp -implicitDefEqProofs [F60, nck_pv, fad_pv, L, eo, eql_int, Jx, dstep]
/-- What a slot stands for. -/
def logicI (M : MV) (s : Int) : Int :=
  if kindI (M.at s) ≠ 5 then M.at s else if M.at (wr (atI (M.at s) + 4)) = 1 then M.at (wr (atI (M.at s) + 3)) else M.at (wr (atI (M.at s) + 2))
theorem Logic_runs (hm : MemR H o p M) (s : Int) (hw : M.at s ≤ 9223372036854775807) (n : Nat) : run G (n + 5) 64 [pv p, cv s] H = some (cv (logicI M s), H) := by
  rw [F64_eq]
  have a0 := At_runs (G := G) hm s (n + 3)
  have k0 := Kind_runs (G := G) (n + 1) (M.at s) hw H
  have t0 := RAt_runs (G := G) (n + 1) (M.at s) hw H
  have a4 := At_runs (G := G) hm (wr (atI (M.at s) + 4)) (n + 3)
  have a3 := At_runs (G := G) hm (wr (atI (M.at s) + 3)) (n + 3)
  have a2 := At_runs (G := G) hm (wr (atI (M.at s) + 2)) (n + 3)
  unfold logicI
  by_cases h5 : kindI (M.at s) = 5
  · by_cases h1 : M.at (wr (atI (M.at s) + 4)) = 1
    · simp -implicitDefEqProofs [F64, a0, k0, t0, neq_int, eql_int, h5, add_int, a4, h1, a3]
    · simp -implicitDefEqProofs [F64, a0, k0, t0, neq_int, eql_int, h5, add_int, a4, h1, a2]
  · simp -implicitDefEqProofs [F64, a0, k0, neq_int, h5]
end
theorem iter_normal {n : Nat} {step : List Value → Heap → AOut} {vs vs' : List Value} {H H' : Heap} (h : step vs H = some (.normal, vs', H')) : iter (n + 1) step vs H = iter n step vs' H' := by
  simp only [iter, h]
theorem iter_exit {n : Nat} {step : List Value → Heap → AOut} {vs vs' : List Value} {H H' : Heap} {i : Nat} (h : step vs H = some (.exit i, vs', H')) : iter (n + 1) step vs H = some (.exit i, vs', H') := by
  simp only [iter, h]
end Go.Proofs.Ytpenlcigickkbaa.Fun
