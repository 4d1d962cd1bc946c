/-
Every operation but a call of a function.
-/
import Derived.Test.YtgakioiplkehgaaAmApp
import Derived.Test.YtgakioiplkehgaaAmMap
namespace Go.Proofs.YtgakioiplkehgaaA.Am
open Go.RowKit (Below)
variable {P : Program} {μ : Mu} {H H' : Heap} {w : World} {B : Nat}

theorem acopy_sound {argTypes : Array TypeId} {ty : TypeId} {d d' s s' v : Value} (hS : Sim P μ H w B) (hd : VR μ d d') (hs : VR μ s s') (h : acopy P argTypes d s H = some (v, H')) :
    Told P μ v H' w B ((Builtin.copy_ argTypes ty #[d', s']).run P w) := by
  unfold acopy at h
  split at h
  · rename_i dType hd0
    split at h
    · rename_i elem base dLen dCap sa sLen sCap hu
      cases hz : szOf P elem with
      | none => rw [hz] at h; cases h
      | some size =>
        rw [hz] at h
        simp only at h
        obtain ⟨_, sa', sCap', rfl, _, _⟩ := hs.slice_any
        obtain ⟨_, base', dCap', rfl, hnil, _⟩ := hd.slice_any
        cases hc : srcCells H size (min sLen dLen) (.slice sa sLen sCap) with
        | none => rw [hc] at h; cases h
        | some cs =>
          rw [hc] at h
          simp only at h
          obtain ⟨hlen, hone, cs', hv, hrun⟩ := srcCells_sound (P := P) hS hs (Nat.min_le_left _ _) hc
          have hlen' : cs'.length = min sLen dLen * size := by rw [← hv.1]; exact hlen
          have hr : (Builtin.copy_ argTypes ty #[.slice base' dLen dCap', .slice sa' sLen sCap']).run P w =
              ((match base' with | some a => storeCells a cs' | none => pure () : Sem Unit).run P w).andThen fun _ w => .ok (.int .i64 (min sLen dLen : Nat)) w := by
            have e : Nat.min sLen dLen = min sLen dLen := rfl
            simp [Builtin.copy_, hd0, run_underlying hu, Builtin.lenOf, run_sz hz, e, hrun w rfl, goInt]
            cases base' <;> simp
          rw [hr]
          cases base with
          | none =>
            simp only at h; cases h
            cases base' with
            | some _ => simp at hnil
            | none => exact Told.same hS (.plain _ rfl)
          | some ad =>
            obtain ⟨i, off, spot⟩ := ad
            cases spot with
            | some _ => cases h
            | none =>
              simp only at h
              split at h
              · rename_i hn0
                cases h
                have : cs' = [] := List.eq_nil_of_length_eq_zero (by rw [hlen', hn0]; simp)
                subst this
                cases base' with
                | none => simp at hnil
                | some a => simp only [storeCells, Sem.run_pure, Result.andThen_ok]; exact Told.same hS (.plain _ rfl)
              · rename_i hn0
                rw [Option.map_eq_some_iff] at h
                obtain ⟨H2, hst, e⟩ := h
                cases e
                rcases hd.slice_some with ⟨i2, off2, cap2, l, e, hl, g1, g2, g3, e2⟩ | ⟨i2, off2, a2, e, rfl, rfl, e2⟩
                · cases e; cases e2
                  obtain ⟨w', hr, hS', hB⟩ := hS.st hl hst hv
                  simp only [hr, Result.andThen_ok]
                  exact ⟨_, μ, w', rfl, μ.le_refl, .plain _ rfl, hS', hB⟩
                · simp at hn0
    · cases h
  · cases h

theorem alen_sound {argTypes : Array TypeId} {ty : TypeId} {x x' v : Value} (hS : Sim P μ H w B) (hx : VR μ x x') (h : alen P H argTypes x = some v) :
    (Builtin.len_ argTypes ty #[x']).run P w = .ok v w ∧ plainV v = true := by
  unfold alen at h
  split at h
  · rename_i t ht
    split at h
    · rename_i k e hu
      exact mlen_sound hS hx ht hu h
    · rename_i s hu
      obtain rfl := hx.string
      cases h; exact ⟨by simp [Builtin.len_, ht, run_underlying hu, goInt], rfl⟩
    · rename_i n e hu
      cases h; exact ⟨by simp [Builtin.len_, ht, run_underlying hu, goInt], rfl⟩
    · rename_i a n c e hu
      obtain ⟨_, a', c', rfl, _⟩ := hx.slice_any
      cases h; exact ⟨by simp [Builtin.len_, ht, run_underlying hu, goInt], rfl⟩
    · cases h
  · cases h

/-- What an operation but a call comes to. -/
def ToldN (P : Program) (μ : Mu) (v : Value) (H' : Heap) (w : World) (B : Nat) (r : Result Next) : Prop :=
  ∃ v' μ' w', (r = .ok (.value v') w' ∨ (r = .ok .skip w' ∧ v' = undef)) ∧ μ.le μ' ∧ VR μ' v v' ∧ Sim P μ' H' w' B ∧ Bel B w w'

theorem Told.next {v : Value} {s : Sem Value} (h : Told P μ v H' w B (s.run P w)) : ToldN P μ v H' w B ((do pure (Next.value (← s)) : Sem Next).run P w) := by
  obtain ⟨v', μ', w', hr, rest⟩ := h
  exact ⟨v', μ', w', .inl (by simp [hr]), rest⟩
theorem ToldN.quiet {v v' : Value} {s : Sem Value} (hS : Sim P μ H w B) (hr : s.run P w = .ok v' w) (hv : VR μ v v') : ToldN P μ v H w B ((do pure (Next.value (← s)) : Sem Next).run P w) :=
  Told.next (by rw [hr]; exact Told.same hS hv)

theorem abuiltin_sound {b : Builtin} {argTypes : Array TypeId} {ty : TypeId} {consts : Array Bool} {args args' : List Value} {v : Value} (hS : Sim P μ H w B) (ha : VRs μ args args') (h : abuiltin P b argTypes args H = some (v, H')) :
    ToldN P μ v H' w B ((builtin b argTypes ty consts args'.toArray).run P w) := by
  unfold abuiltin at h
  split at h
  · obtain ⟨s', _, rfl, r1, h2⟩ := ha.uncons
    obtain ⟨x', _, rfl, r2, h3⟩ := h2.uncons
    obtain rfl := h3.nil_inv
    exact (aappend_sound (ty := ty) hS r1 r2 h).next
  · obtain ⟨s', _, rfl, r1, h2⟩ := ha.uncons
    obtain ⟨x', _, rfl, r2, h3⟩ := h2.uncons
    obtain rfl := h3.nil_inv
    exact (acopy_sound (ty := ty) hS r1 r2 h).next
  · obtain ⟨x', _, rfl, r1, h3⟩ := ha.uncons
    obtain rfl := h3.nil_inv
    rw [Option.map_eq_some_iff] at h
    obtain ⟨v2, hv, e⟩ := h
    cases e
    obtain ⟨hr, hp⟩ := alen_sound (ty := ty) hS r1 hv
    exact ToldN.quiet hS hr (.plain _ hp)
  · obtain ⟨x', _, rfl, r1, h3⟩ := ha.uncons
    obtain rfl := h3.nil_inv
    exact (aclear_sound (ty := ty) hS r1 h).next
  · obtain ⟨s', _, rfl, r1, h2⟩ := ha.uncons
    obtain ⟨x', _, rfl, r2, h3⟩ := h2.uncons
    obtain rfl := h3.nil_inv
    exact (delete_sound (ty := ty) hS r1 r2 h).next
  · rename_i len n
    obtain ⟨x', _, rfl, r1, h3⟩ := ha.uncons
    obtain rfl := h3.nil_inv
    obtain ⟨rfl, rfl, rfl⟩ := r1.slice_nil
    split at h
    · rename_i e hu
      cases h
      rw [Option.bind_eq_some_iff] at hu
      obtain ⟨t, ht, hu⟩ := hu
      exact ToldN.quiet (v' := .int .i64 0) hS (by simp [Builtin.cap_, ht, run_underlying hu, goInt]) (.plain _ rfl)
    · cases h
  · rename_i k a k' c
    obtain ⟨s', _, rfl, r1, h2⟩ := ha.uncons
    obtain ⟨x', _, rfl, r2, h3⟩ := h2.uncons
    obtain rfl := h3.nil_inv
    obtain rfl := r1.int
    obtain rfl := r2.int
    split at h
    · rename_i e; subst e; cases h
      exact ToldN.quiet hS (by simp [Builtin.min_, Builtin.min2]) (.plain _ rfl)
    · cases h
  · rename_i k a k' c
    obtain ⟨s', _, rfl, r1, h2⟩ := ha.uncons
    obtain ⟨x', _, rfl, r2, h3⟩ := h2.uncons
    obtain rfl := h3.nil_inv
    obtain rfl := r1.int
    obtain rfl := r2.int
    split at h
    · rename_i e; subst e; cases h
      exact ToldN.quiet hS (by simp [Builtin.max_, Builtin.max2]) (.plain _ rfl)
    · cases h
  · cases h

theorem VRo.map {ρ ρ' : Operand → Value} (hρ : ∀ x, VR μ (ρ x) (ρ' x)) (o : Option Operand) : VRo μ (o.map ρ) (o.map ρ') := by
  cases o with
  | none => exact .inl ⟨rfl, rfl⟩
  | some x => exact .inr ⟨_, _, rfl, rfl, hρ x⟩
theorem VRs.map {ρ ρ' : Operand → Value} (hρ : ∀ x, VR μ (ρ x) (ρ' x)) (l : List Operand) : VRs μ (l.map ρ) (l.map ρ') := by
  induction l with
  | nil => exact .nil
  | cons x l ih => exact .cons (hρ x) ih
theorem VRs.parts {ρ ρ' : Operand → Value} (hρ : ∀ x, VR μ (ρ x) (ρ' x)) (l : List (Nat × Operand)) :
    VRs μ ((l.map fun (i, x) => (i, ρ x)).map (·.2)) ((l.map fun (i, x) => (i, ρ' x)).map (·.2)) := by
  induction l with
  | nil => exact .nil
  | cons x l ih => exact .cons (hρ x.2) ih
theorem parts_fst {ρ ρ' : Operand → Value} (l : List (Nat × Operand)) :
    (l.map fun (i, x) => (i, ρ x)).map (·.1) = (l.map fun (i, x) => (i, ρ' x)).map (·.1) := by
  induction l with
  | nil => rfl
  | cons x l ih => simp

theorem aop_sound {ρ ρ' : Operand → Value} {o : Oper} {v : Value} (hS : Sim P μ H w B) (hρ : ∀ x, VR μ (ρ x) (ρ' x)) (h : aop P ρ H o.op = some (v, H')) :
    ToldN P μ v H' w B ((execOp ρ' o).run P w) := by
  obtain ⟨dst, op, type, pos, after, guard⟩ := o
  simp only at h
  unfold aop at h
  split at h <;> (unfold execOp; try simp only)
  · -- move
    cases h; exact ⟨_, μ, w, .inl rfl, μ.le_refl, hρ _, hS, Bel.refl _ _⟩
  · cases h; exact ⟨_, μ, w, .inl rfl, μ.le_refl, hρ _, hS, Bel.refl _ _⟩
  · -- pick
    rename_i c a b
    split at h
    · rename_i t hc
      cases h
      have hc' := hρ c
      rw [hc] at hc'
      have e := hc'.bool
      refine ⟨if t then ρ' a else ρ' b, μ, w, .inl ?_, μ.le_refl, ?_, hS, Bel.refl _ _⟩
      · simp [e, asBool]
      · cases t
        · exact hρ b
        · exact hρ a
    · cases h
  · -- alloc
    rename_i t
    split at h
    · rename_i z hz
      obtain ⟨hzr, hzc, _⟩ := run_zero hz w
      cases h
      have := newBlk_sound (P := P) (t := t) (t' := t) (cs' := z.cells) hS (closed_one hzc) (closed_list hzc)
      refine Told.next ?_
      have e : (Instr.alloc t true (.tuple #[])).run P w = (do pure (.pointer (some (← newRow t z.cells))) : Sem Value).run P w := by
        simp [Instr.alloc, hzr, newVar]
      rw [e]; exact this
    · cases h
  · -- box
    rename_i t x
    split at h
    · rename_i hone
      cases h
      have hk : known (ρ x) = true := by
        revert hone
        cases ρ x <;> simp [Value.cells, oneCell, known]
      exact Told.next (newBlk_sound (P := P) (t := t) (t' := t) (cs' := (ρ' x).cells) hS hone (VRs.cells (hρ x) hk))
    · cases h
  · -- build
    rename_i t ps
    rw [Option.map_eq_some_iff] at h
    obtain ⟨v2, hv, e⟩ := h
    cases e
    obtain ⟨v', hr, hv'⟩ := abuild_sound (parts_fst ps.toList) (VRs.parts hρ ps.toList) hv w
    refine ToldN.quiet hS ?_ hv'
    have e : (ps.map fun (i, x) => (i, ρ' x)) = (ps.toList.map fun (i, x) => (i, ρ' x)).toArray := by
      rw [← Array.toList_inj]; simp
    rw [e]; exact hr
  · -- buildSlice
    rename_i t n ps
    have := abuildSlice_sound (P := P) hS (parts_fst (ρ' := ρ') ps.toList) (VRs.parts hρ ps.toList) h
    have e : (ps.map fun (i, x) => (i, ρ' x)) = (ps.toList.map fun (i, x) => (i, ρ' x)).toArray := by
      rw [← Array.toList_inj]; simp
    simp only [e]
    exact this.next
  · -- load
    rw [Option.map_eq_some_iff] at h
    obtain ⟨v2, hv, e⟩ := h
    cases e
    obtain ⟨v', hr, hv'⟩ := ldVar_sound hS (hρ _) hv
    exact ToldN.quiet hS hr hv'
  · -- store
    rw [Option.map_eq_some_iff] at h
    obtain ⟨H2, hv, e⟩ := h
    cases e
    obtain ⟨w', hr, hS', hB⟩ := stVar_sound hS (hρ _) (hρ _) hv
    exact ⟨undef, μ, w', .inr ⟨by simp [hr], rfl⟩, μ.le_refl, VRs.tuple .nil, hS', hB⟩
  · -- nilCheck
    rename_i x
    have hx := hρ x
    split at h
    · rename_i a e
      cases h
      rw [e] at hx
      obtain ⟨i, off, l, rfl, hl, e2⟩ := hx.ptr_inv
      rw [e2]
      exact ⟨_, μ, w, .inl rfl, μ.le_refl, .ptr i off l hl, hS, Bel.refl _ _⟩
    · rename_i g f c e
      cases h
      rw [e] at hx
      obtain ⟨f', c', e2, h1, h2⟩ := hx.func_inv rfl
      rw [e2] at hx ⊢
      exact ⟨_, μ, w, .inl rfl, μ.le_refl, hx, hS, Bel.refl _ _⟩
    · cases h
  · -- binOp
    rename_i op t x y yt
    rw [Option.map_eq_some_iff] at h
    obtain ⟨v2, hv, e⟩ := h
    cases e
    obtain ⟨hr, hp⟩ := abin_sound (hρ x) (hρ y) hv x y w
    exact ToldN.quiet hS hr (.plain _ hp)
  · -- unOp
    rw [Option.map_eq_some_iff] at h
    obtain ⟨v2, hv, e⟩ := h
    cases e
    obtain ⟨hr, hp⟩ := aun_sound (P := P) (hρ _) hv w
    exact ToldN.quiet hS hr (.plain _ hp)
  · -- convert
    rename_i src dst x
    split at h
    · rename_i d k k' n hs hu hx
      cases h
      have hx' := hρ x
      rw [hx] at hx'
      have e := hx'.int
      refine ToldN.quiet (v' := .int k (k.wrap n)) hS ?_ (.plain _ rfl)
      rw [e]
      simp only [convert, Sem.run_bind, run_underlying hs, run_underlying hu, Result.andThen_ok]
      cases d <;> simp [Conv.intToInt]
    · cases h
  · -- makeFunc
    rename_i g first captured
    cases h
    refine ToldN.quiet (v' := .func (.func g) (first.map ρ') (captured.map ρ')) hS rfl ?_
    have h1 := VRs.map hρ first.toList
    have h2 := VRs.map hρ captured.toList
    rw [← Array.toList_map, ← Array.toList_map] at h1 h2
    exact .func _ _ _ _ _ rfl h1.arr.1 h2.arr.1 h1.arr.2 h2.arr.2
  · -- makeSlice
    exact (amakeSlice_sound hS (hρ _) (hρ _) h).next
  · -- slice
    rw [Option.map_eq_some_iff] at h
    obtain ⟨v2, hv, e⟩ := h
    cases e
    obtain ⟨v', hr, hv'⟩ := aslice_sound (P := P) hS (hρ _) (VRo.map hρ _) (VRo.map hρ _) hv
    exact ToldN.quiet hS hr hv'
  · -- slice, three bounds
    rw [Option.map_eq_some_iff] at h
    obtain ⟨v2, hv, e⟩ := h
    cases e
    obtain ⟨v', hr, hv'⟩ := aslice3_sound (P := P) hS (hρ _) (VRo.map hρ _) (VRo.map hρ _) (hρ _) hv
    exact ToldN.quiet hS hr hv'
  · -- makeMap
    exact (makeMap_sound hS h).next
  · -- lookup
    rw [Option.map_eq_some_iff] at h
    obtain ⟨v2, hv, e⟩ := h
    cases e
    obtain ⟨v', hr, hv'⟩ := lookup_sound (P := P) hS (hρ _) (hρ _) hv
    exact ToldN.quiet hS hr hv'
  · -- mapUpdate
    obtain ⟨w', hr, rfl, hS', hB⟩ := mapUpdate_sound (P := P) hS (hρ _) (hρ _) (hρ _) h
    exact ⟨undef, μ, w', .inr ⟨by simp [hr], rfl⟩, μ.le_refl, VRs.tuple .nil, hS', hB⟩
  · -- fieldAddr
    rename_i t x f
    have hx := hρ x
    split at h
    · rename_i fields i off hu e
      rw [e] at hx
      obtain ⟨i2, off2, l, e1, hl, e2⟩ := hx.ptr_inv
      cases e1
      split at h
      · rename_i fd hf
        split at h
        · cases h
        · rename_i n hn0 hn
          cases h
          have hne : n ≠ 0 := fun e => hn0 e
          refine ToldN.quiet (v' := .pointer (some ⟨l.b, l.o + (off + fd.offset), none⟩)) hS ?_ (.ptr i _ l hl)
          rw [e2]
          simp [Instr.fieldAt, run_underlying hu, hf, Instr.sureAddr, fieldPlace, run_sz hn, hne, addr_add, Nat.add_assoc]
        · cases h
      · cases h
    · cases h
  · -- field
    rename_i t x f
    have hx := hρ x
    split at h
    · rename_i fields cs hu e
      rw [e] at hx
      obtain ⟨cs', e2, hcs⟩ := hx.agg_inv
      split at h
      · rename_i fd hf
        rw [Option.map_eq_some_iff] at h
        obtain ⟨v2, hv, e3⟩ := h
        cases e3
        obtain ⟨v', hr, hv'⟩ := apart_sound hcs hv w
        refine ToldN.quiet hS ?_ hv'
        rw [e2]
        simp [Instr.field, run_underlying hu, hf, asAgg, hr]
      · cases h
    · cases h
  · -- indexAddr
    rename_i t x ix
    have hx := hρ x
    have hi := hρ ix
    split at h
    · rename_i elem i off len cap k n hu e1 e2
      rw [e1] at hx
      rw [e2] at hi
      have e3 := hi.int
      split at h
      · rename_i size hz
        split at h
        · rename_i hb
          cases h
          rcases hx.slice_some with ⟨i2, off2, cap2, l, e, hl, g1, g2, g3, e4⟩ | ⟨i2, off2, a2, e, rfl, rfl, e4⟩
          · cases e
            refine ToldN.quiet (v' := .pointer (some ⟨l.b, l.o + (off + n.toNat * size), none⟩)) hS ?_ (.ptr i _ l hl)
            rw [e3, e4]
            simp [Instr.indexAt, asIntOf, run_underlying hu, hb, run_sz hz, addr_add, Nat.add_assoc]
          · omega
        · cases h
      · cases h
    · rename_i len elem i off k n hu e1 e2
      rw [e1] at hx
      rw [e2] at hi
      have e3 := hi.int
      split at h
      · rename_i size hz
        split at h
        · rename_i hb
          cases h
          obtain ⟨i2, off2, l, e, hl, e4⟩ := hx.ptr_inv
          cases e
          refine ToldN.quiet (v' := .pointer (some ⟨l.b, l.o + (off + n.toNat * size), none⟩)) hS ?_ (.ptr i _ l hl)
          rw [e3, e4]
          simp [Instr.indexAt, asIntOf, run_underlying hu, hb, run_sz hz, addr_add, Nat.add_assoc, Instr.sureAddr]
        · cases h
      · cases h
    · cases h
  · -- index
    rename_i t x ix
    have hx := hρ x
    have hi := hρ ix
    split at h
    · rename_i len elem cs k n hu e1 e2
      rw [e1] at hx
      rw [e2] at hi
      have e3 := hi.int
      obtain ⟨cs', e4, hcs⟩ := hx.agg_inv
      split at h
      · rename_i size hz
        split at h
        · rename_i hb
          rw [Option.map_eq_some_iff] at h
          obtain ⟨v2, hv, e5⟩ := h
          cases e5
          obtain ⟨v', hr, hv'⟩ := apart_sound hcs hv w
          refine ToldN.quiet hS ?_ hv'
          rw [e3, e4]
          simp [Instr.index, asIntOf, run_underlying hu, hb, run_sz hz, hr]
        · cases h
      · cases h
    · rename_i s k n hu e1 e2
      rw [e1] at hx
      rw [e2] at hi
      have e3 := hi.int
      have e4 := hx.string
      split at h
      · rename_i hb
        rw [Option.map_eq_some_iff] at h
        obtain ⟨c, hc, e5⟩ := h
        cases e5
        refine ToldN.quiet (v' := .int .u8 c.toNat) hS ?_ (.plain _ rfl)
        rw [e3, e4]
        simp [Instr.index, asIntOf, run_underlying hu, hb, hc]
      · cases h
    · cases h
  · -- extract
    rename_i t ix
    have hx := hρ t
    split at h
    · rename_i vs e
      rw [e] at hx
      obtain ⟨vs', e2, hvs⟩ := hx.tuple_inv
      rw [Option.map_eq_some_iff] at h
      obtain ⟨v2, hv, e5⟩ := h
      cases e5
      obtain ⟨v', hv1, hv2⟩ := hvs.2 ix v (by simpa using hv)
      refine ToldN.quiet hS ?_ hv2
      rw [e2]
      simp [Instr.extract, show vs'[ix]? = some v' by simpa using hv1]
    · cases h
  · -- a builtin
    rename_i b args argTypes
    have := abuiltin_sound (P := P) (ty := type) (consts := (args.map fun | .const _ => true | _ => false)) hS (VRs.map hρ args.toList) h
    simp only [resolve, Sem.run_bind, Sem.run_pure, Result.andThen_ok, invoke]
    have e : (args.toList.map ρ').toArray = args.map ρ' := by rw [← Array.toList_inj]; simp
    rw [e] at this
    exact this
  · cases h

end Go.Proofs.YtgakioiplkehgaaA.Am
