
/- omap's functions over the abstract machine: what each comes to. -/
import Derived.Test.YtgakioiplkehgaaFun0
import Derived.Test.YtgakioiplkehgaaFun2
import Derived.Test.YtgakioiplkehgaaFun3
import Derived.Test.YtgakioiplkehgaaKnown
import Derived.Test.YtgakioiplkehgaaAmSl
import Derived.Test.YtgakioiplkehgaaAmPr
namespace Go.Proofs.Ytgakioiplkehgaa.Fun
open Go Go.RowKit Go.Proofs.YtgakioiplkehgaaA.Am
set_option linter.unusedVariables false
set_option linter.unusedSimpArgs false
set_option linter.unnecessarySimpa false
abbrev ilt : Int → Int → Bool := fun a b => decide (a < b)
abbrev Asc (ks : List Int) : Prop := ks.Pairwise (· < ·)
abbrev cvs (l : List Int) : List Value := l.map cv
/-- Is it there? -/
def hasK (ks : List Int) (k : Int) : Bool := decide (ks[plc ilt ks k]? = some k)
section
variable {G : Oracle} {H : Heap} {o : Owner} {p : Int} {b : Option Nat} {s : Value} {ks : List Int} {n : Nat}
theorem nan_runs (a : Int) : run G (n + 1) 73 [cv a] H = some (.bool false, H) := by
  rw [F73_eq]
  simp -implicitDefEqProofs [F73, neq_int]
theorem snan_runs (a : Int) : run G (n + 1) 67 [cv a] H = some (.bool false, H) := by
  rw [F67_eq]
  simp -implicitDefEqProofs [F67, neq_int]
theorem less_runs (a c : Int) : run G (n + 2) 66 [cv a, cv c] H = some (.bool (decide (a < c)), H) := by
  rw [F66_eq]
  simp -implicitDefEqProofs [F66, nan_runs, pick_bool, lss_int, undef]
theorem cvs_get {j : Nat} (h : j < ks.length) : (cvs ks)[j]? = some (cv ks[j]) := by simp [h]
theorem conv_u (x : Int) (H : Heap) : convS .u64 (cv x) H = some (.int .u64 (IntKind.u64.wrap x), H) := rfl
theorem conv_i (x : Int) (H : Heap) : convS .i64 (.int .u64 x) H = some (cv (IntKind.i64.wrap x), H) := rfl
theorem shr1 (t : TypeId) (a : Int) : abin Try.prog .shr t (.int .u64 a) (.int .u64 1) = some (.int .u64 (a.fdiv 2)) := rfl
theorem mid {i j : Nat} (h : i + j < 4294967296) : IntKind.i64.wrap ((IntKind.u64.wrap (IntKind.i64.wrap ((i : Int) + j))).fdiv 2) = ((i + j) / 2 : Nat) := by
  have e1 : IntKind.i64.wrap ((i : Int) + j) = (i : Int) + j := w64 (by omega)
  have e2 : IntKind.u64.wrap ((i : Int) + j) = (i : Int) + j := by
    simp only [IntKind.wrap, IntKind.bits, IntKind.signed]; simp; omega
  rw [e1, e2, Int.fdiv_eq_ediv_of_nonneg _ (by omega), w64 (by omega)]
  omega
theorem Bin_runs (hs : Sl H o p s (cvs ks) b) (ha : Asc ks) (hl : ks.length ≤ 4194304) (k : Int) (hn : 4194304 < n) :
    run G (n + 3) 55 [s, cv k] H = some (.tuple #[cv (plc ilt ks k), .bool (hasK ks k)], H) := by
  rw [F55_eq]
  have hsl := hs.len
  simp only [List.length_map] at hsl
  obtain ⟨r, hit, hne, e1, e2⟩ := iter_go (step := F55_b0 (run G (n + 2)) (n + 2))
    (Q := fun m vs H' => H' = H ∧ ∃ (i j : Nat) (d1 d2 d3 : Value), i ≤ j ∧ j ≤ ks.length ∧ m = j - i ∧ vs = [s, cv k, cv 0, .bool false, cv ks.length, cv i, cv j, d1, d2, d3] ∧
      (∀ x (h : x < ks.length), x < i → ks[x] < k) ∧ (∀ x (h : x < ks.length), j ≤ x → k ≤ ks[x]))
    (R := fun r => r.1 = .exit 0 ∧ r.2.2 = H ∧ ∃ (d0 d1 d2 d3 : Value), r.2.1 = [s, cv k, cv 0, .bool false, cv ks.length, cv (plc ilt ks k), d0, d1, d2, d3])
    (by
      rintro m vs H' ⟨rfl, i, j, d1, d2, d3, hij, hj, rfl, rfl, hlo, hhi⟩
      by_cases hlt : i < j
      · have h1 : ((i : Int) < j) := by omega
        have hmid := mid (i := i) (j := j) (by omega)
        obtain ⟨h, he⟩ : ∃ h, h = (i + j) / 2 := ⟨_, rfl⟩
        rw [← he] at hmid
        have hh : h < ks.length := by omega
        obtain ⟨q, _, hix, hld⟩ := hs.idx (cvs_get hh)
        by_cases hc : ks[h] < k
        · have hw : IntKind.i64.wrap ((h : Int) + 1) = ((h + 1 : Nat) : Int) := by rw [w64 (by omega)]; omega
          refine .inl ⟨_, _, j - (h + 1), by omega, ?_, rfl, h + 1, j, .bool true, cv h, .bool true, by omega, hj, rfl, rfl, fun x hx hxi => ?_, hhi⟩
          · simp -implicitDefEqProofs [-Int.natCast_add, F55_b0_v, F55_b0v, lss_int, h1, add_int, conv_u, shr1, conv_i, hmid, hix, hld H' rfl, less_runs, hc, hw, fin]
          · rcases Nat.lt_or_ge x h with g | g
            · have := List.pairwise_iff_getElem.1 ha x h hx hh g
              omega
            · have : x = h := by omega
              subst this; exact hc
        · refine .inl ⟨_, _, h - i, by omega, ?_, rfl, i, h, .bool true, cv h, .bool false, by omega, by omega, rfl, rfl, hlo, fun x hx hxi => ?_⟩
          · simp -implicitDefEqProofs [-Int.natCast_add, F55_b0_v, F55_b0v, lss_int, h1, add_int, conv_u, shr1, conv_i, hmid, hix, hld H' rfl, less_runs, hc, fin]
          · rcases Nat.lt_or_ge h x with g | g
            · have := List.pairwise_iff_getElem.1 ha h x hh hx g
              omega
            · have : x = h := by omega
              subst this; omega
      · have h1 : ¬ ((i : Int) < j) := by omega
        have hij' : i = j := by omega
        subst hij'
        have hp : plc ilt ks k = i := plc_is ilt hj (fun x hx hxi => by simpa using hlo x hx hxi) (fun hx => by simpa using hhi i hx (Nat.le_refl _))
        refine .inr ⟨(.exit 0, [s, cv k, cv 0, .bool false, cv ks.length, cv i, cv i, .bool false, d2, d3], H'), ?_, by simp, rfl, rfl, cv i, .bool false, d2, d3, by rw [hp]⟩
        simp -implicitDefEqProofs [F55_b0_v, F55_b0v, lss_int, fin])
    (ks.length - 0) [s, cv k, cv 0, .bool false, cv ks.length, cv (0 : Nat), cv ks.length, undef, undef, undef] H ⟨rfl, 0, ks.length, _, _, _, Nat.zero_le _, Nat.le_refl _, rfl, rfl, fun x _ h => by omega, fun x h h2 => by omega⟩ (n + 2) (by omega)
  obtain ⟨e, vs, H'⟩ := r
  simp only at e1 e2
  obtain ⟨rfl, d0, d1, d2, d3, rfl⟩ := e2
  subst e1
  have hit' := hit
  simp only [Int.natCast_zero] at hit'
  by_cases hp : plc ilt ks k < ks.length
  · have h1 : ((plc ilt ks k : Nat) : Int) < ks.length := by omega
    obtain ⟨q, _, hix, hld⟩ := hs.idx (cvs_get hp)
    have hk : hasK ks k = decide (ks[plc ilt ks k] = k) := by
      unfold hasK; rw [List.getElem?_eq_getElem hp]; simp
    by_cases hc : ks[plc ilt ks k] = k
    · simp -implicitDefEqProofs [F55, hsl, hit', F55_j1_v, F55_j1v, lss_int, h1, hix, hld H' rfl, eql_int, hc, pick_bool, hk]
    · simp -implicitDefEqProofs [F55, hsl, hit', F55_j1_v, F55_j1v, lss_int, h1, hix, hld H' rfl, eql_int, hc, pick_bool, hk, snan_runs]
  · have h1 : ¬ ((plc ilt ks k : Nat) : Int) < ks.length := by omega
    have hk : hasK ks k = false := by
      unfold hasK; rw [List.getElem?_eq_none (by omega)]; simp
    simp -implicitDefEqProofs [F55, hsl, hit', F55_j1_v, F55_j1v, lss_int, h1, pick_bool, hk]
end
/-! a map: pairs by rising keys -/

abbrev keysOf (l : PL) : List Int := l.map (·.1)
abbrev valsOf (l : PL) : List Int := l.map (·.2)
def mplc (l : PL) (k : Int) : Nat := plc ilt (keysOf l) k
def mhas (l : PL) (k : Int) : Bool := hasK (keysOf l) k
def mget (l : PL) (k : Int) : Int := if mhas l k then (l.getD (mplc l k) (0, 0)).2 else 0
def mput (l : PL) (k v : Int) : PL := l.take (mplc l k) ++ (k, v) :: l.drop (if mhas l k then mplc l k + 1 else mplc l k)
def mdel (l : PL) (k : Int) : PL := l.take (mplc l k) ++ l.drop (if mhas l k then mplc l k + 1 else mplc l k)
def mpair (l : PL) (a : Int) : Int × Int × Bool := if 0 ≤ a ∧ a < l.length then ((l.getD a.toNat (0, 0)).1, (l.getD a.toNat (0, 0)).2, true) else (0, 0, false)
abbrev tup3 (x : Int × Int × Bool) : Value := .tuple #[cv x.1, cv x.2.1, .bool x.2.2]
theorem mplc_le (l : PL) (k : Int) : mplc l k ≤ l.length := by
  have := plc_le ilt (keysOf l) k
  simpa [mplc] using this
theorem mhas_lt {l : PL} {k : Int} (h : mhas l k = true) : mplc l k < l.length ∧ (l.getD (mplc l k) (0, 0)).1 = k := by
  unfold mhas hasK at h
  simp only [decide_eq_true_eq] at h
  change (keysOf l)[mplc l k]? = some k at h
  rw [List.getElem?_map] at h
  cases hx : l[mplc l k]? with
  | none => rw [hx] at h; cases h
  | some x =>
    rw [hx] at h
    refine ⟨(List.getElem?_eq_some_iff.1 hx).1, ?_⟩
    rw [List.getD_eq_getElem?_getD, hx]
    simpa using h
structure MapR (H : Heap) (o : Owner) (p : Nat) (l : PL) : Prop where
  is : ∃ sk sv bk bv ty, H.get p = some ⟨[sk, sv], ty, 1, false⟩ ∧ Sl H o p sk (cvs (keysOf l)) bk ∧ Sl H o p sv (cvs (valsOf l)) bv ∧ bk ≠ some p ∧ bv ≠ some p ∧ (∀ q, bk = some q → bv ≠ some q)
  own : o p = (p : Int)
  asc : Asc (keysOf l)
  fits : l.length ≤ 4194304
theorem MapR.lt {H : Heap} {o : Owner} {p : Nat} {l : PL} (h : MapR H o p l) : p < H.length := by obtain ⟨⟨_, _, _, _, _, h, _⟩, _⟩ := h; exact get_lt h
theorem MapR.fr {H H' : Heap} {o o' : Owner} {p : Nat} {l : PL} {ps : List Int} (h : MapR H o p l) (f : Fr H o H' o' ps) (hp : (p : Int) ∉ ps) : MapR H' o' p l := by
  have hl := h.lt
  obtain ⟨⟨sk, sv, bk, bv, ty, h1, h2, h3, h4⟩, h5, h6, h7⟩ := h
  exact ⟨⟨sk, sv, bk, bv, ty, by rw [f.same p hl (by rw [h5]; exact hp)]; exact h1, h2.fr f hp, h3.fr f hp, h4⟩, by rw [f.own p hl]; exact h5, h6, h7⟩
section
variable {G : Oracle} {H : Heap} {o : Owner} {p : Nat} {l : PL} {n : Nat}
theorem vals_get {j : Nat} (h : j < l.length) : (cvs (valsOf l))[j]? = some (cv (l.getD j (0, 0)).2) := by
  simp [List.getElem?_eq_getElem h]
theorem keys_get {j : Nat} (h : j < l.length) : (cvs (keysOf l))[j]? = some (cv (l.getD j (0, 0)).1) := by
  simp [List.getElem?_eq_getElem h]
theorem at_runs (h : MapR H o p l) (k : Int) (hn : 4194304 < n) : run G (n + 4) 57 [pv p, cv k] H = some (.tuple #[cv (mplc l k), cv (mget l k), .bool (mhas l k)], H) := by
  obtain ⟨⟨sk, sv, bk, bv, ty, hp, hk, hv, _⟩, _, ha, hf⟩ := h
  rw [F57_eq]
  have hb := Bin_runs (G := G) hk ha (by simpa using hf) k hn
  change run G (n + 3) _ _ _ = some (.tuple #[cv (mplc l k), .bool (mhas l k)], H) at hb
  cases hc : mhas l k with
  | false =>
    rw [hc] at hb
    simp -implicitDefEqProofs [F57, nck_pv, fad_pv, ld1_pv _ _ _ hp, hb, ext_i, not_bool, mget, hc]
  | true =>
    rw [hc] at hb
    obtain ⟨h1, _⟩ := mhas_lt hc
    obtain ⟨q, _, hix, hld⟩ := hv.idx (vals_get h1)
    simp -implicitDefEqProofs [-List.getD_eq_getElem?_getD, F57, nck_pv, fad_pv, ld1_pv _ _ _ hp, hb, ext_i, not_bool, mget, hc, hix, hld H rfl]
theorem Get_runs (h : MapR H o p l) (k : Int) (hn : 4194304 < n) : run G (n + 5) 43 [pv p, cv k] H = some (.tuple #[cv (mget l k), .bool (mhas l k)], H) := by
  rw [F43_eq]
  simp -implicitDefEqProofs [F43, at_runs h k hn, ext_i]
theorem Len_runs (h : MapR H o p l) : run G (n + 1) 52 [pv p] H = some (cv l.length, H) := by
  obtain ⟨⟨sk, sv, bk, bv, ty, hp, hk, hv, _⟩, _, ha, hf⟩ := h
  rw [F52_eq]
  have := hk.len
  simp only [List.length_map] at this
  simp -implicitDefEqProofs [F52, nck_pv, fad_pv, ld1_pv _ _ _ hp, this]
theorem pair_runs (h : MapR H o p l) (a : Int) : run G (n + 1) 58 [pv p, cv a] H = some (tup3 (mpair l a), H) := by
  obtain ⟨⟨sk, sv, bk, bv, ty, hp, hk, hv, _⟩, _, ha, hf⟩ := h
  rw [F58_eq]
  have hl := hk.len
  simp only [List.length_map] at hl
  by_cases h1 : a < 0
  · have : mpair l a = (0, 0, false) := by unfold mpair; rw [if_neg (by omega)]
    simp -implicitDefEqProofs [F58, lss_int, h1, pick_bool, this]
  · by_cases h2 : a ≥ l.length
    · have : mpair l a = (0, 0, false) := by unfold mpair; rw [if_neg (by omega)]
      simp -implicitDefEqProofs [F58, lss_int, h1, pick_bool, this, nck_pv, fad_pv, ld1_pv _ _ _ hp, hl, geq_int, h2]
    · obtain ⟨j, rfl⟩ : ∃ j : Nat, a = j := ⟨a.toNat, by omega⟩
      have hj : j < l.length := by omega
      have : mpair l j = ((l.getD j (0, 0)).1, (l.getD j (0, 0)).2, true) := by unfold mpair; rw [if_pos (by omega), Int.toNat_natCast]
      obtain ⟨q1, _, hix1, hld1⟩ := hk.idx (keys_get hj)
      obtain ⟨q2, _, hix2, hld2⟩ := hv.idx (vals_get hj)
      simp -implicitDefEqProofs [-List.getD_eq_getElem?_getD, F58, lss_int, h1, pick_bool, this, nck_pv, fad_pv, ld1_pv _ _ _ hp, hl, geq_int, h2, hix1, hix2, hld1 H rfl, hld2 H rfl]
def mfloor (l : PL) (k : Int) : Int × Int × Bool := mpair l (if mhas l k then mplc l k else (mplc l k : Int) - 1)
def mceil (l : PL) (k : Int) : Int × Int × Bool := mpair l (mplc l k)
theorem Floor_runs (h : MapR H o p l) (k : Int) (hn : 4194304 < n) : run G (n + 5) 45 [pv p, cv k] H = some (tup3 (mfloor l k), H) := by
  rw [F45_eq]
  have hle := mplc_le l k
  have hf := h.fits
  have hw : IntKind.i64.wrap ((mplc l k : Int) - 1) = (mplc l k : Int) - 1 := w64 (by omega)
  cases hc : mhas l k with
  | false =>
    simp -implicitDefEqProofs [F45, F45_j0_v, F45_j0v, at_runs h k hn, ext_i, hc, not_bool, sub_int, hw, pair_runs h, mfloor]
  | true =>
    simp -implicitDefEqProofs [F45, F45_j0_v, F45_j0v, at_runs h k hn, ext_i, hc, not_bool, pair_runs h, mfloor]
theorem Ceiling_runs (h : MapR H o p l) (k : Int) (hn : 4194304 < n) : run G (n + 5) 46 [pv p, cv k] H = some (tup3 (mceil l k), H) := by
  rw [F46_eq]
  simp -implicitDefEqProofs [F46, at_runs h k hn, ext_i, pair_runs h, mceil]
end
end Go.Proofs.Ytgakioiplkehgaa.Fun
