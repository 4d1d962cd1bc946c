/- MapOrder over the abstract machine. -/
import Derived.Test.YtdgolnenpnkjbaaFunMapOrder
import Derived.Test.YtdgolnenpnkjbaaMapCol
import Derived.Test.YtdgolnenpnkjbaaFunMapOrder
namespace Go.Proofs.Ytdgolnenpnkjbaa.Fun
open Go Go.RowKit Go.Proofs.YtdgolnenpnkjbaaA.Am
set_option linter.unusedVariables false
set_option linter.unusedSimpArgs false
set_option linter.unnecessarySimpa false
/-! lists with the same keys -/
theorem asc_ext : ∀ {a b : List Int}, Asc a → Asc b → (∀ x, x ∈ a ↔ x ∈ b) → a = b
  | [], [], _, _, _ => rfl
  | [], y :: b, _, _, h => by have := (h y).2 (by simp); simp at this
  | x :: a, [], _, _, h => by have := (h x).1 (by simp); simp at this
  | x :: a, y :: b, ha, hb, h => by
    have ha' := List.pairwise_cons.1 ha
    have hb' := List.pairwise_cons.1 hb
    have e : x = y := by
      rcases List.mem_cons.1 ((h x).1 (by simp)) with e | hx
      · exact e
      · rcases List.mem_cons.1 ((h y).2 (by simp)) with e | hy
        · exact e.symm
        · have := hb'.1 x hx
          have := ha'.1 y hy
          omega
    subst e
    rw [asc_ext ha'.2 hb'.2 fun z => ?_]
    have := h z
    simp only [List.mem_cons] at this
    constructor
    · intro hz
      rcases this.1 (.inr hz) with e | h
      · subst e; exact absurd (ha'.1 z hz) (by omega)
      · exact h
    · intro hz
      rcases this.2 (.inr hz) with e | h
      · subst e; exact absurd (hb'.1 z hz) (by omega)
      · exact h
/-- Rising, every value told by its key, just these keys. -/
structure Good (g : Int → Int) (l : PL) (S : List Int) : Prop where
  asc : Asc (keysOf l)
  val : ∀ x ∈ l, x.2 = g x.1
  mem : ∀ k, k ∈ keysOf l ↔ k ∈ S
theorem mput_mem {l : PL} {k v : Int} {x : Int × Int} (h : x ∈ mput l k v) : x = (k, v) ∨ x ∈ l := by
  unfold mput at h
  rw [List.mem_append, List.mem_cons] at h
  rcases h with h | h | h
  · exact .inr (List.mem_of_mem_take h)
  · exact .inl h
  · exact .inr (List.mem_of_mem_drop h)
theorem keys_mput_mem {l : PL} {k v z : Int} : z ∈ keysOf (mput l k v) ↔ z = k ∨ z ∈ keysOf l := by
  rw [keys_mput]
  split
  · rename_i hc
    obtain ⟨h1, h2⟩ := mhas_lt hc
    constructor
    · exact .inr
    · rintro (rfl | h)
      · have hm : l.getD (mplc l z) (0, 0) ∈ l := by
          rw [List.getD_eq_getElem?_getD, List.getElem?_eq_getElem h1]; exact List.getElem_mem h1
        have := List.mem_map_of_mem (f := Prod.fst) hm
        rw [h2] at this; exact this
      · exact h
  · have e := List.take_append_drop (mplc l k) (keysOf l)
    conv => rhs; rw [← e]
    simp only [List.mem_append, List.mem_cons]
    constructor
    · rintro (h | h | h) <;> simp [h]
    · rintro (h | h | h) <;> simp [h]
theorem Good.put {g : Int → Int} {l : PL} {S T : List Int} (h : Good g l S) (k : Int) (hT : ∀ z, z ∈ T ↔ z = k ∨ z ∈ S) : Good g (mput l k (g k)) T :=
  ⟨asc_mput h.asc _ _, fun x hx => by
    rcases mput_mem hx with rfl | hx
    · rfl
    · exact h.val x hx, fun z => by rw [keys_mput_mem, hT, h.mem]⟩
theorem Good.eq {g : Int → Int} {a b : PL} {S T : List Int} (h : Good g a S) (k : Good g b T) (e : ∀ z, z ∈ S ↔ z ∈ T) : a = b := by
  have hk : keysOf a = keysOf b := asc_ext h.asc k.asc fun z => by rw [h.mem, k.mem, e]
  have f : ∀ (l : PL), (∀ x ∈ l, x.2 = g x.1) → l = (keysOf l).map fun z => (z, g z) := by
    intro l hl
    rw [List.map_map]
    conv => lhs; rw [← List.map_id l]
    refine List.map_congr_left fun x hx => ?_
    rw [id, Function.comp, ← hl x hx]
  rw [f a h.val, f b k.val, hk]
theorem turn_all {N t m : Nat} (hm : m < N) : ∃ j, j < N ∧ (t + N - j) % N = m := by
  refine ⟨(t + N - m) % N, Nat.mod_lt _ (by omega), ?_⟩
  have h1 := Nat.div_add_mod (t + N - m) N
  have h2 := Nat.mod_lt (t + N - m) (show 0 < N by omega)
  generalize (t + N - m) % N = r at h1 h2
  generalize (t + N - m) / N = q at h1
  have e : t + N - r = m + N * q := by omega
  rw [e, Nat.add_mul_mod_self_left, Nat.mod_eq_of_lt hm]
abbrev third (k : Int) : Int := IntKind.i64.wrap (k.tdiv 3)
/-- Those met by the second one. -/
def turned (keys : List Int) (N t : Nat) (i : Nat) : List Int := (List.range i).map fun j => keys.getD ((t + N - j) % N) 0
theorem turned_mem (keys : List Int) (N t i : Nat) (z : Int) : z ∈ turned keys N t (i + 1) ↔ z = keys.getD ((t + N - i) % N) 0 ∨ z ∈ turned keys N t i := by
  unfold turned
  rw [List.range_succ, List.map_append, List.mem_append]
  simp only [List.map_cons, List.map_nil, List.mem_singleton]
  exact Or.comm
theorem take_mem {keys : List Int} {i : Nat} (hi : i < keys.length) (z : Int) : z ∈ keys.take (i + 1) ↔ z = keys.getD i 0 ∨ z ∈ keys.take i := by
  have e : keys[i]? = some keys[i] := List.getElem?_eq_getElem hi
  rw [List.take_add_one, List.getD_eq_getElem?_getD, e, List.mem_append]
  simp only [Option.toList_some, List.mem_singleton, Option.getD_some]
  exact Or.comm
theorem turned_all {keys : List Int} {N t : Nat} (hN : N ≤ keys.length) (z : Int) : z ∈ keys.take N ↔ z ∈ turned keys N t N := by
  unfold turned
  simp only [List.mem_map, List.mem_range]
  constructor
  · intro hz
    obtain ⟨m, hm, rfl⟩ := List.getElem_of_mem hz
    rw [List.length_take] at hm
    obtain ⟨j, hj, e⟩ := turn_all (t := t) (show m < N by omega)
    refine ⟨j, hj, ?_⟩
    rw [e, List.getElem_take, List.getD_eq_getElem?_getD, List.getElem?_eq_getElem (by omega)]; rfl
  · rintro ⟨j, hj, rfl⟩
    have hlt := Nat.mod_lt (t + N - j) (show 0 < N by omega)
    rw [List.getD_eq_getElem?_getD, List.getElem?_eq_getElem (by omega)]
    simp only [Option.getD_some]
    rw [List.mem_take_iff_getElem]
    exact ⟨(t + N - j) % N, by omega, rfl⟩
section
variable {H : Heap}
theorem MapOrder_run {v : Value} {keys : List Int} (hv : IntsR H o0 (-1) v keys) (turn : Int) (ht : W64 turn) : ∃ n H', run KG n 8 [v, cv turn] H = some (.bool true, H') := by
  refine ⟨100001, ?_⟩
  rw [F8_eq]
  obtain ⟨H1, e1⟩ : ∃ x, x = H.new ⟨[.slice none 0 0, .slice none 0 0], 48, 1, false⟩ := ⟨_, rfl⟩
  obtain ⟨H2, e2⟩ : ∃ x, x = H1.new ⟨[.slice none 0 0, .slice none 0 0], 48, 1, false⟩ := ⟨_, rfl⟩
  have b1 := boxM 48 H
  have b2 := boxM 48 H1
  have l1 : H1.length = H.length + 1 := by rw [e1, new_len]
  have l2 : H2.length = H.length + 2 := by rw [e2, new_len, l1]
  have f1 : Fr H o0 H1 (Owner.up o0 H.length H.length) [(H.length : Int), ((H.length + 1 : Nat) : Int)] := by rw [e1]; exact (Fr.refl _ _ _).new _ _
  have f2 : Fr H1 (Owner.up o0 H.length H.length) H2 (Owner.up (Owner.up o0 H.length H.length) (H.length + 1) ((H.length + 1 : Nat) : Int)) [] := by
    have := (Fr.refl H1 (Owner.up o0 H.length H.length) []).new ⟨[.slice none 0 0, .slice none 0 0], 48, 1, false⟩ ((H.length + 1 : Nat) : Int)
    rw [← e2, l1] at this; exact this
  have mA : MapR H2 (Owner.up (Owner.up o0 H.length H.length) (H.length + 1) ((H.length + 1 : Nat) : Int)) H.length [] := by
    have := MapR.fresh H o0 48
    rw [← e1] at this
    exact this.fr f2 (by simp)
  have mB : MapR H2 (Owner.up (Owner.up o0 H.length H.length) (H.length + 1) ((H.length + 1 : Nat) : Int)) (H.length + 1) [] := by
    have := MapR.fresh H1 (Owner.up o0 H.length H.length) 48
    rw [← e2, l1] at this; exact this
  have f12 := f1.tr0 f2
  rw [← e1] at b1
  rw [← e2, l1] at b2
  have hvl := hv.1.len
  have hmin : (if (200 : Int) < (keys.length : Int) then (200 : Int) else (keys.length : Int)) = ((min keys.length 200 : Nat) : Int) := by split <;> omega
  obtain ⟨N, hN⟩ : ∃ N, N = min keys.length 200 := ⟨_, rfl⟩
  rw [← hN] at hmin
  have kn : ∀ H, run KG 100000 10 [] H = some (.bool true, H) := fun H => known_run 99999 H
  have ht0 := Int.emod_nonneg turn (show (400 : Int) ≠ 0 by omega)
  have ht1 := Int.emod_lt_of_pos turn (show (0 : Int) < 400 by omega)
  obtain ⟨t, hT⟩ : ∃ t : Nat, turn % 400 = t := ⟨(turn % 400).toNat, by omega⟩
  have hcut := fun H => Cut_runs (G := KG) 99999 turn 400 ht (by omega) H
  rw [hT] at hcut
  obtain ⟨r, hit, hne, r1, r2⟩ := iter_go (step := F8_b0 (run KG 100000) 100000)
    (Q := fun m vs H' => ∃ (i : Nat) (d1 d2 : Value) (o' : Owner) (la lb : PL), i ≤ N ∧ m = N - i ∧ vs = [v, cv turn, .bool false, .bool false, cv i, cv N, d1, pv H.length, pv (H.length + 1), d2, undef, undef, undef, undef, undef, undef] ∧
      MapR H' o' H.length la ∧ MapR H' o' (H.length + 1) lb ∧ la.length ≤ i ∧ lb.length ≤ i ∧ Good third la (keys.take i) ∧ Good third lb (turned keys N t i) ∧ Fr H o0 H' o' [(H.length : Int), ((H.length + 1 : Nat) : Int)])
    (R := fun r => r.1 = .exit 0 ∧ ∃ (d1 d2 : Value) (o' : Owner) (la lb : PL), r.2.1 = [v, cv turn, .bool false, .bool false, cv N, cv N, d1, pv H.length, pv (H.length + 1), d2, undef, undef, undef, undef, undef, undef] ∧
      MapR r.2.2 o' H.length la ∧ MapR r.2.2 o' (H.length + 1) lb ∧ Good third la (keys.take N) ∧ Good third lb (turned keys N t N) ∧ Fr H o0 r.2.2 o' [(H.length : Int), ((H.length + 1 : Nat) : Int)])
    (by
      rintro m vs H' ⟨i, d1, d2, o', la, lb, hi, rfl, rfl, ma, mb, na, nb, ga, gb, f⟩
      by_cases hlt : i < N
      · have h1 : (i : Int) < N := by omega
        have hik : i < keys.length := by omega
        obtain ⟨q, off, b, hix, hb, hc⟩ := (hv.fr f (by simp; omega)).1.idx hik
        obtain ⟨H3, o3, p3, ma3, f3⟩ := Put_runs (n := 99996) ma (keys.getD i 0) (third (keys.getD i 0)) (by omega) (by omega)
        have mb3 := mb.fr f3 (by simp; omega)
        have f13 := f.trans f3 (rs := [(H.length : Int), ((H.length + 1 : Nat) : Int)]) (fun _ h => h) (by simp)
        have hml := Nat.mod_lt (t + N - i) (show 0 < N by omega)
        obtain ⟨q', off', b', hix', hb', hc'⟩ := (hv.fr f13 (by simp; omega)).1.idx (j := (t + N - i) % N) (by omega)
        obtain ⟨H4, o4, p4, mb4, f4⟩ := Put_runs (n := 99996) mb3 (keys.getD ((t + N - i) % N) 0) (third (keys.getD ((t + N - i) % N) 0)) (by omega) (by omega)
        have ma4 := ma3.fr f4 (by simp; omega)
        have f14 := f13.trans f4 (rs := [(H.length : Int), ((H.length + 1 : Nat) : Int)]) (fun _ h => h) (by simp)
        have w1 : IntKind.i64.wrap ((t : Int) + N) = (t : Int) + N := w64 (by omega)
        have w2 : IntKind.i64.wrap ((t : Int) + N - i) = ((t + N - i : Nat) : Int) := by rw [w64 (by omega)]; omega
        have w3 : IntKind.i64.wrap ((i : Int) + 1) = ((i + 1 : Nat) : Int) := by rw [w64 (by omega)]; omega
        have hcut2 := Cut_runs (G := KG) 99999 ((t + N - i : Nat) : Int) N (by omega) (by omega) H3
        rw [← Int.natCast_emod] at hcut2
        refine .inl ⟨_, H4, N - (i + 1), by omega, ?_, i + 1, .bool true, cv (keys.getD ((t + N - i) % N) 0), o4, _, _, by omega, rfl, rfl, ma4, mb4, ?_, ?_, ga.put _ (take_mem hik), gb.put _ (turned_mem keys N t i), f14⟩
        · simp -implicitDefEqProofs [-List.getD_eq_getElem?_getD, -Int.natCast_add, -Int.natCast_emod, F8_b0_v, F8_b0v, lss_int, h1, hix, ld1_pv _ _ _ hb, hc, quo_int, p3, hcut, add_int, w1, sub_int, w2, hcut2, hix', ld1_pv _ _ _ hb', hc', p4, w3, fin]
        · rw [len_mput]; split <;> omega
        · rw [len_mput]; split <;> omega
      · have hiN : i = N := by omega
        subst hiN
        refine .inr ⟨(.exit 0, [v, cv turn, .bool false, .bool false, cv i, cv i, .bool false, pv H.length, pv (H.length + 1), d2, undef, undef, undef, undef, undef, undef], H'), ?_, by simp, rfl, _, d2, o', la, lb, rfl, ma, mb, ga, gb, f⟩
        simp -implicitDefEqProofs [F8_b0_v, F8_b0v, lss_int, fin])
    (N - 0) [v, cv turn, .bool false, .bool false, cv (0 : Nat), cv N, undef, pv H.length, pv (H.length + 1), undef, undef, undef, undef, undef, undef, undef] H2 ⟨0, _, _, _, [], [], Nat.zero_le _, rfl, rfl, mA, mB, Nat.le_refl _, Nat.le_refl _, ⟨.nil, by simp, by simp⟩, ⟨.nil, by simp, by simp [turned]⟩, f12⟩ 100000 (by omega)
  obtain ⟨e, vs, H'⟩ := r
  simp only at r1 r2
  obtain ⟨d1, d2, o', la, lb, rfl, ma, mb, ga, gb, f⟩ := r2
  subst r1
  obtain rfl : la = lb := ga.eq gb (turned_all (by omega))
  obtain ⟨A, eA⟩ : ∃ A, A = H'.new ⟨[.slice none 0 0], 51, 1, false⟩ := ⟨_, rfl⟩
  have fA : Fr H' o' A (o'.up H'.length (-6)) [] := by rw [eA]; exact (Fr.refl _ _ _).new _ _
  have maA := ma.fr fA (by simp)
  have mbA := mb.fr fA (by simp)
  have gA : A.get H'.length = some ⟨[.slice none 0 0], 51, 1, false⟩ := by rw [eA]; exact get_new
  have rAll := All_runs (G := KG) (n := 99998) H.length A
  obtain ⟨B, oB, x, hrng, fB, gB, xB⟩ := collect (G := KG) (n := 99998) (L := F8_L0 [v, cv turn, .bool false, .bool false, cv N, cv N, d1, pv H.length, pv (H.length + 1), d2, fromG A, undef, undef, pv H'.length, undef, undef])
    (fun m y k w H hy => by rw [F8_R0_eq (h := hy)]; kernel_rfl) maA gA up_self (by omega) (by omega)
  have maB := maA.fr fB (by simp)
  have mbB := mbA.fr fB (by simp; omega)
  obtain ⟨D, oD, rS1, fD⟩ := same_runs (G := KG) (n := 99997) mbB xB (by omega) (by omega)
  have maD := maB.fr fD (by simp)
  have xD := xB.fr fD (by simp)
  obtain ⟨E, oE, rS2, fE⟩ := same_runs (G := KG) (n := 99997) maD xD (by omega) (by omega)
  have oB6 : oB H'.length = -6 := by rw [fB.own _ (get_lt gA), up_self]
  have gD : D.get H'.length = some ⟨[x], 51, 1, false⟩ := by rw [fD.same _ (get_lt gB) (by rw [oB6]; simp)]; exact gB
  refine ⟨E, ?_⟩
  simp only [Int.natCast_zero] at hit
  rw [eA] at rAll hrng
  simp -implicitDefEqProofs [F8, kn, not_bool, abM0, b1, b2, hvl, minS, hmin, hit, F8_j1_v, F8_j1v, newBlk, rAll, hrng, F8_j2_v, F8_j2v, ld1_pv _ _ _ gB, ld1_pv _ _ _ gD, rS1, rS2, pick_bool]
end
end Go.Proofs.Ytdgolnenpnkjbaa.Fun
namespace Go.Proofs.Ytdgolnenpnkjbaa.Pure
open Go.RowKit Go.Proofs.YtdgolnenpnkjbaaA.Am Fun
theorem MapOrder_law : Law Try.prog 8 [22, 3] := law_of fun H args hr hi => by
  obtain ⟨v0, _, rfl, h0, v1, _, rfl, h1, rfl⟩ := hi
  obtain ⟨w, hv, _, _⟩ := h0.ints slT (show Try.prog.underlying 2 = _ from by kernel_rfl) (by kernel_rfl)
  obtain ⟨a, rfl, ha⟩ := h1.int (show Try.prog.underlying 3 = _ from by kernel_rfl)
  exact MapOrder_run hv a ha
end Go.Proofs.Ytdgolnenpnkjbaa.Pure
