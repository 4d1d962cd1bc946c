/-
slices.Insert of one value, told: its whole code.
-/
import Derived.Test.YtgakioiplkehgaaAmIns
import Derived.Test.YtgakioiplkehgaaAmIn
import Derived.RangeFuncLeaves
set_option linter.unusedSimpArgs false
set_option linter.unusedVariables false
namespace Go.Proofs.YtgakioiplkehgaaA.Am
open Go.RowKit (Below)
variable {P : Program} {μ : Mu} {H H' : Heap} {w : World} {B : Nat}

/-- What has to be shown at the function's end. -/
abbrev InsEnd (P : Program) (B : Nat) (μ : Mu) (a : Act) (w : World) (v : Value) (H' : Heap) (Q : Exit → Act → World → Prop) : Prop :=
  ∀ (a' : Act) (w' : World) (μ' : Mu) (Hf : Heap), μ.le μ' → Marks w w' a a' → Sim P μ' Hf w' B → Bel B w w' →
    (∀ w'', Sim P μ' Hf w'' B → ∃ μ'', μ'.le μ'' ∧ Sim P μ'' H' w'' B ∧ VR μ'' v (a'.tmps.getD 6 undef)) → Q .ret a' w'

theorem shift_go {tS tE tI : Nat} {sh : Code} {a : Act} {Q : Exit → Act → World → Prop} {len cap i b j jo vc : Nat} {cs : List Value} {ty : TypeId} {x v6 v16 v22 v31 v9 v68 : Value} (hm : P.follows .mixedOrders = true) (uS : P.underlying tS = some (.slice tE)) (zE : szOf P tE = some 1)
    (hok : okCode P 95 sh = true) (hev : ∀ v0 v1 v2 v6 v7 v16 v8 v22 v31 v9 v68 H, ev P noG K11 0 sh [v0, v1, v2, v6, v7, v16, v8, v22, v31, v9, v68] H = insQ3 P tS tI v0 v1 v2 v7 v16 v8 v22 v31 v9 v68 H)
    (hsz : a.tmps.size = 95) (hS : Sim P μ H w B) (hb : H.get b = some ⟨cs, ty, 1, false⟩) (hl : cs.length = cap) (hone : cs.all oneCell = true) (hi : i < len) (h2 : len + 1 ≤ cap) (hlen : len < 4294967296)
    (hbj : b ≠ j) (hx : ldCells H j jo 1 = some [x]) (hx1 : oneCell x = true) (hp : (cs.drop (len + 1)).all plainV = true)
    (hE : EnvR μ (Env.get (K11.zip [.slice (some ⟨b, 0, none⟩) (len + 1) cap, .int .i64 i, .slice (some ⟨j, jo, none⟩) 1 vc, v6, .int .i64 1, v16, .int .i64 len, v22, v31, v9, v68])) a.tmps)
    (hQ : InsEnd P B μ a w (.slice (some ⟨H.length, 0, none⟩) (len + 1) (len + 1)) ((H.kill b).new ⟨(cs.take len).take i ++ x :: (cs.take len).drop i, tE, 1, false⟩) Q) :
    sh.wpIn (FR none) 0 P Q a w := by
  have he := hev (.slice (some ⟨b, 0, none⟩) (len + 1) cap) (.int .i64 i) (.slice (some ⟨j, jo, none⟩) 1 vc) v6 (.int .i64 1) v16 (.int .i64 len) v22 v31 v9 v68 H
  rw [insQ3_eq uS zE hb hl hone hi h2 hlen hbj hx hx1] at he
  refine wpIn_mono (ev_soundR (N := 95) noG_ok hm sh _ H _ μ a w (fun _ e => by cases e) hok he (by omega) hS hE) ?_
  rintro e a' w' ⟨rfl, μ', h1, h2', h3, h4, h5, h6⟩
  refine hQ a' w' μ' _ h1 h3 h5 h6 (fun w'' hS'' => ?_)
  have hbl := Heap.get_lt hb
  obtain ⟨c1, c2, c3⟩ := ins_cells (cs := cs) (x := x) (i := i) (len := len) (by omega) (by omega)
  generalize splice (splice cs (i + 1) ((cs.drop i).take (len - i))) i [x] = S at hS'' c1 c2 c3
  have hb' : (H.put b ⟨S, ty, 1, false⟩).get b = some ⟨S, ty, 1, false⟩ := Heap.get_put_self hbl
  obtain ⟨l, hl', hok'⟩ := hS''.ok b _ hb'
  obtain ⟨k1, k2⟩ := hS''.anew hb' rfl hl' (len + 1) tE (by simp only [c2]; exact hp)
  have hk : (H.put b ⟨S, ty, 1, false⟩).kill b = H.kill b := by simp [Heap.put, Heap.kill]
  rw [hk] at k2
  simp only [c1] at k2
  rw [Heap.length_put] at k1 k2
  refine ⟨_, k1, k2, ?_⟩
  have g := (get11 h2').2.2.2.1
  exact VR.renum g (by omega) hl' Mu.up_self

theorem put_same {i : Nat} {c : Blk} (h : H.get i = some c) : H.put i c = H := by
  have hi := Heap.get_lt h
  unfold Heap.put
  apply List.ext_getElem?
  intro k
  by_cases e : k = i
  · subst e
    rw [List.getElem?_set_self hi]
    unfold Heap.get at h
    rw [List.getElem?_eq_getElem hi] at h ⊢
    revert h
    generalize H[k] = q
    intro h
    cases q <;> simp_all
  · rw [List.getElem?_set_ne (Ne.symm e)]
/-- From the question for the capacity on. -/
theorem ins_rest {f fo : FuncId} {tS tE tI tB by_ : Nat} {p6 p10 p8 : Nat} {o6 o10 o8 : Array Oper} {gr r6 sh tl : Code} {z : Value} {a : Act} {Q : Exit → Act → World → Prop} {len cap i b j jo vc : Nat} {cs : List Value} {ty : TypeId} {bj : Blk} {x v6 v16 v22 v31 v9 v68 : Value}
    (I : InsCode P f fo tS tE tI tB by_) (hz : zeroOf P tE = some z) (kgr : okCode P 95 gr = true) (kr6 : okCode P 95 r6 = true) (ksh : okCode P 95 sh = true)
    (h6 : opsAre o6.toList [(.move (.tmp 8), 26), (.move (.tmp 7), 27), (.binOp .add tI (.tmp 26) (.tmp 27) tI, 28), (.move (.tmp 0), 29), (.call { callee := .builtin .cap, args := #[.tmp 29], argTypes := #[tS] }, 30), (.binOp .gtr tI (.tmp 28) (.tmp 30) tI, 31)])
    (h10 : opsAre o10.toList [(.move (.tmp 0), 32), (.move (.tmp 1), 33), (.slice tS (.tmp 32) none (some (.tmp 33)) none, 34), (.move (.tmp 8), 35), (.move (.tmp 7), 36), (.binOp .add tI (.tmp 35) (.tmp 36) tI, 37), (.move (.tmp 1), 38), (.binOp .sub tI (.tmp 37) (.tmp 38) tI, 39), (.call { callee := .builtin .append, args := #[.tmp 34, .tmp 39], argTypes := #[tS, tI] }, 40), (.assign (.tmp 40), 9)])
    (h8 : opsAre o8.toList [(.move (.tmp 2), 61), (.move (.tmp 0), 62), (.move (.tmp 1), 63), (.move (.tmp 7), 64), (.binOp .add tI (.tmp 63) (.tmp 64) tI, 65), (.slice tS (.tmp 62) (some (.tmp 65)) none none, 66), (.call { callee := .value (.func fo), args := #[.tmp 61, .tmp 66], argTypes := #[tS, tS] }, 67), (.unOp .not tB (.tmp 67), 68)])
    (egr : ∀ v0 v1 v2 v6 v7 v16 v8 v22 v31 v9 v68 H, ev P noG K11 0 gr [v0, v1, v2, v6, v7, v16, v8, v22, v31, v9, v68] H = insQ1 P tS tI v0 v1 v2 v7 v16 v8 v22 v31 v9 v68 H)
    (er6 : ∀ v0 v1 v2 v6 v7 v16 v8 v22 v31 v9 v68 H, ev P noG K11 0 r6 [v0, v1, v2, v6, v7, v16, v8, v22, v31, v9, v68] H = insQ2 P tI v0 v1 v2 v6 v7 v16 v8 v22 v31 v9 v68 H)
    (esh : ∀ v0 v1 v2 v6 v7 v16 v8 v22 v31 v9 v68 H, ev P noG K11 0 sh [v0, v1, v2, v6, v7, v16, v8, v22, v31, v9, v68] H = insQ3 P tS tI v0 v1 v2 v7 v16 v8 v22 v31 v9 v68 H)
    (hsz : a.tmps.size = 95) (hS : Sim P μ H w B) (hb : H.get b = some ⟨cs, ty, 1, false⟩) (hl : cs.length = cap) (hi : i < len) (h2 : len ≤ cap) (hlen : len < 4294967296)
    (hbj : b ≠ j) (hj : H.get j = some bj) (hjro : bj.ro = false) (hjes : bj.es = 1) (hx : ldCells H j jo 1 = some [x]) (hp : (cs.drop len).all plainV = true)
    (hE : EnvR μ (Env.get (K11.zip [.slice (some ⟨b, 0, none⟩) len cap, .int .i64 i, .slice (some ⟨j, jo, none⟩) 1 vc, v6, .int .i64 1, v16, .int .i64 len, v22, v31, v9, v68])) a.tmps)
    (hQ : InsEnd P B μ a w (.slice (some ⟨H.length, 0, none⟩) (len + 1) (len + 1)) ((H.kill b).new ⟨(cs.take len).take i ++ x :: (cs.take len).drop i, tE, 1, false⟩) Q) :
    (Code.seq (.seq (.region p6 o6 false) (.cond (.tmp 31) (.seq (.region p10 o10 false) gr) .skip)) (.seq r6 (.seq (.seq (.region p8 o8 false) (.cond (.tmp 68) sh .skip)) tl))).wpIn (FR none) 0 P Q a w := by
  obtain ⟨lb, hlb, hbok⟩ := hS.ok b _ hb
  obtain ⟨lj, hlj, hjok⟩ := hS.ok j _ hj
  have hone := hbok.one
  simp only at hone
  have hx1 : oneCell x = true := by
    have := hS.ldOne hx
    simpa using this
  obtain ⟨g0, g1, g2, g6, g7, g16, g8, g22, g31, g9, g68⟩ := get11 hE
  have e1 := g1.int
  have e7 := g7.int
  have e8 := g8.int
  obtain ⟨c1, e0, hc1, hc2⟩ : ∃ c1, a.tmps.getD 0 undef = .slice (some ⟨lb.b, lb.o, none⟩) len c1 ∧ cap ≤ c1 ∧ lb.o + c1 ≤ lb.sz := by
    rcases g0.slice_some with ⟨i', off, cap', l', e, hl', q1, q2, q3, q4⟩ | ⟨_, _, _, _, q1, _⟩
    · cases e
      rw [hlb] at hl'; cases hl'
      have hes : lb.es = 1 := hbok.es
      exact ⟨cap', q4, q2, by rw [hes] at q3; omega⟩
    · omega
  obtain ⟨cj, e2⟩ : ∃ cj, a.tmps.getD 2 undef = .slice (some ⟨lj.b, lj.o + jo, none⟩) 1 cj := by
    rcases g2.slice_some with ⟨i', off, cap', l', e, hl', q1, q2, q3, q4⟩ | ⟨_, _, _, _, q1, _⟩
    · cases e
      rw [hlj] at hl'; cases hl'
      exact ⟨cap', q4⟩
    · omega
  refine wpIn_seq (wpIn_seq (cap_region I.uS h6 hsz hlen e0 e7 e8 ?_))
  intro a1 d1 s1 t31 to1
  have hd1 : Marks w w a a1 := Marks.of_eq d1
  have hto : ∀ t, t < 26 ∨ 31 < t → ∀ v, VR μ v (a.tmps.getD t undef) → VR μ v (a1.tmps.getD t undef) := fun t ht v h => by rw [to1 t ht]; exact h
  show (Code.cond (.tmp 31) _ .skip).wpIn _ _ _ _ a1 w
  by_cases hc : c1 < len + 1
  · -- the row has no cell more: it grows
    rw [decide_eq_true hc] at t31
    refine wpIn_cond_true t31 (wpIn_seq ?_)
    refine grow_region (H := H) (μ := μ) (cs := cs) (ty := ty) (l := lb) (b := b) I.uS I.uI I.zE I.bE I.by4 hz h10 s1 hlen hi hS hb hlb (by omega) hc (by omega) (by rw [to1 0 (by omega)]; exact e0) (by rw [to1 1 (by omega)]; exact e1) (by rw [to1 7 (by omega)]; exact e7) (by rw [to1 8 (by omega)]; exact e8) ?_
    intro a2 w2 μ2 d2 s2 hle2 v9' to2 hS2 hB2
    have ez := egr (.slice (some ⟨b, 0, none⟩) len cap) (.int .i64 i) (.slice (some ⟨j, jo, none⟩) 1 vc) v6 (.int .i64 1) v16 (.int .i64 len) v22 unk (.slice (some ⟨H.length, 0, none⟩) (len + 1) (len + 1)) v68 (H.new ⟨cs.take i ++ zeros z.cells.toList (len + 1 - i), tE, 1, false⟩)
    obtain ⟨_, hzc, m, hm, hzn⟩ := run_zero hz w
    rw [I.zE] at hm; cases hm
    have hzl : (cs.take i ++ zeros z.cells.toList (len + 1 - i)).length = len + 1 := by
      rw [List.length_append, zeros_length, List.length_take]
      simp only [Array.length_toList] at hzn ⊢
      rw [hzn]; omega
    rw [insQ1_eq I.uS I.zE hb (by omega) hone hi hlen hzl (by rw [List.take_append_of_le_length (by simp; omega), List.take_take, Nat.min_self]) h2 (by omega) hx hx1] at ez
    have hE2 : EnvR μ2 (Env.get (K11.zip [.slice (some ⟨b, 0, none⟩) len cap, .int .i64 i, .slice (some ⟨j, jo, none⟩) 1 vc, v6, .int .i64 1, v16, .int .i64 len, v22, unk, .slice (some ⟨H.length, 0, none⟩) (len + 1) (len + 1), v68])) a2.tmps := by
      have up : ∀ t, (t < 9 ∨ (9 < t ∧ t < 26) ∨ 40 < t) → ∀ v, VR μ v (a.tmps.getD t undef) → VR μ2 v (a2.tmps.getD t undef) := fun t ht v h => by
        rw [to2 t (by omega), to1 t (by omega)]; exact h.mono hle2
      exact put11 (up 0 (by omega) _ g0) (up 1 (by omega) _ g1) (up 2 (by omega) _ g2) (up 6 (by omega) _ g6) (up 7 (by omega) _ g7) (up 16 (by omega) _ g16) (up 8 (by omega) _ g8) (up 22 (by omega) _ g22) (.unk _) v9' (up 68 (by omega) _ g68)
    refine wpIn_mono (ev_soundR (N := 95) noG_ok I.mixed gr _ _ _ μ2 a2 w2 (fun _ e => by cases e) kgr ez (by omega) hS2 hE2) ?_
    rintro e a' w' ⟨rfl, μ', h1, h2', h3, h4, h5, h6'⟩
    have hM2 : Marks w w2 a a2 := by
      have : Marks w w2 a1 a2 := Marks.of_eq d2
      exact hd1.trans (Bel.refl _ _) hB2 this
    refine hQ a' w' μ' _ (Mu.le_trans hle2 h1) (hM2.trans hB2 h6' h3) h5 (hB2.trans h6') (fun w'' hS'' => ?_)
    have hbl := Heap.get_lt hb
    have hk : (H.new ⟨(cs.take len).take i ++ x :: (cs.take len).drop i, tE, 1, false⟩).kill b = (H.kill b).new ⟨(cs.take len).take i ++ x :: (cs.take len).drop i, tE, 1, false⟩ := by
      unfold Heap.kill Heap.new
      rw [List.set_append_left _ _ hbl]
    refine ⟨μ', μ'.le_refl, by rw [← hk]; exact hS''.kill, ?_⟩
    exact (get11 h2').2.2.2.1
  · -- there is room: what stands behind moves on
    rw [decide_eq_false hc] at t31
    refine wpIn_cond_false t31 (wpIn_skip ?_)
    have room : ∃ cs' cap', cs'.length = cap' ∧ cap' ≤ c1 ∧ len + 1 ≤ cap' ∧ Sim P μ (H.put b ⟨cs', ty, 1, false⟩) w B ∧ cs'.take len = cs.take len ∧ (cs'.drop (len + 1)).all plainV = true ∧ cs'.all oneCell = true := by
      by_cases hcl : len + 1 ≤ cap
      · refine ⟨cs, cap, hl, hc1, hcl, ?_, rfl, ?_, hone⟩
        · have : H.put b ⟨cs, ty, 1, false⟩ = H := by
            exact put_same hb
          rw [this]; exact hS
        · rw [List.all_eq_true] at hp ⊢
          intro y hy
          rw [show len + 1 = len + 1 from rfl, ← List.drop_drop] at hy
          exact hp y (List.mem_of_mem_drop hy)
      · have hcap : cap = len := by omega
        obtain ⟨csw, tyw, hrow, hrs⟩ := row_of hS hb rfl hlb
        have hszr : lb.sz = csw.size := by
          obtain ⟨cs2, ty2, fz2, q1, q2, _⟩ := hbok.row
          rw [hrow] at q1; cases q1; exact q2.symm
        obtain ⟨v, hv⟩ := hS.longer hb rfl hlb hrow (by simp only; omega)
        have hok2 := hv.ok b _ (Heap.get_put_self (Heap.get_lt hb))
        obtain ⟨_, _, hok2⟩ := hok2
        refine ⟨cs ++ [v], len + 1, by simp; omega, by omega, Nat.le_refl _, hv, ?_, ?_, hok2.one⟩
        · rw [List.take_append_of_le_length (by omega)]
        · rw [List.drop_eq_nil_of_le (by simp; omega)]; rfl
    obtain ⟨cs', cap', hl', hcc, hcl, hS', htk, hp', hone'⟩ := room
    have hbl := Heap.get_lt hb
    have hb' : (H.put b ⟨cs', ty, 1, false⟩).get b = some ⟨cs', ty, 1, false⟩ := Heap.get_put_self hbl
    have hE1 : EnvR μ (Env.get (K11.zip [.slice (some ⟨b, 0, none⟩) len cap', .int .i64 i, .slice (some ⟨j, jo, none⟩) 1 vc, v6, .int .i64 1, v16, .int .i64 len, v22, unk, v9, v68])) a1.tmps := by
      refine put11 (hto 0 (by omega) _ ?_) (hto 1 (by omega) _ g1) (hto 2 (by omega) _ g2) (hto 6 (by omega) _ g6) (hto 7 (by omega) _ g7) (hto 16 (by omega) _ g16) (hto 8 (by omega) _ g8) (hto 22 (by omega) _ g22) (.unk _) (hto 9 (by omega) _ g9) (hto 68 (by omega) _ g68)
      rw [e0]
      have hes : lb.es = 1 := hbok.es
      exact VR.slice b 0 len cap' c1 lb hlb (by omega) hcc (by rw [hes]; omega)
    have er := er6 (.slice (some ⟨b, 0, none⟩) len cap') (.int .i64 i) (.slice (some ⟨j, jo, none⟩) 1 vc) v6 (.int .i64 1) v16 (.int .i64 len) v22 unk v9 v68 (H.put b ⟨cs', ty, 1, false⟩)
    rw [insQ2_eq hb' rfl hcl hlen] at er
    show (Code.seq r6 _).wpIn _ _ _ _ a1 w
    refine wpIn_seq (wpIn_mono (ev_soundR (N := 95) noG_ok I.mixed r6 _ _ _ μ a1 w (fun _ e => by cases e) kr6 er (by omega) hS' hE1) ?_)
    rintro e a2 w2 ⟨rfl, μ2, hle2, hE2, hM2, s2, hS2, hB2⟩
    obtain ⟨k0, k1, k2, k6, k7, k16, k8, k22, k31, k9, k68⟩ := get11 hE2
    have hlb2 : μ2 b = some lb := hle2 _ _ hlb
    have hlj2 : μ2 j = some lj := hle2 _ _ hlj
    have hj2 : (H.put b ⟨cs', ty, 1, false⟩).get j = some bj := by rw [Heap.get_put_ne (Ne.symm hbj)]; exact hj
    obtain ⟨c2, f0, hc3⟩ : ∃ c2, a2.tmps.getD 0 undef = .slice (some ⟨lb.b, lb.o, none⟩) (len + 1) c2 ∧ len + 1 ≤ c2 := by
      rcases k0.slice_some with ⟨i', off, cap', l', e, hl', q1, q2, q3, q4⟩ | ⟨_, _, _, _, q1, _⟩
      · cases e
        rw [hlb2] at hl'; cases hl'
        exact ⟨cap', q4, by omega⟩
      · omega
    obtain ⟨c3, f2⟩ : ∃ cj, a2.tmps.getD 2 undef = .slice (some ⟨lj.b, lj.o + jo, none⟩) 1 cj := by
      rcases k2.slice_some with ⟨i', off, cap', l', e, hl', q1, q2, q3, q4⟩ | ⟨_, _, _, _, q1, _⟩
      · cases e
        rw [hlj2] at hl'; cases hl'
        exact ⟨cap', q4⟩
      · omega
    show (Code.seq (.seq (.region p8 o8 false) (.cond (.tmp 68) sh .skip)) tl).wpIn _ _ _ _ a2 w2
    refine wpIn_seq (wpIn_seq (over_region (H := H.put b ⟨cs', ty, 1, false⟩) (μ := μ2) (b := b) (j := j) (l := lb) (lj := lj) (bb := ⟨cs', ty, 1, false⟩) (bj := bj) I.uS I.zE I.over h8 (by omega) hlen hi hS2 hb' rfl hlb2 hj2 hjro hlj2 hbj hc3 (by simp only; omega) f0 k1.int f2 k7.int ?_))
    intro a3 d3 s3 t68 to3
    refine wpIn_cond_true t68 ?_
    have hE3 : EnvR μ2 (Env.get (K11.zip [.slice (some ⟨b, 0, none⟩) (len + 1) cap', .int .i64 i, .slice (some ⟨j, jo, none⟩) 1 vc, v6, .int .i64 1, v16, .int .i64 len, v22, unk, v9, unk])) a3.tmps := by
      have up : ∀ t, t < 61 → ∀ v, VR μ2 v (a2.tmps.getD t undef) → VR μ2 v (a3.tmps.getD t undef) := fun t ht v h => by rw [to3 t ht]; exact h
      exact put11 (up 0 (by omega) _ k0) (up 1 (by omega) _ k1) (up 2 (by omega) _ k2) (up 6 (by omega) _ k6) (up 7 (by omega) _ k7) (up 16 (by omega) _ k16) (up 8 (by omega) _ k8) (up 22 (by omega) _ k22) (.unk _) (up 9 (by omega) _ k9) (.unk _)
    have hx' : ldCells (H.put b ⟨cs', ty, 1, false⟩) j jo 1 = some [x] := by
      simp only [ldCells, Heap.get_put_ne (Ne.symm hbj)] at hx ⊢; exact hx
    have hM3 : Marks w w2 a a3 := by
      have m1 : Marks w w2 a a2 := hd1.trans (Bel.refl _ _) hB2 hM2
      exact m1.trans hB2 (Bel.refl _ _) (Marks.of_eq d3)
    refine shift_go I.mixed I.uS I.zE ksh esh s3 hS2 hb' hl' hone' hi hcl hlen hbj hx' hx1 hp' hE3 ?_
    intro a' w' μ' Hf q1 q2 q3 q4 q5
    have hk : (H.put b ⟨cs', ty, 1, false⟩).kill b = H.kill b := by simp [Heap.put, Heap.kill]
    rw [hk, htk, Heap.length_put] at q5
    exact hQ a' w' μ' Hf (Mu.le_trans hle2 q1) (hM3.trans hB2 q4 q2) q3 (hB2.trans q4) q5

theorem ins_told {f fo : FuncId} {tS tE tI tB by_ : Nat} {args : List Value} {v : Value} (I : InsCode P f fo tS tE tI tB by_) (h : insG tE args H = some (v, H')) :
    (∃ fn, P.funcs[f]? = some fn ∧ fn.body.isSome = true ∧ (fn.name == "runtime.NumGoroutine") = false) ∧ Comes' P B f args H v H' := by
  obtain ⟨fn, p6, p10, p8, o6, o10, o8, a1, a2, a3, a4, a5, a6, gr, r6, sh, tl, z, hf, hn, hres, hnt, hz, hbody, hok, h6, h10, h8, e0, egr, er6, esh⟩ := I.code
  refine ⟨⟨fn, hf, by rw [hbody]; rfl, hn⟩, ?_⟩
  intro μ w args' hS ha
  simp only [okCode, Bool.and_eq_true] at hok
  obtain ⟨k1, k2, k3, k4, k5, k6, ⟨_, ⟨_, kgr⟩, _⟩, kr6, ⟨_, ksh, _⟩, _⟩ := hok
  unfold insG at h
  split at h
  case h_2 => cases h
  rename_i base len cap i j jo vc
  split at h
  case h_2 => cases h
  rename_i bj x hj hx
  split at h
  case isFalse => cases h
  rename_i hc
  obtain ⟨hjro, hjes, hi0, hil, hlen⟩ := hc
  have hinit : ∀ tmps : Array Value, tmps = args'.toArray ++ Array.replicate (fn.ntmps - args'.toArray.size) undef → tmps.size = 95 ∧
      EnvR μ (Env.get (K11.zip [.slice base len cap, .int .i64 i, .slice (some ⟨j, jo, none⟩) 1 vc, unk, unk, unk, unk, unk, unk, unk, unk])) tmps := by
    rintro tmps rfl
    have hl3 : args'.length = 3 := ha.1.symm
    obtain ⟨s', i', v', rfl⟩ : ∃ s' i' v', args' = [s', i', v'] := by
      match args', hl3 with
      | [s', i', v'], _ => exact ⟨_, _, _, rfl⟩
    have hg : ∀ k u, [Value.slice base len cap, .int .i64 i, .slice (some ⟨j, jo, none⟩) 1 vc][k]? = some u → ∃ u', [s', i', v'][k]? = some u' ∧ VR μ u u' := ha.2
    obtain ⟨u0, q0, r0⟩ := hg 0 _ rfl
    obtain ⟨u1, q1, r1⟩ := hg 1 _ rfl
    obtain ⟨u2, q2, r2⟩ := hg 2 _ rfl
    cases q0; cases q1; cases q2
    rw [hnt]
    refine ⟨by simp, put11 ?_ ?_ ?_ (.unk _) (.unk _) (.unk _) (.unk _) (.unk _) (.unk _) (.unk _) (.unk _)⟩
    · simpa using r0
    · simpa using r1
    · simpa using r2
  refine (callsIn_wide (n := 0)).1 (callsIn_of_wp_marks (F := FR none) hf hbody trivial ?_)
  obtain ⟨hsz, hE⟩ := hinit _ rfl
  generalize hA : ({ tmps := args'.toArray ++ Array.replicate (fn.ntmps - args'.toArray.size) undef, defers := [] } : Act) = A at *
  have hAt : A.tmps = args'.toArray ++ Array.replicate (fn.ntmps - args'.toArray.size) undef := by rw [← hA]
  have hAd : A.defers = [] := by rw [← hA]
  rw [← hAt] at hsz hE
  clear hA hinit
  have hcs : ∀ c ∈ [a1, a2, a3, a4, a5], okCode P 95 c = true := by
    intro c hc
    simp only [List.mem_cons, List.not_mem_nil, or_false] at hc
    rcases hc with rfl | rfl | rfl | rfl | rfl <;> assumption
  show (seqs [a1, a2, a3, a4, a5] (.seq a6 _)).wpIn _ _ _ _ A w
  have fin_ : ∀ {a' w' μ' Hf}, μ.le μ' → Marks w w' A a' → Sim P μ' Hf w' B → Bel B w w' →
    (∀ w'', Sim P μ' Hf w'' B → ∃ μ'', μ'.le μ'' ∧ Sim P μ'' H' w'' B ∧ VR μ'' v (a'.tmps.getD 6 undef)) → bodyPostM (FR none) 0 P fn (CPost P B μ w v H') .ret a' w' :=
    fun q1 q2 q3 q4 q5 => ins_fin hres hAd q2 q1 hS.base q3 q4 q5
  have he := e0 (.slice base len cap) (.int .i64 i) (.slice (some ⟨j, jo, none⟩) 1 vc) unk unk unk unk unk unk unk unk H
  have hx1 : oneCell x = true := by
    have := hS.ldOne hx
    simpa using this
  split at h
  · -- no base: a new row
    split at h
    case isFalse => cases h
    rename_i h0
    obtain ⟨rfl, rfl⟩ := h0
    obtain rfl : i = 0 := by omega
    cases h
    rw [insQ0_nil, app_nil hx I.by4] at he
    refine seqs_sound (N := 95) noG_ok I.mixed _ _ H μ A w (fun _ e => by cases e) hcs k6 he (by omega) hS hE (fun e => by cases e) ?_
    rintro _ a' w' ⟨_, μ', q1, q2, q3, q4, q5, q6⟩
    exact fin_ q1 q3 q5 q6 fun w'' hS'' => ⟨μ', μ'.le_refl, hS'', (get11 q2).2.2.2.1⟩
  · rename_i b
    split at h
    case h_2 => cases h
    rename_i bb hb
    split at h
    case isFalse => cases h
    rename_i h0
    obtain ⟨hro, hes, hbj, hcl, hlc, hp⟩ := h0
    cases h
    obtain ⟨cs, ty, es, ro⟩ := bb
    simp only at hro hes hcl hp
    subst hro; subst hes
    by_cases hil' : i = len
    · -- at the end: an append
      subst hil'
      have hib : (cs.take len).take ((len : Int)).toNat ++ x :: (cs.take len).drop ((len : Int)).toNat = cs.take len ++ [x] := by
        have : ((len : Int)).toNat = len := by omega
        rw [this, List.take_take, Nat.min_self, List.drop_eq_nil_of_le (by rw [List.length_take]; omega)]
      simp only [hib] at fin_ ⊢
      rw [insQ0_end hb rfl hlc] at he
      by_cases hr : len + 1 ≤ cap
      · rw [app_room hx hx1 hb rfl rfl hcl hr] at he
        refine seqs_sound (N := 95) noG_ok I.mixed _ _ H μ A w (fun _ e => by cases e) hcs k6 he (by omega) hS hE (fun e => by cases e) ?_
        rintro _ a' w' ⟨_, μ', q1, q2, q3, q4, q5, q6⟩
        refine fin_ q1 q3 q5 q6 fun w'' hS'' => ?_
        have hbl := Heap.get_lt hb
        have hb' : (H.put b ⟨cs.set len x, ty, 1, false⟩).get b = some ⟨cs.set len x, ty, 1, false⟩ := Heap.get_put_self hbl
        obtain ⟨l, hl', hok'⟩ := hS''.ok b _ hb'
        have hdr : ((cs.set len x).drop (len + 1)).all plainV = true := by
          rw [List.drop_set_of_lt (by omega)]
          rw [List.all_eq_true] at hp ⊢
          intro y hy
          rw [← List.drop_drop] at hy
          exact hp y (List.mem_of_mem_drop hy)
        obtain ⟨k1, k2⟩ := hS''.anew hb' rfl hl' (len + 1) tE hdr
        have hk : (H.put b ⟨cs.set len x, ty, 1, false⟩).kill b = H.kill b := by simp [Heap.put, Heap.kill]
        have htk : (cs.set len x).take (len + 1) = cs.take len ++ [x] := by
          have e : cs.take len ++ x :: cs.drop (len + 1) = (cs.take len ++ [x]) ++ cs.drop (len + 1) := by simp
          rw [List.set_eq_take_append_cons_drop, if_pos (by omega), e]
          exact List.take_left' (by simp; omega)
        rw [hk, Heap.length_put] at k2
        simp only [htk] at k2
        rw [Heap.length_put] at k1
        refine ⟨_, k1, k2, ?_⟩
        exact VR.renum (get11 q2).2.2.2.1 (by omega) hl' Mu.up_self
      · have hlc' : cap = len := by omega
        subst hlc'
        rw [app_grow hx hb rfl rfl hcl I.by4 hlen] at he
        refine seqs_sound (N := 95) noG_ok I.mixed _ _ H μ A w (fun _ e => by cases e) hcs k6 he (by omega) hS hE (fun e => by cases e) ?_
        rintro _ a' w' ⟨_, μ', q1, q2, q3, q4, q5, q6⟩
        have : cs.take cap = cs := List.take_of_length_le (by omega)
        rw [this] at fin_ ⊢
        exact fin_ q1 q3 q5 q6 fun w'' hS'' => ⟨μ', μ'.le_refl, hS'', (get11 q2).2.2.2.1⟩
    · obtain ⟨n, rfl⟩ : ∃ n : Nat, i = n := ⟨i.toNat, by omega⟩
      rw [insQ0_mid hb rfl hi0 (by omega) hlc] at he
      refine seqs_sound (N := 95) noG_ok I.mixed _ _ H μ A w (fun _ e => by cases e) hcs k6 he (by omega) hS hE ?_ (fun e => absurd rfl e)
      rintro _ a' w' ⟨_, μ', q1, q2, q3, q4, q5, q6⟩
      refine ins_rest I hz kgr kr6 ksh h6 h10 h8 egr er6 esh (q4.trans hsz) q5 hb hcl (by omega) hlc hlen hbj hj hjro hjes hx hp q2 ?_
      intro a2 w2 μ2 Hf r1 r2 r3 r4 r5
      exact fin_ (Mu.le_trans q1 r1) (q3.trans q6 r4 r2) r3 (q6.trans r4) r5
  · cases h

/-! functions that are told: Insert at its element types, and closed functions that answer true -/
def insK (ins : List (FuncId × TypeId)) : Oracle := fun f args H => match ins.find? (fun q => q.1 == f) with
  | some q => insG q.2 args H
  | none => none
theorem insK_hole {ins : List (FuncId × TypeId)} : HoleOk (insK ins) := by
  intro f args H i b
  unfold insK
  cases ins.find? (fun q => q.1 == f) with
  | none => intro _ v H' h; cases h
  | some q => exact insG_hole
def InsAll (P : Program) (ins : List (FuncId × TypeId)) : Prop := ∀ q ∈ ins, ∃ fo tS tI tB by_, InsCode P q.1 fo tS q.2 tI tB by_
theorem insK_told {ins : List (FuncId × TypeId)} (I : InsAll P ins) {f : FuncId} {args : List Value} {v : Value} (h : insK ins f args H = some (v, H')) :
    (∃ fn, P.funcs[f]? = some fn ∧ fn.body.isSome = true ∧ (fn.name == "runtime.NumGoroutine") = false) ∧ Comes' P B f args H v H' := by
  unfold insK at h
  split at h
  · rename_i q hq
    have hm := List.mem_of_find?_eq_some hq
    have he := List.find?_some hq
    simp only [beq_iff_eq] at he
    obtain ⟨fo, tS, tI, tB, by_, hI⟩ := I q hm
    subst he
    exact ins_told hI h
  · cases h
/-- What is told, with closed functions that answer true. -/
def kinG (ks : List FuncId) (ins : List (FuncId × TypeId)) : Oracle := fun f args H => if ks.contains f = true ∧ args.isEmpty = true then some (.bool true, H) else insK ins f args H
theorem kinG_hole {ks : List FuncId} {ins : List (FuncId × TypeId)} : HoleOk (kinG ks ins) := fun f args H i b hf v H' h => by
  unfold kinG at h ⊢
  split at h
  · rename_i hc; cases h; rw [if_pos hc]; exact ⟨hf, rfl⟩
  · rename_i hc; rw [if_neg hc]; exact insK_hole f args H i b hf v H' h
theorem closed_told_in {bad : List FuncId} {ins : List (FuncId × TypeId)} {m : Nat} {k : FuncId} {Hk : Heap} (hok : okProg P bad = true) (I : InsAll P ins) (hk : acall P bad (insK ins) m k [] [] = some (.bool true, Hk)) (B : Nat) (H : Heap) :
    (∃ fn, P.funcs[k]? = some fn ∧ fn.body.isSome = true ∧ (fn.name == "runtime.NumGoroutine") = false) ∧ Comes' P B k [] H (.bool true) H := by
  have hlt : k < P.funcs.size := acall_lt (Sim.empty default) (fun _ h => by
    obtain ⟨⟨fn, hfn, _⟩, _⟩ := insK_told (B := 0) I h
    exact (Array.getElem?_eq_some_iff.1 hfn).1) hk
  refine ⟨(((acall_sound (B := 0) hok (G := insK ins) insK_hole (fun f args H v H' _ h => insK_told I h) m).told k [] [] _ Hk hk).1 hlt).1, ?_⟩
  intro μ w args' hS ha
  have hs := acall_sound (B := w.heap.size) hok (G := insK ins) insK_hole (fun f args H v H' _ h => insK_told I h) m |>.told k [] [] _ Hk hk
  have ha0 : args' = [] := by
    have := ha.1
    simpa using this.symm
  subst ha0
  refine ((hs.1 hlt).2 _ w [] (Sim.empty w) .nil).mono ?_
  rintro e w' ⟨v', μ', rfl, _, hv, _, hb⟩
  rw [hv.bool]
  exact ⟨_, μ, rfl, μ.le_refl, .plain _ rfl, hS.below hb.below, ⟨hb.below.mono hS.base, hb.loops, hb.dfr, hb.size⟩⟩
theorem law_true_ins {bad ks : List FuncId} {ins : List (FuncId × TypeId)} {m n : Nat} {f : FuncId} {args args' : List Value} (I : InsAll P ins) (hok : okProg P bad = true) (hok' : okProg P (ks ++ bad) = true)
    (hk : (ks.all fun k => (acall P bad (insK ins) m k [] []).any fun r => eqV r.1 (.bool true)) = true) (h : acall P (ks ++ bad) (kinG ks ins) n f args H = some (.bool true, H')) (hS : Sim P μ H w w.heap.size) (ha : VRs μ args args') :
    Calls P f args'.toArray w fun e w' => e = .returned (.bool true) ∧ Below w.heap.size w w' := by
  have hG : ∀ f1 args1 H1 v1 H1', (ks ++ bad).contains f1 = true → kinG ks ins f1 args1 H1 = some (v1, H1') →
      (∃ fn, P.funcs[f1]? = some fn ∧ fn.body.isSome = true ∧ (fn.name == "runtime.NumGoroutine") = false) ∧ Comes' P w.heap.size f1 args1 H1 v1 H1' := fun f1 args1 H1 v1 H1' _ h1 => by
    unfold kinG at h1
    split at h1
    · rename_i h2
      obtain ⟨h3, h2⟩ := h2
      have h2 : args1 = [] := by simpa using h2
      subst h2
      cases h1
      have hm := List.all_eq_true.1 hk f1 (by simpa using h3)
      cases hr : acall P bad (insK ins) m f1 [] [] with
      | none => rw [hr] at hm; simp at hm
      | some r =>
        obtain ⟨v, Hk⟩ := r
        rw [hr] at hm
        have hv : v = .bool true := by
          simp only [Option.any_some, eqV] at hm
          cases v <;> simp_all [eqV1]
        subst hv
        exact closed_told_in hok I hr _ _
    · exact insK_told I h1
  have hs := (acall_sound (B := w.heap.size) hok' kinG_hole hG n).told f args H _ H' h
  have hlt : f < P.funcs.size := acall_lt hS (fun hb h => by
    obtain ⟨⟨fn, hfn, _⟩, _⟩ := hG _ _ _ _ _ hb h
    exact (Array.getElem?_eq_some_iff.1 hfn).1) h
  refine ((hs.1 hlt).2 μ w args' hS ha).mono ?_
  rintro e w' ⟨v', μ', rfl, _, hv, _, hb⟩
  exact ⟨by rw [hv.bool], hb.below⟩
theorem Law.of_ins {f : FuncId} {ts : List TypeId} {bad : List FuncId} (ks : List FuncId) (ins : List (FuncId × TypeId)) (m : Nat) (I : InsAll P ins) (hp : okProg P bad = true) (hp' : okProg P (ks ++ bad) = true)
    (hk : (ks.all fun k => (acall P bad (insK ins) m k [] []).any fun r => eqV r.1 (.bool true)) = true)
    (h : ∀ H args, AllRo H → InArgs P H 9 ts args → ∃ n H', acall P (ks ++ bad) (kinG ks ins) n f args H = some (.bool true, H')) : Law P f ts := by
  intro W H args μ hr hi hS vs hv
  obtain ⟨n, H', h⟩ := h H args hr hi
  exact law_true_ins I hp hp' hk h hS hv

/-! the pieces of a code, by their places -/
def rid : Code → Nat
  | .region p _ _ => p
  | _ => 0
def rops : Code → Array Oper
  | .region _ o _ => o
  | _ => #[]
def fnAt (P : Program) (f : Nat) : Func := (P.funcs[f]?).getD default
def zAt (P : Program) (t : TypeId) : Value := (zeroOf P t).getD unk
theorem opsAre_of : ∀ {l : List Oper} {s : List (Op × Nat)}, l.map (fun o => (o.op, o.dst, o.guard)) = s.map (fun q => (q.1, some q.2, none)) → opsAre l s
  | [], [], _ => trivial
  | [], _ :: _, h => by simp at h
  | _ :: _, [], h => by simp at h
  | o :: r, (p, d) :: s, h => by
    simp only [List.map_cons, List.cons.injEq, Prod.mk.injEq] at h
    exact ⟨h.1, opsAre_of h.2⟩
end Go.Proofs.YtgakioiplkehgaaA.Am
