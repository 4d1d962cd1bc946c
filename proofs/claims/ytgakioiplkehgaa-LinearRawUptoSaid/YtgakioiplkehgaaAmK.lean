/-
What the abstract machine comes to, with what goes on behind handed on: so that a function's code, slots and regions gone, is a plain term.
-/
import Derived.Test.YtgakioiplkehgaaAmSound
namespace Go.Proofs.YtgakioiplkehgaaA.Am

variable {α : Type}

/-- On with what an operation tells. -/
def bnd (x : Option (Value × Heap)) (k : Value → Heap → Option α) : Option α :=
  match x with
  | some (v, H) => k v H
  | none => none
@[simp] theorem bnd_some (v : Value) (H : Heap) (k : Value → Heap → Option α) : bnd (some (v, H)) k = k v H := rfl
@[simp] theorem bnd_none (k : Value → Heap → Option α) : bnd none k = none := rfl

/-- What turns nothing. -/
def pS (x : Option Value) (H : Heap) : Option (Value × Heap) := x.map (·, H)
@[simp] theorem pS_some (v : Value) (H : Heap) : pS (some v) H = some (v, H) := rfl
@[simp] theorem pS_none (H : Heap) : pS none H = none := rfl

/-- What is guarded. -/
def gd (w : Option Bool) (x : Option (Value × Heap)) (H : Heap) : Option (Value × Heap) :=
  match w with
  | some true => x
  | some false => some (undef, H)
  | none => none
@[simp] theorem gd_true (x : Option (Value × Heap)) (H : Heap) : gd (some true) x H = x := rfl
@[simp] theorem gd_false (x : Option (Value × Heap)) (H : Heap) : gd (some false) x H = some (undef, H) := rfl

def wantV (v : Value) (want : Bool) : Option Bool :=
  match v with
  | .bool b => some (b == want)
  | .tuple vs => if vs.isEmpty then some false else none
  | _ => none
@[simp] theorem wantV_bool (b want : Bool) : wantV (.bool b) want = some (b == want) := rfl
@[simp] theorem wantV_undef (want : Bool) : wantV undef want = some false := rfl

def brB (v : Value) (x y : Option α) : Option α :=
  match v with
  | .bool true => x
  | .bool false => y
  | _ => none
@[simp] theorem brB_true (x y : Option α) : brB (.bool true) x y = x := rfl
@[simp] theorem brB_false (x y : Option α) : brB (.bool false) x y = y := rfl

def pickV (c a b : Value) : Option Value :=
  match c with
  | .bool t => some (if t then a else b)
  | _ => none

def kOps (P : Program) (C : Oracle) (ops : Array Oper) : List Oper → Env → Heap → (Env → Heap → Option α) → Option α
  | [], E, H, k => k E H
  | o :: r, E, H, k => bnd (match o.guard with
      | none => aexec P C E H o
      | some _ => gd (awant ops o E) (aexec P C E H o) H) fun v H' => kOps P C ops r (E.put o.dst v) H' k

theorem kOps_eq (P : Program) (C : Oracle) (ops : Array Oper) (l : List Oper) (E : Env) (H : Heap) (k : Env → Heap → Option α) :
    kOps P C ops l E H k = match runOps P C ops l E H with | some (E', H') => k E' H' | none => none := by
  induction l generalizing E H with
  | nil => rfl
  | cons o r ih =>
    rw [kOps, runOps]
    cases hg : o.guard with
    | none =>
      have : awant ops o E = some true := by simp only [awant, hg]
      rw [this]
      cases aexec P C E H o with
      | none => rfl
      | some p => obtain ⟨v, H'⟩ := p; simp only [bnd_some]; exact ih _ _
    | some g =>
      simp only
      cases awant ops o E with
      | none => rfl
      | some b =>
        cases b with
        | true =>
          simp only [gd_true]
          cases aexec P C E H o with
          | none => rfl
          | some p => obtain ⟨v, H'⟩ := p; simp only [bnd_some]; exact ih _ _
        | false => simp only [gd_false, bnd_some]; exact ih _ _

/-- The same, the states ahead of each operation told too. -/
def kOpsT (P : Program) (C : Oracle) (ops : Array Oper) : List Oper → Env → Heap → List (Env × Heap) → (Env → Heap → List (Env × Heap) → Option α) → Option α
  | [], E, H, T, k => k E H (T ++ [(E, H)])
  | o :: r, E, H, T, k => bnd (match o.guard with
      | none => aexec P C E H o
      | some _ => gd (awant ops o E) (aexec P C E H o) H) fun v H' => kOpsT P C ops r (E.put o.dst v) H' (T ++ [(E, H)]) k
theorem kOpsT_eq (P : Program) (C : Oracle) (ops : Array Oper) (l : List Oper) (E : Env) (H : Heap) (T : List (Env × Heap)) (k : Env → Heap → List (Env × Heap) → Option α) :
    kOpsT P C ops l E H T k = match runOps P C ops l E H with | some (E', H') => k E' H' (T ++ trace P C ops l E H) | none => none := by
  induction l generalizing E H T with
  | nil => rfl
  | cons o r ih =>
    rw [kOpsT, runOps, trace]
    cases hg : o.guard with
    | none =>
      have : awant ops o E = some true := by simp only [awant, hg]
      rw [this]
      cases aexec P C E H o with
      | none => rfl
      | some p => obtain ⟨v, H'⟩ := p; simp only [bnd_some, ih, List.append_assoc, List.singleton_append]
    | some g =>
      simp only
      cases awant ops o E with
      | none => rfl
      | some b =>
        cases b with
        | true =>
          simp only [gd_true]
          cases aexec P C E H o with
          | none => rfl
          | some p => obtain ⟨v, H'⟩ := p; simp only [bnd_some, ih, List.append_assoc, List.singleton_append]
        | false => simp only [gd_false, bnd_some, ih, List.append_assoc, List.singleton_append]

def kOpsI (P : Program) (C : Oracle) (F : List Nat) (base : Nat) (ops : Array Oper) : List Oper → Nat → Env → Heap → (Env → Heap → Option α) → Option α
  | [], _, E, H, k => k E H
  | o :: r, j, E, H, k => bnd (match o.guard with
      | none => aexecI P C F base j E H o
      | some _ => gd (awant ops o E) (aexecI P C F base j E H o) H) fun v H' => kOpsI P C F base ops r (j + 1) (E.put o.dst v) H' k
def kOpsIT (P : Program) (C : Oracle) (F : List Nat) (base : Nat) (ops : Array Oper) : List Oper → Nat → Env → Heap → List (Env × Heap) → (Env → Heap → List (Env × Heap) → Option α) → Option α
  | [], _, E, H, T, k => k E H (T ++ [(E, H)])
  | o :: r, j, E, H, T, k => bnd (match o.guard with
      | none => aexecI P C F base j E H o
      | some _ => gd (awant ops o E) (aexecI P C F base j E H o) H) fun v H' => kOpsIT P C F base ops r (j + 1) (E.put o.dst v) H' (T ++ [(E, H)]) k
theorem kOpsI_eq (P : Program) (C : Oracle) (F : List Nat) (base : Nat) (ops : Array Oper) (l : List Oper) (j : Nat) (E : Env) (H : Heap) (k : Env → Heap → Option α) :
    kOpsI P C F base ops l j E H k = match runOpsI P C F base ops l j E H with | some (E', H') => k E' H' | none => none := by
  induction l generalizing j E H with
  | nil => rfl
  | cons o r ih =>
    rw [kOpsI, runOpsI]
    cases hg : o.guard with
    | none =>
      have : awant ops o E = some true := by simp only [awant, hg]
      rw [this]
      cases aexecI P C F base j E H o with
      | none => rfl
      | some p => obtain ⟨v, H'⟩ := p; simp only [bnd_some]; exact ih _ _ _
    | some g =>
      simp only
      cases awant ops o E with
      | none => rfl
      | some b =>
        cases b with
        | true =>
          simp only [gd_true]
          cases aexecI P C F base j E H o with
          | none => rfl
          | some p => obtain ⟨v, H'⟩ := p; simp only [bnd_some]; exact ih _ _ _
        | false => simp only [gd_false, bnd_some]; exact ih _ _ _
theorem kOpsIT_eq (P : Program) (C : Oracle) (F : List Nat) (base : Nat) (ops : Array Oper) (l : List Oper) (j : Nat) (E : Env) (H : Heap) (T : List (Env × Heap)) (k : Env → Heap → List (Env × Heap) → Option α) :
    kOpsIT P C F base ops l j E H T k = match runOpsI P C F base ops l j E H with | some (E', H') => k E' H' (T ++ traceI P C F base ops l j E H) | none => none := by
  induction l generalizing j E H T with
  | nil => rfl
  | cons o r ih =>
    rw [kOpsIT, runOpsI, traceI]
    cases hg : o.guard with
    | none =>
      have : awant ops o E = some true := by simp only [awant, hg]
      rw [this]
      cases aexecI P C F base j E H o with
      | none => rfl
      | some p => obtain ⟨v, H'⟩ := p; simp only [bnd_some, ih, List.append_assoc, List.singleton_append]
    | some g =>
      simp only
      cases awant ops o E with
      | none => rfl
      | some b =>
        cases b with
        | true =>
          simp only [gd_true]
          cases aexecI P C F base j E H o with
          | none => rfl
          | some p => obtain ⟨v, H'⟩ := p; simp only [bnd_some, ih, List.append_assoc, List.singleton_append]
        | false => simp only [gd_false, bnd_some, ih, List.append_assoc, List.singleton_append]
/-- Numbers are kept free. -/
def holesK (n : Nat) (H : Heap) (k : Nat → Heap → Option α) : Option α := k H.length (H.holes n)
def kRegion (P : Program) (C : Oracle) (ops : Array Oper) (draw : Bool) (E : Env) (H : Heap) (k : Env → Heap → Option α) : Option α :=
  if draw then
    match fills P ops with
    | [] => match confs P ops with
      | [] => kOps P C ops ops.toList E H k
      | cs => kOpsT P C ops ops.toList E H [] fun E' H' T => if cs.all (confOk P ops T) then k E' H' else none
    | F => holesK F.length H fun base H => match confs P ops with
      | [] => kOpsI P C F base ops ops.toList 0 E H k
      | cs => kOpsIT P C F base ops ops.toList 0 E H [] fun E' H' T => if cs.all (confOk P ops T) then k E' H' else none
  else kOps P C ops ops.toList E H k
theorem kRegion_eq (P : Program) (C : Oracle) (ops : Array Oper) (draw : Bool) (E : Env) (H : Heap) (k : Env → Heap → Option α) :
    kRegion P C ops draw E H k = match runRegion P C ops draw E H with | some (E', H') => k E' H' | none => none := by
  unfold kRegion runRegion
  cases draw with
  | false => simp only [Bool.false_eq_true, if_false]; exact kOps_eq ..
  | true =>
    simp only [if_true]
    cases fills P ops with
    | nil =>
      simp only
      cases confs P ops with
      | nil => exact kOps_eq ..
      | cons c cs =>
        simp only [kOpsT_eq, List.nil_append]
        cases runOps P C ops ops.toList E H with
        | none => by_cases hb : (c :: cs).all (confOk P ops (trace P C ops ops.toList E H)) = true <;> simp only [hb, if_true, if_false, Bool.false_eq_true]
        | some q =>
          obtain ⟨E', H'⟩ := q
          by_cases hb : (c :: cs).all (confOk P ops (trace P C ops ops.toList E H)) = true <;> simp only [hb, if_true, if_false, Bool.false_eq_true]
    | cons f F =>
      simp only [holesK]
      cases confs P ops with
      | nil => exact kOpsI_eq ..
      | cons c cs =>
        simp only [kOpsIT_eq, List.nil_append]
        cases runOpsI P C (f :: F) H.length ops ops.toList 0 E (H.holes (f :: F).length) with
        | none => by_cases hb : (c :: cs).all (confOk P ops (traceI P C (f :: F) H.length ops ops.toList 0 E (H.holes (f :: F).length))) = true <;> simp only [hb, if_true, if_false, Bool.false_eq_true]
        | some q =>
          obtain ⟨E', H'⟩ := q
          by_cases hb : (c :: cs).all (confOk P ops (traceI P C (f :: F) H.length ops ops.toList 0 E (H.holes (f :: F).length))) = true <;> simp only [hb, if_true, if_false, Bool.false_eq_true]
/-- A read beside what writes: it told the same ahead of it and behind. -/
def cfS (wx wy : Option Bool) (u u1 u2 : Option (Value × Heap)) : Bool :=
  match wx, wy with
  | some true, some true => match u, u1, u2 with
    | some (u, _), some (u1, _), some (u2, _) => eqV u u1 && eqV u u2
    | _, _, _ => false
  | some _, some _ => true
  | _, _ => false
@[simp] theorem cfS_true (u u1 u2 : Value) (H H1 H2 : Heap) : cfS (some true) (some true) (some (u, H)) (some (u1, H1)) (some (u2, H2)) = (eqV u u1 && eqV u u2) := rfl
@[simp] theorem cfS_fx (w : Bool) (u u1 u2 : Option (Value × Heap)) : cfS (some false) (some w) u u1 u2 = true := by cases w <;> rfl
@[simp] theorem cfS_fy (w : Bool) (u u1 u2 : Option (Value × Heap)) : cfS (some w) (some false) u u1 u2 = true := by cases w <;> rfl
@[simp] theorem eqV_int (k : IntKind) (a : Int) : eqV (.int k a) (.int k a) = true := by simp [eqV, eqV1]
@[simp] theorem eqV_bool (a : Bool) : eqV (.bool a) (.bool a) = true := by simp [eqV, eqV1]
@[simp] theorem eqV_pointer (a : Option Addr) : eqV (.pointer a) (.pointer a) = true := by simp [eqV, eqV1]
@[simp] theorem eqV_slice (a : Option Addr) (n c : Nat) : eqV (.slice a n c) (.slice a n c) = true := by simp [eqV, eqV1]

def fin : AExit → List Value → Heap → AOut := fun e vs H => some (e, vs, H)

def onOut (x : AOut) (k : AExit → List Value → Heap → Option α) : Option α :=
  match x with
  | some (e, vs, H) => k e vs H
  | none => none
@[simp] theorem onOut_some (e : AExit) (vs : List Value) (H : Heap) (k : AExit → List Value → Heap → Option α) : onOut (some (e, vs, H)) k = k e vs H := rfl

/-- Nothing; but what is built of it the kernel unfolds ahead of bnd. -/
def up {β : Type} (x : β) : β := (fun (_ : Option Nat) => x) (bnd (α := Nat) none fun _ _ => none)
/-- What goes on behind. -/
def kSeq (kb : List Value → Heap → Option α) (k : AExit → List Value → Heap → Option α) : AExit → List Value → Heap → Option α :=
  fun e vs H => up (match e with
    | .normal => kb vs H
    | e => k e vs H)
def kBlk (id : Nat) (k : AExit → List Value → Heap → Option α) : AExit → List Value → Heap → Option α :=
  fun e vs H => up (match e with
    | .exit i => if i = id then k .normal vs H else k (.exit i) vs H
    | e => k e vs H)
@[simp] theorem kSeq_normal (kb : List Value → Heap → Option α) (k : AExit → List Value → Heap → Option α) (vs : List Value) (H : Heap) : kSeq kb k .normal vs H = kb vs H := rfl
@[simp] theorem kSeq_exit (kb : List Value → Heap → Option α) (k : AExit → List Value → Heap → Option α) (i : Nat) (vs : List Value) (H : Heap) : kSeq kb k (.exit i) vs H = k (.exit i) vs H := rfl
@[simp] theorem kSeq_ret (kb : List Value → Heap → Option α) (k : AExit → List Value → Heap → Option α) (vs : List Value) (H : Heap) : kSeq kb k .ret vs H = k .ret vs H := rfl
@[simp] theorem kBlk_normal (id : Nat) (k : AExit → List Value → Heap → Option α) (vs : List Value) (H : Heap) : kBlk id k .normal vs H = k .normal vs H := rfl
@[simp] theorem kBlk_ret (id : Nat) (k : AExit → List Value → Heap → Option α) (vs : List Value) (H : Heap) : kBlk id k .ret vs H = k .ret vs H := rfl
@[simp] theorem kBlk_exit (id i : Nat) (k : AExit → List Value → Heap → Option α) (vs : List Value) (H : Heap) : kBlk id k (.exit i) vs H = if i = id then k .normal vs H else k (.exit i) vs H := rfl

/-- A loop over a function: how it stands behind the function. -/
def rngC (N : Nat) (C : Oracle) (g : Value) (L : ALoop) (H : Heap) : Option (LState × Heap) :=
  match g with
  | .func (.func gf) first captured =>
    if gf < N then
      match C gf (first.toList ++ [.func (.yield H.length) #[] #[]] ++ captured.toList) (H.newO (.loop L .ready)) with
      | some (_, H') => match H'.oth H.length with
        | some (.loop _ s) => some (s, H'.kill H.length)
        | _ => none
      | none => none
    else none
  | _ => none
def onRng (x : Option (LState × Heap)) (k : AExit → Heap → Option α) : Option α :=
  match x with
  | some (.ready, H) => k .normal H
  | some (.ret, H) => k .ret H
  | some (.exit id, H) => k (.exit id) H
  | _ => none
@[simp] theorem onRng_ready (H : Heap) (k : AExit → Heap → Option α) : onRng (some (.ready, H)) k = k .normal H := rfl
@[simp] theorem onRng_ret (H : Heap) (k : AExit → Heap → Option α) : onRng (some (.ret, H)) k = k .ret H := rfl
@[simp] theorem onRng_exit (id : Nat) (H : Heap) (k : AExit → Heap → Option α) : onRng (some (.exit id, H)) k = k (.exit id) H := rfl
theorem rngC_eq {N gf : Nat} {C : Oracle} {first captured : Array Value} {L L' : ALoop} {H H' : Heap} {v : Value} {s : LState} (h1 : gf < N)
    (h2 : C gf (first.toList ++ [.func (.yield H.length) #[] #[]] ++ captured.toList) (H.newO (.loop L .ready)) = some (v, H')) (h3 : H'.oth H.length = some (.loop L' s)) :
    rngC N C (.func (.func gf) first captured) L H = some (s, H'.kill H.length) := by
  simp only [rngC, h1, if_true, h2, h3]

def evk (P : Program) (C : Oracle) (keep : List Nat) (n : Nat) : {α : Type} → Code → List Value → Heap → (AExit → List Value → Heap → Option α) → Option α
  | _, .skip, vs, H, k => k .normal vs H
  | _, .label _, vs, H, k => k .normal vs H
  | _, .region _ ops draw, vs, H, k => kRegion P C ops draw (keep.zip vs) H fun E H' => k .normal (keep.map E.get) H'
  | _, .seq a b, vs, H, k => evk P C keep n a vs H (kSeq (fun vs' H' => evk P C keep n b vs' H' k) k)
  | _, .cond c a b, vs, H, k => brB (aeval (keep.zip vs) c) (evk P C keep n a vs H k) (evk P C keep n b vs H k)
  | _, .block id c, vs, H, k => evk P C keep n c vs H (kBlk id k)
  | _, .loop c, vs, H, k => onOut (iter n (fun vs H => evk P C keep n c vs H fin) vs H) k
  | _, .exit id, vs, H, k => k (.exit id) vs H
  | _, .scope c, vs, H, k => evk P C keep n c vs H k
  | _, .ret, vs, H, k => k .ret vs H
  | _, .goto _, _, _, _ => none
  | _, .rangeFunc g ps x y, vs, H, k => onRng (rngC P.funcs.size C (aeval (keep.zip vs) g) ⟨keep, vs, ps, x, y⟩ H) fun e H' => k e vs H'
  | _, .refuse _, _, _, _ => none

theorem iter_congr {n : Nat} {f g : List Value → Heap → AOut} (h : ∀ vs H, f vs H = g vs H) : iter n f = iter n g := by
  have : f = g := funext fun vs => funext fun H => h vs H
  rw [this]

theorem evk_eq (P : Program) (C : Oracle) (keep : List Nat) (n : Nat) (c : Code) : ∀ {α : Type} (vs : List Value) (H : Heap) (k : AExit → List Value → Heap → Option α),
    evk P C keep n c vs H k = onOut (ev P C keep n c vs H) k := by
  induction c with
  | skip => intros; simp only [evk, ev, onOut_some]
  | label _ => intros; simp only [evk, ev, onOut_some]
  | region p ops draw =>
    intro α vs H k
    simp only [evk, ev, kRegion_eq]
    cases runRegion P C ops draw (keep.zip vs) H with
    | none => rfl
    | some p => rfl
  | seq a b iha ihb =>
    intro α vs H k
    simp only [evk, ev]
    rw [iha]
    cases ev P C keep n a vs H with
    | none => rfl
    | some p =>
      obtain ⟨e, vs', H'⟩ := p
      cases e with
      | normal => simp only [onOut_some, kSeq_normal]; exact ihb _ _ _
      | _ => rfl
  | cond c a b iha ihb =>
    intro α vs H k
    simp only [evk, ev, iha, ihb]
    generalize aeval (keep.zip vs) c = v
    cases v with
    | bool t => cases t <;> rfl
    | _ => rfl
  | block id c ih =>
    intro α vs H k
    simp only [evk, ev]
    rw [ih]
    cases ev P C keep n c vs H with
    | none => rfl
    | some p =>
      obtain ⟨e, vs', H'⟩ := p
      cases e with
      | exit i =>
        simp only [onOut_some, kBlk_exit]
        split <;> rfl
      | _ => rfl
  | loop c ih =>
    intro α vs H k
    simp only [evk, ev]
    rw [iter_congr (g := ev P C keep n c)]
    intro vs H
    rw [ih]
    cases ev P C keep n c vs H with
    | none => rfl
    | some p => rfl
  | exit _ => intros; simp only [evk, ev, onOut_some]
  | scope c ih => intro α vs H k; simp only [evk, ev, ih]
  | ret => intros; simp only [evk, ev, onOut_some]
  | goto _ => intros; rfl
  | rangeFunc g ps x y _ _ =>
    intro α vs H k
    simp only [evk, ev, rngC]
    generalize aeval (keep.zip vs) g = v
    cases v with
    | func fn first captured =>
      cases fn with
      | func gf =>
        by_cases hlt : gf < P.funcs.size
        · simp only [hlt, if_true]
          cases C gf (first.toList ++ [.func (.yield H.length) #[] #[]] ++ captured.toList) (H.newO (.loop ⟨keep, vs, ps, x, y⟩ .ready)) with
          | none => rfl
          | some q =>
            obtain ⟨u, H'⟩ := q
            simp only
            cases H'.oth H.length with
            | none => rfl
            | some o =>
              cases o with
              | tab _ _ => rfl
              | loop L s => cases s <;> rfl
        · simp only [hlt, if_false]; rfl
      | _ => rfl
    | _ => rfl
  | refuse _ => intros; rfl

/-- What a function tells, of what its slots hold. -/
def resL (P : Program) (E : Env) (H : Heap) : List ResultVar → (List Value → Option (Value × Heap)) → Option (Value × Heap)
  | [], k => k []
  | .tmp t :: r, k => resL P E H r fun vs => k (E.get t :: vs)
  | .cell a t :: r, k => bnd (pS (ldVar P t (E.get a) H) H) fun v _ => resL P E H r fun vs => k (v :: vs)
def tupK (H : Heap) : List Value → Option (Value × Heap)
  | [v] => some (v, H)
  | vs => some (.tuple vs.toArray, H)
def resK (P : Program) (rs : List ResultVar) (E : Env) (H : Heap) : Option (Value × Heap) := resL P E H rs (tupK H)
theorem resL_eq (P : Program) (E : Env) (H : Heap) : ∀ (rs : List ResultVar) (k : List Value → Option (Value × Heap)), resL P E H rs k = (rs.mapM fun (r : ResultVar) => match r with
    | .tmp t => some (E.get t)
    | .cell a t => ldVar P t (E.get a) H).bind k
  | [], k => rfl
  | .tmp t :: r, k => by
    rw [resL, resL_eq P E H r, List.mapM_cons]
    simp only [Option.bind_eq_bind, Option.bind_some, Option.bind_assoc, Option.pure_def]
  | .cell a t :: r, k => by
    rw [resL, List.mapM_cons]
    simp only [Option.bind_eq_bind, Option.bind_assoc, Option.pure_def, Option.bind_some]
    cases ldVar P t (E.get a) H with
    | none => rfl
    | some v => simp only [pS_some, bnd_some, Option.bind_some]; exact resL_eq P E H r _
theorem resK_eq (P : Program) (fn : Func) (E : Env) (H : Heap) : resK P fn.results.toList E H = (ares P fn E H).map (·, H) := by
  unfold resK ares
  rw [resL_eq]
  generalize (fn.results.toList.mapM fun (r : ResultVar) => match r with
    | .tmp t => some (E.get t)
    | .cell a t => ldVar P t (E.get a) H) = x
  cases x with
  | none => rfl
  | some vs =>
    match vs with
    | [] => rfl
    | [v] => rfl
    | _ :: _ :: _ => rfl

def kRet (P : Program) (rs : List ResultVar) (keep : List Nat) : AExit → List Value → Heap → Option (Value × Heap) :=
  fun e vs H => match e with
    | .normal | .ret => resK P rs (keep.zip vs) H
    | .exit _ => none
@[simp] theorem kRet_normal (P : Program) (rs : List ResultVar) (keep : List Nat) (vs : List Value) (H : Heap) : kRet P rs keep .normal vs H = resK P rs (keep.zip vs) H := rfl
@[simp] theorem kRet_ret (P : Program) (rs : List ResultVar) (keep : List Nat) (vs : List Value) (H : Heap) : kRet P rs keep .ret vs H = resK P rs (keep.zip vs) H := rfl

def kFunc (P : Program) (C : Oracle) (n : Nat) (fn : Func) (keep : List Nat) (args : List Value) (H : Heap) : Option (Value × Heap) :=
  match fn.body with
  | some c => evk P C keep n c (keep.map fun t => args.getD t undef) H (kRet P fn.results.toList keep)
  | none => none

theorem acall_k {P : Program} {bad : List FuncId} {G : Oracle} {n : Nat} {f : FuncId} {fn : Func} (hb : bad.contains f = false) (hf : P.funcs[f]? = some fn) {keep : List Nat} (hk : keepOf fn = keep) (args : List Value) (H : Heap) :
    acall P bad G (n + 1) f args H = kFunc P (acall P bad G n) n fn keep args H := by
  subst hk
  unfold kFunc
  conv => lhs; unfold acall
  rw [hb, hf]
  simp only [Bool.false_eq_true, if_false]
  cases fn.body with
  | none => rfl
  | some c =>
    simp only
    rw [evk_eq]
    generalize ev P (acall P bad G n) (keepOf fn) n c ((keepOf fn).map fun t => args.getD t undef) H = x
    cases x with
    | none => rfl
    | some p =>
      obtain ⟨e, vs, H'⟩ := p
      cases e <;> simp only [onOut_some, resK_eq, kRet]


/-! a round -/
def begR (i : Nat) (H : Heap) (k : Heap → Option α) : Option α :=
  match H.oth i with
  | some (.loop L .ready) => k (H.putO i (.loop L .busy))
  | _ => none
theorem begR_eq {i : Nat} {H : Heap} {L : ALoop} (h : H.oth i = some (.loop L .ready)) (k : Heap → Option α) : begR i H k = k (H.putO i (.loop L .busy)) := by
  unfold begR; rw [h]
theorem endR_eq {i : Nat} {e : AExit} {H : Heap} {L : ALoop} (h : H.oth i = some (.loop L .busy)) : endR i e H = some (.bool e.on, H.putO i (.loop L (.of e))) := by
  unfold endR; rw [h]
def aroundK (P : Program) (C : Oracle) (n i : Nat) (L : ALoop) (args : List Value) (H : Heap) : Option (Value × Heap) :=
  evk P C L.keep n L.assign (L.keep.map (putPs (L.keep.zip L.vs) (L.ps.toList.zip args)).get) H fun e vs H1 => match e with
    | .normal => begR i H1 fun H2 => evk P C L.keep n L.body vs H2 fun e _ H3 => endR i e H3
    | _ => none
theorem acall_r {P : Program} {bad : List FuncId} {G : Oracle} {n i : Nat} {L : ALoop} {args : List Value} {H : Heap} (hb : (bad.all fun f => decide (f < P.funcs.size)) = true)
    (h : H.oth i = some (.loop L .ready)) (hl : args.length = L.ps.size) : acall P bad G (n + 1) (P.funcs.size + i) args H = aroundK P (acall P bad G n) n i L args H := by
  have hb' : bad.contains (P.funcs.size + i) = false := by
    cases hc : bad.contains (P.funcs.size + i) with
    | false => rfl
    | true =>
      have := List.all_eq_true.1 hb (P.funcs.size + i) (by simpa using hc)
      exact absurd (of_decide_eq_true this) (Nat.not_lt.2 (Nat.le_add_right _ _))
  have hf : P.funcs[P.funcs.size + i]? = none := by simp
  conv => lhs; unfold acall
  rw [hb', hf]
  simp only [Bool.false_eq_true, if_false, show P.funcs.size + i - P.funcs.size = i by omega]
  unfold around aroundK
  rw [h]
  simp only [hl, if_true, evk_eq]
  cases ev P (acall P bad G n) L.keep n L.assign (L.keep.map (putPs (L.keep.zip L.vs) (L.ps.toList.zip args)).get) H with
  | none => rfl
  | some q =>
    obtain ⟨e, vs, H1⟩ := q
    cases e with
    | ret => rfl
    | exit id => rfl
    | normal =>
      simp only [onOut_some, begR]
      generalize H1.oth i = o
      cases o with
      | none => rfl
      | some o =>
        cases o with
        | tab _ _ => rfl
        | loop L1 s =>
          cases s with
          | ready =>
            simp only
            cases ev P (acall P bad G n) L.keep n L.body vs (H1.putO i (.loop L1 .busy)) with
            | none => rfl
            | some q2 => rfl
          | _ => rfl

def rfsOf : Code → List (Array Tmp × Code × Code)
  | .rangeFunc _ ps a b => (ps, a, b) :: rfsOf a ++ rfsOf b
  | .seq a b | .cond _ a b => rfsOf a ++ rfsOf b
  | .block _ c | .loop c | .scope c => rfsOf c
  | _ => []
/-- A function's k-th loop over a function. -/
def lpAt (P : Program) (f k : Nat) : Array Tmp × Code × Code :=
  match P.funcs[f]? with
  | some fn => match fn.body with
    | some c => (rfsOf c).getD k (#[], .skip, .skip)
    | none => (#[], .skip, .skip)
  | none => (#[], .skip, .skip)

/-! pieces of a function's code -/
def bodyAt (P : Program) (f : Nat) : Code := match P.funcs[f]? with
  | some fn => match fn.body with
    | some c => c
    | none => .skip
  | none => .skip
def subC : List Nat → Code → Code
  | 0 :: p, .seq a _ | 0 :: p, .cond _ a _ => subC p a
  | _ :: p, .seq _ b | _ :: p, .cond _ _ b => subC p b
  | _ :: p, .block _ c | _ :: p, .loop c | _ :: p, .scope c => subC p c
  | _, c => c
/-- The first d + 1 of a sequence. -/
def cutL : Nat → Code → Code
  | d + 1, .seq a b => .seq a (cutL d b)
  | 0, .seq a _ => a
  | _, c => c
theorem ev_of_evk (P : Program) (C : Oracle) (keep : List Nat) (n : Nat) (c : Code) (vs : List Value) (H : Heap) : ev P C keep n c vs H = evk P C keep n c vs H fin := by
  rw [evk_eq]
  cases ev P C keep n c vs H with
  | none => rfl
  | some p => rfl

def regsOf : Code → List (Array Oper)
  | .region _ ops _ => [ops]
  | .seq a b | .cond _ a b | .rangeFunc _ _ a b => regsOf a ++ regsOf b
  | .block _ c | .loop c | .scope c => regsOf c
  | _ => []
/-- A function's k-th region. -/
def regAt (P : Program) (f k : Nat) : Array Oper :=
  match P.funcs[f]? with
  | some fn => match fn.body with
    | some c => (regsOf c).getD k #[]
    | none => #[]
  | none => #[]

/- The operations, their types looked up. -/
def pickS (c a b : Value) (H : Heap) : Option (Value × Heap) :=
  match c with
  | .bool t => some (if t then a else b, H)
  | _ => none
def ld1 (p : Value) (H : Heap) : Option Value :=
  match p with
  | .pointer (some ⟨i, off, none⟩) => match H.get i with
    | some b => b.cells[off]?
    | none => none
  | _ => none
def ldn (n : Nat) (p : Value) (H : Heap) : Option Value :=
  match p with
  | .pointer (some ⟨i, off, none⟩) => match ldCells H i off n with
    | some vs => some (.agg vs.toArray)
    | none => none
  | _ => none
def stS (n : Nat) (p v : Value) (H : Heap) : Option (Value × Heap) :=
  (match p with
  | .pointer (some ⟨i, off, none⟩) => if v.cells.size = n ∧ known v = true then stCells H i off v.cells.toList else none
  | _ => none : Option Heap).map (undef, ·)
def nckS (x : Value) (H : Heap) : Option (Value × Heap) :=
  match x with
  | .pointer (some a) => some (.pointer (some a), H)
  | .func (.func g) f c => some (.func (.func g) f c, H)
  | _ => none
def fadS (off : Nat) (x : Value) (H : Heap) : Option (Value × Heap) :=
  match x with
  | .pointer (some ⟨i, o, none⟩) => some (.pointer (some ⟨i, o + off, none⟩), H)
  | _ => none
def fld1 (off : Nat) (x : Value) (H : Heap) : Option (Value × Heap) :=
  match x with
  | .agg cs => (cs[off]?).map (·, H)
  | _ => none
def fldn (n off : Nat) (x : Value) (H : Heap) : Option (Value × Heap) :=
  match x with
  | .agg cs => (some (Value.agg (cs.extract off (off + n)))).map (·, H)
  | _ => none
def iadS (es : Nat) (x i : Value) (H : Heap) : Option (Value × Heap) :=
  match x, i with
  | .slice (some ⟨b, off, none⟩) len _, .int _ n => if 0 ≤ n ∧ n < len then some (.pointer (some ⟨b, off + n.toNat * es, none⟩), H) else none
  | _, _ => none
def iaaS (len es : Nat) (x i : Value) (H : Heap) : Option (Value × Heap) :=
  match x, i with
  | .pointer (some ⟨b, off, none⟩), .int _ n => if 0 ≤ n ∧ n < len then some (.pointer (some ⟨b, off + n.toNat * es, none⟩), H) else none
  | _, _ => none
def slen (x : Value) : Option Value :=
  match x with
  | .slice _ n _ => some (.int .i64 n)
  | _ => none
def scut (es : Nat) (H : Heap) (x : Value) (lo hi : Option Value) : Option Value :=
  match x with
  | .slice a len cap =>
      match boundOf len hi, boundOf 0 lo with
      | some h, some l => if 0 ≤ h ∧ h ≤ cap ∧ 0 ≤ l ∧ l ≤ h then
          match a with
          | none => some (.slice none 0 0)
          | some ⟨i, off, none⟩ => match H.get i with
            | some b => if b.es = es then some (.slice (some ⟨i, off + l.toNat * es, none⟩) (h.toNat - l.toNat) (cap - l.toNat)) else if cap = 0 then some (.slice (some ⟨i, off, none⟩) 0 0) else none
            | none => if cap = 0 then some (.slice (some ⟨i, off, none⟩) 0 0) else none
          | _ => none
        else none
      | _, _ => none
  | _ => none
def scut3 (es : Nat) (H : Heap) (x : Value) (lo hi : Option Value) (mx : Value) : Option Value :=
  match x, hi, mx with
  | .slice a _ cap, some _, .int _ m => if 0 ≤ m ∧ m ≤ cap then scut es H (.slice a 0 m.toNat) lo hi else none
  | _, _, _ => none
/-- A laying at a number kept free. -/
def layV (i : Nat) (x : Option ((Nat → Value) × Blk)) (H : Heap) : Option (Value × Heap) :=
  match H[i]? with
  | some .hole => match x with
    | some (mk, b) => some (mk i, H.set i (.blk b))
    | none => none
  | _ => none
theorem layV_eq {i : Nat} {mk : Nat → Value} {b : Blk} {H : Heap} (h : H[i]? = some .hole) : layV i (some (mk, b)) H = some (mk i, H.set i (.blk b)) := by
  unfold layV; rw [h]
def bsB (P : Program) (t : TypeId) (n : Nat) (ps : List (Nat × Value)) : Option ((Nat → Value) × Blk) :=
  match abuildSlice P t n ps [] with
  | some (_, [.blk b]) => some (fun i => .slice (some ⟨i, 0, none⟩) n n, b)
  | _ => none
def clrS (z : List Value) (x : Value) (H : Heap) : Option (Value × Heap) :=
  match x with
  | .slice base n _ =>
    match base with
    | none => some (undef, H)
    | some ⟨i, off, none⟩ => if n = 0 then some (undef, H) else (stCells H i off (zeros z n)).map fun H' => (undef, H')
    | _ => none
  | _ => none
def extS (i : Nat) (x : Value) (H : Heap) : Option (Value × Heap) :=
  match x with
  | .tuple vs => (vs[i]?).map (·, H)
  | _ => none
def convS (k : IntKind) (x : Value) (H : Heap) : Option (Value × Heap) :=
  match x with
  | .int _ n => some (.int k (k.wrap n), H)
  | _ => none
def boxS (t : TypeId) (x : Value) (H : Heap) : Option (Value × Heap) :=
  if x.cells.toList.all oneCell then some (newBlk H t 1 x.cells.toList) else none
def appS (elem : TypeId) (size bytes : Nat) (s x : Value) (H : Heap) : Option (Value × Heap) :=
  match s with
  | .slice base sLen sCap =>
        match (match x with
          | .slice _ n _ => (srcCells H size n x).map fun cs => (n, cs)
          | _ => none : Option (Nat × List Value)) with
        | some (n, new) =>
          let need := sLen + n
          if need ≤ sCap then
            match base with
            | none => some (.slice none need sCap, H)
            | some ⟨i, off, none⟩ => if n = 0 then some (.slice base need sCap, H) else
              match H.get i with
              | some b => if b.es = size then (stCells H i (off + sLen * size) new).map fun H' => (.slice base need sCap, H') else none
              | none => none
            | _ => none
          else if need ≤ 4294967296 && bytes ≤ 4096 && size ≠ 0 then
            match base with
            | none => if sLen = 0 then some (.slice (some ⟨H.length, 0, none⟩) need need, H.new ⟨new, elem, size, false⟩) else none
            | some ⟨i, off, none⟩ =>
              match H.get i with
              | some b =>
                if !b.ro && b.es == size && off + sCap * size == b.cells.length then
                  match ldCells H i off (sLen * size) with
                  | some old => some (.slice (some ⟨H.length, 0, none⟩) need need, (H.kill i).new ⟨old ++ new, elem, size, false⟩)
                  | none => none
                else none
              | none => none
            | _ => none
          else none
        | none => none
  | _ => none
def mkS (elem : TypeId) (size bytes : Nat) (z : List Value) (len cap : Value) (H : Heap) : Option (Value × Heap) :=
  match len, cap with
  | .int _ l, .int _ c =>
      if 0 ≤ l ∧ l ≤ c ∧ c ≤ 4294967296 ∧ bytes ≤ 4096 ∧ size ≠ 0 then
        some (.slice (some ⟨H.length, 0, none⟩) l.toNat c.toNat, H.new ⟨zeros z c.toNat, elem, size, false⟩)
      else none
  | _, _ => none
def msB (elem : TypeId) (size bytes : Nat) (z : List Value) (len cap : Value) : Option ((Nat → Value) × Blk) :=
  match mkS elem size bytes z len cap [] with
  | some (.slice _ n m, [.blk b]) => some (fun i => .slice (some ⟨i, 0, none⟩) n m, b)
  | _ => none
def minS (x y : Value) (H : Heap) : Option (Value × Heap) :=
  match x, y with
  | .int k a, .int k' b => if k = k' then some (.int k (if b < a then b else a), H) else none
  | _, _ => none
def maxS (x y : Value) (H : Heap) : Option (Value × Heap) :=
  match x, y with
  | .int k a, .int k' b => if k = k' then some (.int k (if b > a then b else a), H) else none
  | _, _ => none
def dynC (N : Nat) (C : Oracle) (f : Value) (args : List Value) (H : Heap) : Option (Value × Heap) :=
  match f with
  | .func (.func g) first captured => if g < N then C g (first.toList ++ args ++ captured.toList) H else none
  | .func (.yield i) _ _ => C (N + i) args H
  | _ => none
/-- What a slot holds. -/
abbrev sl (keep : List Nat) (vs : List Value) (t : Nat) : Value := Env.get (keep.zip vs) t

end Go.Proofs.YtgakioiplkehgaaA.Am
