/-
What the abstract machine comes to, with what goes on behind handed on: so that a function's code, slots and regions gone, is a plain term.
-/
import Derived.Test.YtpenlcigickkbaaAmSound
namespace Go.Proofs.YtpenlcigickkbaaA.Am

variable {α : Type}

/-- On with what an operation tells. -/
def bnd (x : Option (Value × Heap)) (k : Value → Heap → Option α) : Option α :=
  match x with
  | some (v, H) => k v H
  | none => none
@[simp] theorem bnd_some (v : Value) (H : Heap) (k : Value → Heap → Option α) : bnd (some (v, H)) k = k v H := rfl
@[simp] theorem bnd_none (k : Value → Heap → Option α) : bnd none k = none := rfl

/-- What turns nothing. -/
def pS (x : Option Value) (H : Heap) : Option (Value × Heap) := x.map (·, H)
@[simp] theorem pS_some (v : Value) (H : Heap) : pS (some v) H = some (v, H) := rfl
@[simp] theorem pS_none (H : Heap) : pS none H = none := rfl

/-- What is guarded. -/
def gd (w : Option Bool) (x : Option (Value × Heap)) (H : Heap) : Option (Value × Heap) :=
  match w with
  | some true => x
  | some false => some (undef, H)
  | none => none
@[simp] theorem gd_true (x : Option (Value × Heap)) (H : Heap) : gd (some true) x H = x := rfl
@[simp] theorem gd_false (x : Option (Value × Heap)) (H : Heap) : gd (some false) x H = some (undef, H) := rfl

def wantV (v : Value) (want : Bool) : Option Bool :=
  match v with
  | .bool b => some (b == want)
  | .tuple vs => if vs.isEmpty then some false else none
  | _ => none
@[simp] theorem wantV_bool (b want : Bool) : wantV (.bool b) want = some (b == want) := rfl
@[simp] theorem wantV_undef (want : Bool) : wantV undef want = some false := rfl

def brB (v : Value) (x y : Option α) : Option α :=
  match v with
  | .bool true => x
  | .bool false => y
  | _ => none
@[simp] theorem brB_true (x y : Option α) : brB (.bool true) x y = x := rfl
@[simp] theorem brB_false (x y : Option α) : brB (.bool false) x y = y := rfl

def pickV (c a b : Value) : Option Value :=
  match c with
  | .bool t => some (if t then a else b)
  | _ => none

def kOps (P : Program) (C : Oracle) (ops : Array Oper) : List Oper → Env → Heap → (Env → Heap → Option α) → Option α
  | [], E, H, k => k E H
  | o :: r, E, H, k => bnd (match o.guard with
      | none => aexec P C E H o
      | some _ => gd (awant ops o E) (aexec P C E H o) H) fun v H' => kOps P C ops r (E.put o.dst v) H' k

theorem kOps_eq (P : Program) (C : Oracle) (ops : Array Oper) (l : List Oper) (E : Env) (H : Heap) (k : Env → Heap → Option α) :
    kOps P C ops l E H k = match runOps P C ops l E H with | some (E', H') => k E' H' | none => none := by
  induction l generalizing E H with
  | nil => rfl
  | cons o r ih =>
    rw [kOps, runOps]
    cases hg : o.guard with
    | none =>
      have : awant ops o E = some true := by simp only [awant, hg]
      rw [this]
      cases aexec P C E H o with
      | none => rfl
      | some p => obtain ⟨v, H'⟩ := p; simp only [bnd_some]; exact ih _ _
    | some g =>
      simp only
      cases awant ops o E with
      | none => rfl
      | some b =>
        cases b with
        | true =>
          simp only [gd_true]
          cases aexec P C E H o with
          | none => rfl
          | some p => obtain ⟨v, H'⟩ := p; simp only [bnd_some]; exact ih _ _
        | false => simp only [gd_false, bnd_some]; exact ih _ _

/-- The same, the states ahead of each operation told too. -/
def kOpsT (P : Program) (C : Oracle) (ops : Array Oper) : List Oper → Env → Heap → List (Env × Heap) → (Env → Heap → List (Env × Heap) → Option α) → Option α
  | [], E, H, T, k => k E H (T ++ [(E, H)])
  | o :: r, E, H, T, k => bnd (match o.guard with
      | none => aexec P C E H o
      | some _ => gd (awant ops o E) (aexec P C E H o) H) fun v H' => kOpsT P C ops r (E.put o.dst v) H' (T ++ [(E, H)]) k
theorem kOpsT_eq (P : Program) (C : Oracle) (ops : Array Oper) (l : List Oper) (E : Env) (H : Heap) (T : List (Env × Heap)) (k : Env → Heap → List (Env × Heap) → Option α) :
    kOpsT P C ops l E H T k = match runOps P C ops l E H with | some (E', H') => k E' H' (T ++ trace P C ops l E H) | none => none := by
  induction l generalizing E H T with
  | nil => rfl
  | cons o r ih =>
    rw [kOpsT, runOps, trace]
    cases hg : o.guard with
    | none =>
      have : awant ops o E = some true := by simp only [awant, hg]
      rw [this]
      cases aexec P C E H o with
      | none => rfl
      | some p => obtain ⟨v, H'⟩ := p; simp only [bnd_some, ih, List.append_assoc, List.singleton_append]
    | some g =>
      simp only
      cases awant ops o E with
      | none => rfl
      | some b =>
        cases b with
        | true =>
          simp only [gd_true]
          cases aexec P C E H o with
          | none => rfl
          | some p => obtain ⟨v, H'⟩ := p; simp only [bnd_some, ih, List.append_assoc, List.singleton_append]
        | false => simp only [gd_false, bnd_some, ih, List.append_assoc, List.singleton_append]

def kRegion (P : Program) (C : Oracle) (ops : Array Oper) (draw : Bool) (E : Env) (H : Heap) (k : Env → Heap → Option α) : Option α :=
  if draw then
    match confs ops with
    | [] => kOps P C ops ops.toList E H k
    | cs => kOpsT P C ops ops.toList E H [] fun E' H' T => if cs.all (confOk P ops T) then k E' H' else none
  else kOps P C ops ops.toList E H k
theorem kRegion_eq (P : Program) (C : Oracle) (ops : Array Oper) (draw : Bool) (E : Env) (H : Heap) (k : Env → Heap → Option α) :
    kRegion P C ops draw E H k = match runRegion P C ops draw E H with | some (E', H') => k E' H' | none => none := by
  unfold kRegion runRegion
  cases draw with
  | false => simp only [Bool.false_eq_true, if_false]; exact kOps_eq ..
  | true =>
    simp only [if_true]
    cases confs ops with
    | nil => exact kOps_eq ..
    | cons c cs =>
      simp only [kOpsT_eq, List.nil_append]
      cases runOps P C ops ops.toList E H with
      | none => by_cases hb : (c :: cs).all (confOk P ops (trace P C ops ops.toList E H)) = true <;> simp only [hb, if_true, if_false, Bool.false_eq_true]
      | some q =>
        obtain ⟨E', H'⟩ := q
        by_cases hb : (c :: cs).all (confOk P ops (trace P C ops ops.toList E H)) = true <;> simp only [hb, if_true, if_false, Bool.false_eq_true]
/-- A read beside what writes: it told the same ahead of it and behind. -/
def cfS (wx wy : Option Bool) (u u1 u2 : Option (Value × Heap)) : Bool :=
  match wx, wy with
  | some true, some true => match u, u1, u2 with
    | some (u, _), some (u1, _), some (u2, _) => eqV u u1 && eqV u u2
    | _, _, _ => false
  | some _, some _ => true
  | _, _ => false
@[simp] theorem cfS_true (u u1 u2 : Value) (H H1 H2 : Heap) : cfS (some true) (some true) (some (u, H)) (some (u1, H1)) (some (u2, H2)) = (eqV u u1 && eqV u u2) := rfl
@[simp] theorem cfS_fx (w : Bool) (u u1 u2 : Option (Value × Heap)) : cfS (some false) (some w) u u1 u2 = true := by cases w <;> rfl
@[simp] theorem cfS_fy (w : Bool) (u u1 u2 : Option (Value × Heap)) : cfS (some w) (some false) u u1 u2 = true := by cases w <;> rfl
@[simp] theorem eqV_int (k : IntKind) (a : Int) : eqV (.int k a) (.int k a) = true := by simp [eqV, eqV1]
@[simp] theorem eqV_bool (a : Bool) : eqV (.bool a) (.bool a) = true := by simp [eqV, eqV1]
@[simp] theorem eqV_pointer (a : Option Addr) : eqV (.pointer a) (.pointer a) = true := by simp [eqV, eqV1]
@[simp] theorem eqV_slice (a : Option Addr) (n c : Nat) : eqV (.slice a n c) (.slice a n c) = true := by simp [eqV, eqV1]

def fin : AExit → List Value → Heap → AOut := fun e vs H => some (e, vs, H)

def onOut (x : AOut) (k : AExit → List Value → Heap → Option α) : Option α :=
  match x with
  | some (e, vs, H) => k e vs H
  | none => none
@[simp] theorem onOut_some (e : AExit) (vs : List Value) (H : Heap) (k : AExit → List Value → Heap → Option α) : onOut (some (e, vs, H)) k = k e vs H := rfl

/-- Nothing; but what is built of it the kernel unfolds ahead of bnd. -/
def up {β : Type} (x : β) : β := (fun (_ : Option Nat) => x) (bnd (α := Nat) none fun _ _ => none)
/-- What goes on behind. -/
def kSeq (kb : List Value → Heap → Option α) (k : AExit → List Value → Heap → Option α) : AExit → List Value → Heap → Option α :=
  fun e vs H => up (match e with
    | .normal => kb vs H
    | e => k e vs H)
def kBlk (id : Nat) (k : AExit → List Value → Heap → Option α) : AExit → List Value → Heap → Option α :=
  fun e vs H => up (match e with
    | .exit i => if i = id then k .normal vs H else k (.exit i) vs H
    | e => k e vs H)
@[simp] theorem kSeq_normal (kb : List Value → Heap → Option α) (k : AExit → List Value → Heap → Option α) (vs : List Value) (H : Heap) : kSeq kb k .normal vs H = kb vs H := rfl
@[simp] theorem kSeq_exit (kb : List Value → Heap → Option α) (k : AExit → List Value → Heap → Option α) (i : Nat) (vs : List Value) (H : Heap) : kSeq kb k (.exit i) vs H = k (.exit i) vs H := rfl
@[simp] theorem kSeq_ret (kb : List Value → Heap → Option α) (k : AExit → List Value → Heap → Option α) (vs : List Value) (H : Heap) : kSeq kb k .ret vs H = k .ret vs H := rfl
@[simp] theorem kBlk_normal (id : Nat) (k : AExit → List Value → Heap → Option α) (vs : List Value) (H : Heap) : kBlk id k .normal vs H = k .normal vs H := rfl
@[simp] theorem kBlk_ret (id : Nat) (k : AExit → List Value → Heap → Option α) (vs : List Value) (H : Heap) : kBlk id k .ret vs H = k .ret vs H := rfl
@[simp] theorem kBlk_exit (id i : Nat) (k : AExit → List Value → Heap → Option α) (vs : List Value) (H : Heap) : kBlk id k (.exit i) vs H = if i = id then k .normal vs H else k (.exit i) vs H := rfl

def evk (P : Program) (C : Oracle) (keep : List Nat) (n : Nat) : {α : Type} → Code → List Value → Heap → (AExit → List Value → Heap → Option α) → Option α
  | _, .skip, vs, H, k => k .normal vs H
  | _, .label _, vs, H, k => k .normal vs H
  | _, .region _ ops draw, vs, H, k => kRegion P C ops draw (keep.zip vs) H fun E H' => k .normal (keep.map E.get) H'
  | _, .seq a b, vs, H, k => evk P C keep n a vs H (kSeq (fun vs' H' => evk P C keep n b vs' H' k) k)
  | _, .cond c a b, vs, H, k => brB (aeval (keep.zip vs) c) (evk P C keep n a vs H k) (evk P C keep n b vs H k)
  | _, .block id c, vs, H, k => evk P C keep n c vs H (kBlk id k)
  | _, .loop c, vs, H, k => onOut (iter n (fun vs H => evk P C keep n c vs H fin) vs H) k
  | _, .exit id, vs, H, k => k (.exit id) vs H
  | _, .scope c, vs, H, k => evk P C keep n c vs H k
  | _, .ret, vs, H, k => k .ret vs H
  | _, .goto _, _, _, _ => none
  | _, .rangeFunc .., _, _, _ => none
  | _, .refuse _, _, _, _ => none

theorem iter_congr {n : Nat} {f g : List Value → Heap → AOut} (h : ∀ vs H, f vs H = g vs H) : iter n f = iter n g := by
  have : f = g := funext fun vs => funext fun H => h vs H
  rw [this]

theorem evk_eq (P : Program) (C : Oracle) (keep : List Nat) (n : Nat) (c : Code) : ∀ {α : Type} (vs : List Value) (H : Heap) (k : AExit → List Value → Heap → Option α),
    evk P C keep n c vs H k = onOut (ev P C keep n c vs H) k := by
  induction c with
  | skip => intros; simp only [evk, ev, onOut_some]
  | label _ => intros; simp only [evk, ev, onOut_some]
  | region p ops draw =>
    intro α vs H k
    simp only [evk, ev, kRegion_eq]
    cases runRegion P C ops draw (keep.zip vs) H with
    | none => rfl
    | some p => rfl
  | seq a b iha ihb =>
    intro α vs H k
    simp only [evk, ev]
    rw [iha]
    cases ev P C keep n a vs H with
    | none => rfl
    | some p =>
      obtain ⟨e, vs', H'⟩ := p
      cases e with
      | normal => simp only [onOut_some, kSeq_normal]; exact ihb _ _ _
      | _ => rfl
  | cond c a b iha ihb =>
    intro α vs H k
    simp only [evk, ev, iha, ihb]
    generalize aeval (keep.zip vs) c = v
    cases v with
    | bool t => cases t <;> rfl
    | _ => rfl
  | block id c ih =>
    intro α vs H k
    simp only [evk, ev]
    rw [ih]
    cases ev P C keep n c vs H with
    | none => rfl
    | some p =>
      obtain ⟨e, vs', H'⟩ := p
      cases e with
      | exit i =>
        simp only [onOut_some, kBlk_exit]
        split <;> rfl
      | _ => rfl
  | loop c ih =>
    intro α vs H k
    simp only [evk, ev]
    rw [iter_congr (g := ev P C keep n c)]
    intro vs H
    rw [ih]
    cases ev P C keep n c vs H with
    | none => rfl
    | some p => rfl
  | exit _ => intros; simp only [evk, ev, onOut_some]
  | scope c ih => intro α vs H k; simp only [evk, ev, ih]
  | ret => intros; simp only [evk, ev, onOut_some]
  | goto _ => intros; rfl
  | rangeFunc _ _ _ _ _ _ => intros; rfl
  | refuse _ => intros; rfl

/-- What a function tells, of what its slots hold. -/
def resK (P : Program) (rs : List ResultVar) (E : Env) (H : Heap) : Option (Value × Heap) :=
  match rs with
  | [.tmp t] => some (E.get t, H)
  | rs => ((rs.mapM fun (r : ResultVar) => match r with
      | .tmp t => some (E.get t)
      | .cell a t => ldVar P t (E.get a) H).map fun (vs : List Value) => match vs with | [v] => v | vs => Value.tuple vs.toArray).map (·, H)
theorem resK_eq (P : Program) (fn : Func) (E : Env) (H : Heap) : resK P fn.results.toList E H = (ares P fn E H).map (·, H) := by
  unfold resK ares
  split
  · rename_i h; rw [h]; rfl
  · rfl

def kRet (P : Program) (rs : List ResultVar) (keep : List Nat) : AExit → List Value → Heap → Option (Value × Heap) :=
  fun e vs H => match e with
    | .normal | .ret => resK P rs (keep.zip vs) H
    | .exit _ => none
@[simp] theorem kRet_normal (P : Program) (rs : List ResultVar) (keep : List Nat) (vs : List Value) (H : Heap) : kRet P rs keep .normal vs H = resK P rs (keep.zip vs) H := rfl
@[simp] theorem kRet_ret (P : Program) (rs : List ResultVar) (keep : List Nat) (vs : List Value) (H : Heap) : kRet P rs keep .ret vs H = resK P rs (keep.zip vs) H := rfl

def kFunc (P : Program) (C : Oracle) (n : Nat) (fn : Func) (keep : List Nat) (args : List Value) (H : Heap) : Option (Value × Heap) :=
  match fn.body with
  | some c => evk P C keep n c (keep.map fun t => args.getD t undef) H (kRet P fn.results.toList keep)
  | none => none

theorem acall_k {P : Program} {bad : List FuncId} {G : Oracle} {n : Nat} {f : FuncId} {fn : Func} (hb : bad.contains f = false) (hf : P.funcs[f]? = some fn) {keep : List Nat} (hk : keepOf fn = keep) (args : List Value) (H : Heap) :
    acall P bad G (n + 1) f args H = kFunc P (acall P bad G n) n fn keep args H := by
  subst hk
  unfold kFunc
  conv => lhs; unfold acall
  rw [hb, hf]
  simp only [Bool.false_eq_true, if_false]
  cases fn.body with
  | none => rfl
  | some c =>
    simp only
    rw [evk_eq]
    generalize ev P (acall P bad G n) (keepOf fn) n c ((keepOf fn).map fun t => args.getD t undef) H = x
    cases x with
    | none => rfl
    | some p =>
      obtain ⟨e, vs, H'⟩ := p
      cases e <;> simp only [onOut_some, resK_eq, kRet]


def regsOf : Code → List (Array Oper)
  | .region _ ops _ => [ops]
  | .seq a b | .cond _ a b | .rangeFunc _ _ a b => regsOf a ++ regsOf b
  | .block _ c | .loop c | .scope c => regsOf c
  | _ => []
/-- A function's k-th region. -/
def regAt (P : Program) (f k : Nat) : Array Oper :=
  match P.funcs[f]? with
  | some fn => match fn.body with
    | some c => (regsOf c).getD k #[]
    | none => #[]
  | none => #[]

/- The operations, their types looked up. -/
def pickS (c a b : Value) (H : Heap) : Option (Value × Heap) :=
  match c with
  | .bool t => some (if t then a else b, H)
  | _ => none
def ld1 (p : Value) (H : Heap) : Option Value :=
  match p with
  | .pointer (some ⟨i, off, none⟩) => match H.get i with
    | some b => b.cells[off]?
    | none => none
  | _ => none
def ldn (n : Nat) (p : Value) (H : Heap) : Option Value :=
  match p with
  | .pointer (some ⟨i, off, none⟩) => match ldCells H i off n with
    | some vs => some (.agg vs.toArray)
    | none => none
  | _ => none
def stS (n : Nat) (p v : Value) (H : Heap) : Option (Value × Heap) :=
  (match p with
  | .pointer (some ⟨i, off, none⟩) => if v.cells.size = n ∧ known v = true then stCells H i off v.cells.toList else none
  | _ => none : Option Heap).map (undef, ·)
def nckS (x : Value) (H : Heap) : Option (Value × Heap) :=
  match x with
  | .pointer (some a) => some (.pointer (some a), H)
  | .func (.func g) f c => some (.func (.func g) f c, H)
  | _ => none
def fadS (off : Nat) (x : Value) (H : Heap) : Option (Value × Heap) :=
  match x with
  | .pointer (some ⟨i, o, none⟩) => some (.pointer (some ⟨i, o + off, none⟩), H)
  | _ => none
def fld1 (off : Nat) (x : Value) (H : Heap) : Option (Value × Heap) :=
  match x with
  | .agg cs => (cs[off]?).map (·, H)
  | _ => none
def fldn (n off : Nat) (x : Value) (H : Heap) : Option (Value × Heap) :=
  match x with
  | .agg cs => (some (Value.agg (cs.extract off (off + n)))).map (·, H)
  | _ => none
def iadS (es : Nat) (x i : Value) (H : Heap) : Option (Value × Heap) :=
  match x, i with
  | .slice (some ⟨b, off, none⟩) len _, .int _ n => if 0 ≤ n ∧ n < len then some (.pointer (some ⟨b, off + n.toNat * es, none⟩), H) else none
  | _, _ => none
def iaaS (len es : Nat) (x i : Value) (H : Heap) : Option (Value × Heap) :=
  match x, i with
  | .pointer (some ⟨b, off, none⟩), .int _ n => if 0 ≤ n ∧ n < len then some (.pointer (some ⟨b, off + n.toNat * es, none⟩), H) else none
  | _, _ => none
def slen (x : Value) : Option Value :=
  match x with
  | .slice _ n _ => some (.int .i64 n)
  | _ => none
def scut (es : Nat) (H : Heap) (x : Value) (lo hi : Option Value) : Option Value :=
  match x with
  | .slice a len cap =>
      match boundOf len hi, boundOf 0 lo with
      | some h, some l => if 0 ≤ h ∧ h ≤ cap ∧ 0 ≤ l ∧ l ≤ h then
          match a with
          | none => some (.slice none 0 0)
          | some ⟨i, off, none⟩ => match H.get i with
            | some b => if b.es = es then some (.slice (some ⟨i, off + l.toNat * es, none⟩) (h.toNat - l.toNat) (cap - l.toNat)) else none
            | none => none
          | _ => none
        else none
      | _, _ => none
  | _ => none
def extS (i : Nat) (x : Value) (H : Heap) : Option (Value × Heap) :=
  match x with
  | .tuple vs => (vs[i]?).map (·, H)
  | _ => none
def convS (k : IntKind) (x : Value) (H : Heap) : Option (Value × Heap) :=
  match x with
  | .int _ n => some (.int k (k.wrap n), H)
  | _ => none
def boxS (t : TypeId) (x : Value) (H : Heap) : Option (Value × Heap) :=
  if x.cells.toList.all oneCell then some (newBlk H t 1 x.cells.toList) else none
def appS (elem : TypeId) (size bytes : Nat) (s x : Value) (H : Heap) : Option (Value × Heap) :=
  match s with
  | .slice base sLen sCap =>
        match (match x with
          | .slice _ n _ => (srcCells H size n x).map fun cs => (n, cs)
          | _ => none : Option (Nat × List Value)) with
        | some (n, new) =>
          let need := sLen + n
          if need ≤ sCap then
            match base with
            | none => some (.slice none need sCap, H)
            | some ⟨i, off, none⟩ => if n = 0 then some (.slice base need sCap, H) else
              match H.get i with
              | some b => if b.es = size then (stCells H i (off + sLen * size) new).map fun H' => (.slice base need sCap, H') else none
              | none => none
            | _ => none
          else if need ≤ 4294967296 && bytes ≤ 4096 && size ≠ 0 then
            match base with
            | none => if sLen = 0 then some (.slice (some ⟨H.length, 0, none⟩) need need, H.new ⟨new, elem, size, false⟩) else none
            | some ⟨i, off, none⟩ =>
              match H.get i with
              | some b =>
                if !b.ro && b.es == size && off + sCap * size == b.cells.length then
                  match ldCells H i off (sLen * size) with
                  | some old => some (.slice (some ⟨H.length, 0, none⟩) need need, (H.kill i).new ⟨old ++ new, elem, size, false⟩)
                  | none => none
                else none
              | none => none
            | _ => none
          else none
        | none => none
  | _ => none
def mkS (elem : TypeId) (size bytes : Nat) (z : List Value) (len cap : Value) (H : Heap) : Option (Value × Heap) :=
  match len, cap with
  | .int _ l, .int _ c =>
      if 0 ≤ l ∧ l ≤ c ∧ c ≤ 4294967296 ∧ bytes ≤ 4096 ∧ size ≠ 0 then
        some (.slice (some ⟨H.length, 0, none⟩) l.toNat c.toNat, H.new ⟨zeros z c.toNat, elem, size, false⟩)
      else none
  | _, _ => none
def minS (x y : Value) (H : Heap) : Option (Value × Heap) :=
  match x, y with
  | .int k a, .int k' b => if k = k' then some (.int k (if b < a then b else a), H) else none
  | _, _ => none
def maxS (x y : Value) (H : Heap) : Option (Value × Heap) :=
  match x, y with
  | .int k a, .int k' b => if k = k' then some (.int k (if b > a then b else a), H) else none
  | _, _ => none
def dynC (C : Oracle) (f : Value) (args : List Value) (H : Heap) : Option (Value × Heap) :=
  match f with
  | .func (.func g) first captured => C g (first.toList ++ args ++ captured.toList) H
  | _ => none
/-- What a slot holds. -/
abbrev sl (keep : List Nat) (vs : List Value) (t : Nat) : Value := Env.get (keep.zip vs) t

end Go.Proofs.YtpenlcigickkbaaA.Am
