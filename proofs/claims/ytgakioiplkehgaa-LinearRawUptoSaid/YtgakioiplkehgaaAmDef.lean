/-
An abstract machine for the program's code: no order that is drawn, no capacity that the tape chooses, blocks numbered as they are made. Definitions alone; AmSound shows that what it comes to, the model's machine comes to.
-/
import Derived.Orders
import Derived.Below
import Derived.Laws.BitsLemmas
namespace Go.Proofs.YtgakioiplkehgaaA.Am

/-- What nothing is known of. -/
abbrev unk : Value := .complex .f64 0 0
def known : Value → Bool
  | .complex .. => false
  | _ => true

/-- A block: its cells, its element's type, how many cells an element has; ro: it came in, and is only read. -/
structure Blk where
  cells : List Value
  ty : TypeId
  es : Nat
  ro : Bool
  deriving Inhabited

/-- A loop over a function, as it began: what its slots held; its code. -/
structure ALoop where
  keep : List Nat
  vs : List Value
  ps : Array Tmp
  assign : Code
  body : Code
/-- How it stands: between two rounds; in a round; a round has left it. -/
inductive LState where
  | ready
  | busy
  | ret
  | exit (id : Nat)
/-- What lies in the heap and is no cells: a loop over a function; a map, its keys whole numbers. -/
inductive Other where
  | loop (L : ALoop) (s : LState)
  | tab (k : IntKind) (es : List (Int × Value))
inductive Slot where
  | dead
  | hole
  | blk (b : Blk)
  | oth (o : Other)

abbrev Heap := List Slot
def Heap.get (H : Heap) (i : Nat) : Option Blk := match H[i]? with | some (.blk b) => some b | _ => none
def Heap.put (H : Heap) (i : Nat) (b : Blk) : Heap := H.set i (.blk b)
def Heap.kill (H : Heap) (i : Nat) : Heap := H.set i .dead
def Heap.new (H : Heap) (b : Blk) : Heap := H ++ [.blk b]
def Heap.oth (H : Heap) (i : Nat) : Option Other := match H[i]? with | some (.oth o) => some o | _ => none
def Heap.putO (H : Heap) (i : Nat) (o : Other) : Heap := H.set i (.oth o)
def Heap.newO (H : Heap) (o : Other) : Heap := H ++ [.oth o]

abbrev Env := List (Nat × Value)
def Env.get : Env → Nat → Value
  | [], _ => unk
  | (k, v) :: r, t => if t = k then v else Env.get r t
def Env.put (E : Env) (d : Option Nat) (v : Value) : Env := match d with | some d => (d, v) :: E | none => E

/-- Values that name no block: what a constant or a zero value may be. -/
def plainV : Value → Bool
  | .bool _ | .int _ _ | .string _ | .pointer none | .slice none 0 0 | .map none | .nilFunc | .nilIface => true
  | _ => false
def closedV : Value → Bool
  | .agg cs => cs.toList.all plainV
  | v => plainV v

def aeval (E : Env) : Operand → Value
  | .tmp t => E.get t
  | .const v => if closedV v then v else unk
  | .global _ => unk
  | .func f => .func (.func f) #[] #[]

def szOf (P : Program) (t : TypeId) : Option Nat := (P.info? t).map (·.size)
def bytesOfT (P : Program) (t : TypeId) : Option Nat := (P.info? t).map (·.bytes)
def aggQ (P : Program) (t : TypeId) : Option Bool := (P.underlying t).map fun | .struct _ => true | .array _ _ => true | _ => false
def zeroOf (P : Program) (t : TypeId) : Option Value := (P.info? t).bind fun i => match i.zero with | some z => if closedV z && z.cells.size == i.size then some z else none | none => none

/-- n cells from a place on. -/
def ldCells (H : Heap) (i off n : Nat) : Option (List Value) :=
  match H.get i with
  | some b => if off + n ≤ b.cells.length then some ((b.cells.drop off).take n) else none
  | none => none
def oneCell : Value → Bool
  | .agg _ | .tuple _ | .complex .. => false
  | _ => true
def splice (cs : List Value) (off : Nat) : List Value → List Value
  | [] => cs
  | v :: r => splice (cs.set off v) (off + 1) r
def stCells (H : Heap) (i off : Nat) (vs : List Value) : Option Heap :=
  match H.get i with
  | some b => if !b.ro && decide (off + vs.length ≤ b.cells.length) && vs.all oneCell then some (H.put i { b with cells := splice b.cells off vs }) else none
  | none => none

def ldVar (P : Program) (t : TypeId) (p : Value) (H : Heap) : Option Value :=
  match p with
  | .pointer (some ⟨i, off, none⟩) =>
    match aggQ P t with
    | some true => match szOf P t with
      | some n => match ldCells H i off n with
        | some vs => some (.agg vs.toArray)
        | none => none
      | none => none
    | some false => match H.get i with
      | some b => b.cells[off]?
      | none => none
    | none => none
  | _ => none

def stVar (P : Program) (t : TypeId) (p v : Value) (H : Heap) : Option Heap :=
  match p with
  | .pointer (some ⟨i, off, none⟩) =>
    match szOf P t with
    | some n => if v.cells.size = n ∧ known v = true then stCells H i off v.cells.toList else none
    | none => none
  | _ => none

def newBlk (H : Heap) (t : TypeId) (es : Nat) (cells : List Value) : Value × Heap :=
  (.pointer (some ⟨H.length, 0, none⟩), H.new ⟨cells, t, es, false⟩)

/-- n elements' zeros. -/
def zeros (z : List Value) (n : Nat) : List Value := (List.replicate n z).flatten

def apart (P : Program) (t : TypeId) (cs : Array Value) (off : Nat) : Option Value :=
  match aggQ P t with
  | some true => match szOf P t with
    | some n => some (.agg (cs.extract off (off + n)))
    | none => none
  | some false => cs[off]?
  | none => none

def strLess (a b : ByteArray) : Bool := Op.bytesLess a.toList b.toList

def eqFields (P : Program) (eq : TypeId → Value → Value → Option Bool) (xs ys : Array Value) : List Field → Option Bool
  | [] => some true
  | f :: r => if f.name = "_" then eqFields P eq xs ys r else
    match apart P f.type xs f.offset, apart P f.type ys f.offset with
    | some u, some v => match eq f.type u v with
      | some true => eqFields P eq xs ys r
      | x => x
    | _, _ => none
/-- '==' of what holds no address. -/
def aequal (P : Program) : Nat → TypeId → Value → Value → Option Bool
  | 0, _, _, _ => none
  | d + 1, t, x, y =>
    match P.underlying t, x, y with
    | some .bool, .bool a, .bool b => some (a == b)
    | some (.int _), .int k a, .int k' b => if k = k' then some (a == b) else none
    | some .string, .string a, .string b => some (a == b)
    | some (.pointer _), .pointer none, .pointer b => some b.isNone
    | some (.pointer _), .pointer (some _), .pointer none => some false
    | some (.slice _), .slice none _ _, .slice b _ _ => some b.isNone
    | some (.slice _), .slice (some _) _ _, .slice none _ _ => some false
    | some (.func _ _ _), .nilFunc, .nilFunc => some true
    | some (.func _ _ _), .nilFunc, .func _ _ _ => some false
    | some (.func _ _ _), .func _ _ _, .nilFunc => some false
    | some (.struct fields), .agg xs, .agg ys =>
      if P.stoodInHeld t then none else
      eqFields P (aequal P d) xs ys fields.toList
    | _, _, _ => none

def aarith (op : BinOp) (k : IntKind) (a b : Int) : Option Value :=
  match op with
  | .add => some (.int k (k.wrap (a + b)))
  | .sub => some (.int k (k.wrap (a - b)))
  | .mul => some (.int k (k.wrap (a * b)))
  | .quo => if b = 0 then none else some (.int k (k.wrap (a.tdiv b)))
  | .rem => if b = 0 then none else some (.int k (a.tmod b))
  | .and | .or | .xor | .andNot => some (.int k (bits op k a b))
  | .eql => some (.bool (a == b))
  | .neq => some (.bool (a != b))
  | .lss => some (.bool (decide (a < b)))
  | .leq => some (.bool (decide (a ≤ b)))
  | .gtr => some (.bool (decide (a > b)))
  | .geq => some (.bool (decide (a ≥ b)))
  | _ => none

def ashift (op : BinOp) (k : IntKind) (a b : Int) : Option Value :=
  if b < 0 then none else
  match op with
  | .shl => some (.int k (k.wrap (a * 2 ^ min b.toNat k.bits)))
  | .shr => some (.int k (a.fdiv (2 ^ min b.toNat k.bits)))
  | _ => none

def astr (op : BinOp) (a b : ByteArray) : Option Value :=
  match op with
  | .eql => some (.bool (a.toList == b.toList))
  | .neq => some (.bool !(a.toList == b.toList))
  | .lss => some (.bool (strLess a b))
  | .leq => some (.bool (strLess a b || a.toList == b.toList))
  | .gtr => some (.bool !(strLess a b || a.toList == b.toList))
  | .geq => some (.bool !(strLess a b))
  | _ => none

def abin (P : Program) (op : BinOp) (t : TypeId) (x y : Value) : Option Value :=
  match x, y with
  | .int k a, .int k' b => match op with
    | .shl | .shr => ashift op k a b
    | _ => if k = k' then aarith op k a b else none
  | .string a, .string b => astr op a b
  | .agg _, .agg _ => if P.eqGuardType P.depth t then none else match op with
    | .eql => (aequal P Op.maxDepth t x y).map .bool
    | .neq => (aequal P Op.maxDepth t x y).map fun b => .bool (!b)
    | _ => none
  | .bool _, .bool _ | .pointer _, .pointer _ | .slice _ _ _, .slice _ _ _ | .nilFunc, .nilFunc | .nilFunc, .func _ _ _ | .func _ _ _, .nilFunc => match op with
    | .eql => (aequal P Op.maxDepth t x y).map .bool
    | .neq => (aequal P Op.maxDepth t x y).map fun b => .bool (!b)
    | _ => none
  | _, _ => none

def aun (op : UnOp) (x : Value) : Option Value :=
  match op, x with
  | .neg, .int k n => some (.int k (k.wrap (0 - n)))
  | .not, .bool b => some (.bool !b)
  | _, _ => none

def asLen : Value → Option Nat
  | .slice _ n _ => some n
  | .string s => some s.size
  | _ => none

/-- What is appended: cells. -/
def srcCells (H : Heap) (size n : Nat) : Value → Option (List Value)
  | .slice (some ⟨i, off, none⟩) _ _ => if n = 0 then some [] else ldCells H i off (n * size)
  | .slice none _ _ => if n = 0 then some [] else none
  | _ => none

def agot (P : Program) (H : Heap) (xType : TypeId) (size bytes : Nat) (z x : Value) : Option (Nat × List Value) :=
  match P.underlying xType, x with
  | some (.int _), .int .i64 l => if 0 ≤ l ∧ l ≤ 4294967296 ∧ bytes ≤ 4096 then some (l.toNat, zeros z.cells.toList l.toNat) else none
  | some (.slice _), .slice _ n _ => (srcCells H size n x).map fun cs => (n, cs)
  | _, _ => none

def aappend (P : Program) (argTypes : Array TypeId) (s x : Value) (H : Heap) : Option (Value × Heap) :=
  match argTypes[0]?, argTypes[1]? with
  | some sType, some xType =>
    match P.underlying sType, s with
    | some (.slice elem), .slice base sLen sCap =>
      match szOf P elem, bytesOfT P elem, zeroOf P elem with
      | some size, some bytes, some z =>
        match agot P H xType size bytes z x with
        | some (n, new) =>
          let need := sLen + n
          if need ≤ sCap then
            match base with
            | none => some (.slice none need sCap, H)
            | some ⟨i, off, none⟩ => if n = 0 then some (.slice base need sCap, H) else
              match H.get i with
              | some b => if b.es = size then (stCells H i (off + sLen * size) new).map fun H' => (.slice base need sCap, H') else none
              | none => none
            | _ => none
          else if need ≤ 4294967296 && bytes ≤ 4096 && size ≠ 0 then
            match base with
            | none => if sLen = 0 then some (.slice (some ⟨H.length, 0, none⟩) need need, H.new ⟨new, elem, size, false⟩) else none
            | some ⟨i, off, none⟩ =>
              match H.get i with
              | some b =>
                if !b.ro && b.es == size && off + sCap * size == b.cells.length then
                  match ldCells H i off (sLen * size) with
                  | some old => some (.slice (some ⟨H.length, 0, none⟩) need need, (H.kill i).new ⟨old ++ new, elem, size, false⟩)
                  | none => none
                else none
              | none => none
            | _ => none
          else none
        | none => none
      | _, _, _ => none
    | _, _ => none
  | _, _ => none

def acopy (P : Program) (argTypes : Array TypeId) (dst src : Value) (H : Heap) : Option (Value × Heap) :=
  match argTypes[0]? with
  | some dType =>
    match P.underlying dType, dst, src with
    | some (.slice elem), .slice base dLen _, .slice _ sLen _ =>
      match szOf P elem with
      | some size =>
        let n := min sLen dLen
        match srcCells H size n src with
        | some cs =>
          match base with
          | none => some (.int .i64 n, H)
          | some ⟨i, off, none⟩ => if n = 0 then some (.int .i64 n, H) else (stCells H i off cs).map fun H' => (.int .i64 n, H')
          | _ => none
        | none => none
      | none => none
    | _, _, _ => none
  | none => none

/-! maps whose keys are whole numbers of one kind -/
def mmk (q : IntKind) (H : Heap) : Option (Value × Heap) := some (.map (some H.length), H.newO (.tab q []))
def mlook (q : IntKind) (z : Value) (ok : Bool) (m x : Value) (H : Heap) : Option Value :=
  match m, x with
  | .map (some i), .int q1 n => match H.oth i with
    | some (.tab q2 es) => if q = q1 ∧ q1 = q2 then
        match es.find? (fun e => e.1 == n) with
        | some e => some (if ok then .tuple #[e.2, .bool true] else e.2)
        | none => some (if ok then .tuple #[z, .bool false] else z)
      else none
    | _ => none
  | _, _ => none
def tput (es : List (Int × Value)) (n : Int) (v : Value) : List (Int × Value) :=
  match es.findIdx? (fun e => e.1 == n) with
  | some j => es.set j (n, v)
  | none => es ++ [(n, v)]
def tdel (es : List (Int × Value)) (n : Int) : List (Int × Value) :=
  match es.findIdx? (fun e => e.1 == n) with
  | some j => es.eraseIdx j
  | none => es
def mput (q : IntKind) (m x v : Value) (H : Heap) : Option (Value × Heap) :=
  match m, x with
  | .map (some i), .int q1 n => match H.oth i with
    | some (.tab q2 es) => if q = q1 ∧ q1 = q2 then some (undef, H.putO i (.tab q2 (tput es n v))) else none
    | _ => none
  | _, _ => none
def mdel (q : IntKind) (m x : Value) (H : Heap) : Option (Value × Heap) :=
  match m, x with
  | .map (some i), .int q1 n => match H.oth i with
    | some (.tab q2 es) => if q = q1 ∧ q1 = q2 then some (undef, H.putO i (.tab q2 (tdel es n))) else none
    | _ => none
  | _, _ => none
def mlen (m : Value) (H : Heap) : Option Value :=
  match m with
  | .map (some i) => match H.oth i with
    | some (.tab _ es) => some (.int .i64 es.length)
    | _ => none
  | _ => none
/-- The kind of a map's keys, and the zero of its elements. -/
def mapOf (P : Program) (t : TypeId) : Option (IntKind × Value) :=
  match P.underlying t with
  | some (.map k e) => match P.underlying k, zeroOf P e with
    | some (.int q), some z => some (q, z)
    | _, _ => none
  | _ => none
def amakeMap (P : Program) (t : TypeId) (H : Heap) : Option (Value × Heap) := match mapOf P t with | some (q, _) => mmk q H | none => none
def alookup (P : Program) (t : TypeId) (m x : Value) (ok : Bool) (H : Heap) : Option Value := match mapOf P t with | some (q, z) => mlook q z ok m x H | none => none
def amapUpdate (P : Program) (t : TypeId) (m x v : Value) (H : Heap) : Option (Value × Heap) := match mapOf P t with | some (q, _) => mput q m x v H | none => none
def adelete (P : Program) (argTypes : Array TypeId) (m x : Value) (H : Heap) : Option (Value × Heap) := match argTypes[0]?.bind (mapOf P) with | some (q, _) => mdel q m x H | none => none

/-- A slice is cleared. -/
def aclear (P : Program) (argTypes : Array TypeId) (x : Value) (H : Heap) : Option (Value × Heap) :=
  match argTypes[0]?.bind P.underlying, x with
  | some (.slice elem), .slice base n _ =>
    match zeroOf P elem with
    | some z =>
      match base with
      | none => some (undef, H)
      | some ⟨i, off, none⟩ => if n = 0 then some (undef, H) else (stCells H i off (zeros z.cells.toList n)).map fun H' => (undef, H')
      | _ => none
    | none => none
  | _, _ => none

def alen (P : Program) (H : Heap) (argTypes : Array TypeId) (x : Value) : Option Value :=
  match argTypes[0]? with
  | some t =>
    match P.underlying t, x with
    | some (.map _ _), x => mlen x H
    | some .string, .string s => some (.int .i64 s.size)
    | some (.array n _), _ => some (.int .i64 n)
    | some (.slice _), .slice _ n _ => some (.int .i64 n)
    | _, _ => none
  | none => none

def abuiltin (P : Program) (b : Builtin) (argTypes : Array TypeId) (args : List Value) (H : Heap) : Option (Value × Heap) :=
  match b, args with
  | .append, [s, x] => aappend P argTypes s x H
  | .copy, [d, s] => acopy P argTypes d s H
  | .len, [x] => (alen P H argTypes x).map (·, H)
  | .clear, [x] => aclear P argTypes x H
  | .delete, [m, x] => adelete P argTypes m x H
  | .cap, [.slice none _ n] => match argTypes[0]?.bind P.underlying with | some (.slice _) => some (.int .i64 n, H) | _ => none
  | .min, [.int k a, .int k' b] => if k = k' then some (.int k (if b < a then b else a), H) else none
  | .max, [.int k a, .int k' b] => if k = k' then some (.int k (if b > a then b else a), H) else none
  | _, _ => none

def intOfV : Value → Option Int
  | .int _ n => some n
  | _ => none

def boundOf (d : Int) : Option Value → Option Int
  | some v => intOfV v
  | none => some d

def aslice (P : Program) (H : Heap) (t : TypeId) (x : Value) (lo hi : Option Value) : Option Value :=
  match P.underlying t, x with
  | some (.slice elem), .slice a len cap =>
    match szOf P elem with
    | some size =>
      match boundOf len hi, boundOf 0 lo with
      | some h, some l => if 0 ≤ h ∧ h ≤ cap ∧ 0 ≤ l ∧ l ≤ h then
          match a with
          | none => some (.slice none 0 0)
          | some ⟨i, off, none⟩ => match H.get i with
            | some b => if b.es = size then some (.slice (some ⟨i, off + l.toNat * size, none⟩) (h.toNat - l.toNat) (cap - l.toNat)) else if cap = 0 then some (.slice (some ⟨i, off, none⟩) 0 0) else none
            | none => if cap = 0 then some (.slice (some ⟨i, off, none⟩) 0 0) else none
          | _ => none
        else none
      | _, _ => none
    | none => none
  | _, _ => none

/-- xs[l:h:m] -/
def aslice3 (P : Program) (H : Heap) (t : TypeId) (x : Value) (lo hi : Option Value) (mx : Value) : Option Value :=
  match x, hi, mx with
  | .slice a _ cap, some _, .int _ m => if 0 ≤ m ∧ m ≤ cap then aslice P H t (.slice a 0 m.toNat) lo hi else none
  | _, _, _ => none
def amakeSlice (P : Program) (t : TypeId) (len cap : Value) (H : Heap) : Option (Value × Heap) :=
  match P.underlying t, len, cap with
  | some (.slice elem), .int _ l, .int _ c =>
    match szOf P elem, bytesOfT P elem, zeroOf P elem with
    | some size, some bytes, some z =>
      if 0 ≤ l ∧ l ≤ c ∧ c ≤ 4294967296 ∧ bytes ≤ 4096 ∧ size ≠ 0 then
        some (.slice (some ⟨H.length, 0, none⟩) l.toNat c.toNat, H.new ⟨zeros z.cells.toList c.toNat, elem, size, false⟩)
      else none
    | _, _, _ => none
  | _, _, _ => none

def placesOf (P : Program) (fields : Array Field) : Option (Array (Nat × Nat)) :=
  (fields.toList.mapM fun f => (szOf P f.type).map fun n => (f.offset, n)).map (·.toArray)

def abuild (P : Program) (t : TypeId) (parts : List (Nat × Value)) : Option Value :=
  if !(parts.all fun p => known p.2) then none else
  match zeroOf P t, P.underlying t with
  | some z, some (.struct fields) =>
    match placesOf P fields with
    | some pl => (Instr.fill (pl[·]?) z.cells parts).map .agg
    | none => none
  | some z, some (.array _ elem) =>
    match szOf P elem with
    | some size => (Instr.fill (fun i => some (i * size, size)) z.cells parts).map .agg
    | none => none
  | _, _ => none

def abuildSlice (P : Program) (t : TypeId) (len : Nat) (parts : List (Nat × Value)) (H : Heap) : Option (Value × Heap) :=
  if !(parts.all fun p => p.2.cells.toList.all oneCell) then none else
  match P.underlying t with
  | some (.slice elem) =>
    match szOf P elem, zeroOf P elem with
    | some size, some z =>
      if len * size ≤ 16777216 && size ≠ 0 then
        match Instr.fill (fun i => some (i * size, size)) (zeros z.cells.toList len).toArray parts with
        | some cs => some (.slice (some ⟨H.length, 0, none⟩) len len, H.new ⟨cs.toList, elem, size, false⟩)
        | none => none
      else none
    | _, _ => none
  | _ => none

/-- One operation but a call: what it tells, the heap behind it. -/
def aop (P : Program) (ρ : Operand → Value) (H : Heap) : Op → Option (Value × Heap)
  | .move x | .assign x => some (ρ x, H)
  | .pick c a b => match ρ c with
    | .bool t => some (if t then ρ a else ρ b, H)
    | _ => none
  | .alloc t => match zeroOf P t with
    | some z => some (newBlk H t 1 z.cells.toList)
    | none => none
  | .box t x => if (ρ x).cells.toList.all oneCell then some (newBlk H t 1 (ρ x).cells.toList) else none
  | .build t ps => (abuild P t (ps.toList.map fun (i, x) => (i, ρ x))).map (·, H)
  | .buildSlice t n ps => abuildSlice P t n (ps.toList.map fun (i, x) => (i, ρ x)) H
  | .load t a => (ldVar P t (ρ a) H).map (·, H)
  | .store t a x => (stVar P t (ρ a) (ρ x) H).map (undef, ·)
  | .nilCheck x => match ρ x with
    | .pointer (some a) => some (.pointer (some a), H)
    | .func (.func g) f c => some (.func (.func g) f c, H)
    | _ => none
  | .binOp op t x y _ => (abin P op t (ρ x) (ρ y)).map (·, H)
  | .unOp op _ x => (aun op (ρ x)).map (·, H)
  | .convert src dst x => match P.underlying src, P.underlying dst, ρ x with
    | some _, some (.int k), .int _ n => some (.int k (k.wrap n), H)
    | _, _, _ => none
  | .makeFunc (.func g) first captured => some (.func (.func g) (first.map ρ) (captured.map ρ), H)
  | .makeSlice t l c => amakeSlice P t (ρ l) (ρ c) H
  | .slice t x lo hi none => (aslice P H t (ρ x) (lo.map ρ) (hi.map ρ)).map (·, H)
  | .slice t x lo hi (some m) => (aslice3 P H t (ρ x) (lo.map ρ) (hi.map ρ) (ρ m)).map (·, H)
  | .makeMap t none => amakeMap P t H
  | .lookup t m x ok => (alookup P t (ρ m) (ρ x) ok H).map (·, H)
  | .mapUpdate t m x v => amapUpdate P t (ρ m) (ρ x) (ρ v) H
  | .fieldAddr s x f => match P.underlying s, ρ x with
    | some (.struct fields), .pointer (some ⟨i, off, none⟩) => match fields[f]? with
      | some fd => match szOf P fd.type with
        | some 0 => none
        | some _ => some (.pointer (some ⟨i, off + fd.offset, none⟩), H)
        | none => none
      | none => none
    | _, _ => none
  | .field s x f => match P.underlying s, ρ x with
    | some (.struct fields), .agg cs => match fields[f]? with
      | some fd => (apart P fd.type cs fd.offset).map (·, H)
      | none => none
    | _, _ => none
  | .indexAddr t x ix => match P.underlying t, ρ x, ρ ix with
    | some (.slice elem), .slice (some ⟨i, off, none⟩) len _, .int _ n => match szOf P elem with
      | some size => if 0 ≤ n ∧ n < len then some (.pointer (some ⟨i, off + n.toNat * size, none⟩), H) else none
      | none => none
    | some (.array len elem), .pointer (some ⟨i, off, none⟩), .int _ n => match szOf P elem with
      | some size => if 0 ≤ n ∧ n < len then some (.pointer (some ⟨i, off + n.toNat * size, none⟩), H) else none
      | none => none
    | _, _, _ => none
  | .index t x ix => match P.underlying t, ρ x, ρ ix with
    | some (.array len elem), .agg cs, .int _ n => match szOf P elem with
      | some size => if 0 ≤ n ∧ n < len then (apart P elem cs (n.toNat * size)).map (·, H) else none
      | none => none
    | some .string, .string s, .int _ n => if 0 ≤ n then (s[n.toNat]?).map fun b => (.int .u8 b.toNat, H) else none
    | _, _, _ => none
  | .extract t ix => match ρ t with
    | .tuple vs => (vs[ix]?).map (·, H)
    | _ => none
  | .call { callee := .builtin b, args, argTypes } => abuiltin P b argTypes (args.toList.map ρ) H
  | _ => none

/-- What a call of a function comes to. -/
abbrev Oracle := FuncId → List Value → Heap → Option (Value × Heap)

def aexec (P : Program) (C : Oracle) (E : Env) (H : Heap) (o : Oper) : Option (Value × Heap) :=
  match o.op with
  | .call { callee := .value f, args, .. } => match aeval E f with
    | .func (.func g) first captured => if g < P.funcs.size then C g (first.toList ++ args.toList.map (aeval E) ++ captured.toList) H else none
    | .func (.yield i) _ _ => C (P.funcs.size + i) (args.toList.map (aeval E)) H
    | _ => none
  | op => aop P (aeval E) H op

/-- Is the operation wanted? none: it can't be told. -/
def awant (ops : Array Oper) (o : Oper) (E : Env) : Option Bool :=
  match o.guard with
  | none => some true
  | some (j, want) => match (ops[j]?).bind (·.dst) with
    | some d => match E.get d with
      | .bool b => some (b == want)
      | .tuple vs => if vs.isEmpty then some false else none
      | _ => none
    | none => none

def runOps (P : Program) (C : Oracle) (ops : Array Oper) : List Oper → Env → Heap → Option (Env × Heap)
  | [], E, H => some (E, H)
  | o :: r, E, H => match awant ops o E with
    | some true => match aexec P C E H o with
      | some (v, H') => runOps P C ops r (E.put o.dst v) H'
      | none => none
    | some false => runOps P C ops r (E.put o.dst undef) H
    | none => none

/-- The states ahead of each operation, the last one behind all. -/
def trace (P : Program) (C : Oracle) (ops : Array Oper) : List Oper → Env → Heap → List (Env × Heap)
  | [], E, H => [(E, H)]
  | o :: r, E, H => (E, H) :: match awant ops o E with
    | some true => match aexec P C E H o with
      | some (v, H') => trace P C ops r (E.put o.dst v) H'
      | none => []
    | some false => trace P C ops r (E.put o.dst undef) H
    | none => []

inductive Cls where
  | pure | read | eff | bad
  deriving DecidableEq

def cls (P : Program) : Op → Cls
  | .move _ | .assign _ | .pick .. | .build .. | .nilCheck _ | .binOp .. | .unOp .. | .convert .. | .makeFunc .. | .fieldAddr .. | .field .. | .indexAddr .. | .index .. | .extract .. => .pure
  | .slice .. | .load .. | .lookup .. => .read
  | .alloc _ | .makeMap .. | .mapUpdate .. | .box .. | .buildSlice .. | .makeSlice .. | .store .. => .eff
  | .call { callee := .value _, .. } => .eff
  | .call { callee := .builtin b, argTypes, .. } => match b with
    | .len => match argTypes[0]?.bind P.underlying with
      | some (.map _ _) => .read
      | _ => .pure
    | .cap | .min | .max => .pure
    | .append | .copy | .clear | .delete => .eff
    | _ => .bad
  | _ => .bad

/-- Is operation i before j, by the region's edges? -/
def bef (B : Array Nat) (i j : Nat) : Bool := (B.getD j 0).testBit i

/-- It lays a block, and does nothing else. -/
def isFill (o : Oper) : Bool := o.guard.isNone && match o.op with
  | .alloc _ | .buildSlice .. | .makeSlice .. => true
  | _ => false
/-- The layings that may be done ahead of what the text has first: their blocks' numbers are kept free from the region's beginning on. -/
def fills (P : Program) (ops : Array Oper) : List Nat :=
  let B := Region.before ops
  (List.range ops.size).filter fun j => match ops[j]? with
    | some y => isFill y && (List.range j).any fun i => match ops[i]? with
      | some x => decide (cls P x.op = .eff) && !bef B i j
      | none => false
    | none => false
/-- May the region be gone through in the text's order? All that is loud stands in one order; no slot is written beside one who looks at it; reads beside what writes are told (confs). -/
def pairOk (P : Program) (F : List Nat) (B : Array Nat) (ops : Array Oper) (i j : Nat) : Bool :=
  match ops[i]?, ops[j]? with
  | some x, some y =>
    bef B i j || ((x.apart ops y) && (!(cls P x.op = .eff && cls P y.op = .eff) || F.contains j))
  | _, _ => false
def edgesOk (ops : Array Oper) : Bool :=
  (List.range ops.size).all fun j => match ops[j]? with
    | some o => o.after.all fun e => !Region.binds .any e || decide (e.on < j)
    | none => true
def drawOk (P : Program) (ops : Array Oper) : Bool :=
  let B := Region.before ops
  let F := fills P ops
  edgesOk ops &&
  (ops.toList.all fun o => cls P o.op ≠ .bad) &&
  (List.range ops.size).all fun j => (List.range j).all fun i => pairOk P F B ops i j
def confs (P : Program) (ops : Array Oper) : List (Nat × Nat) :=
  let B := Region.before ops
  (List.range ops.size).flatMap fun r => (List.range ops.size).filterMap fun e =>
    match ops[r]?, ops[e]? with
    | some x, some y => if cls P x.op = .read && cls P y.op = .eff && !bef B r e && !bef B e r then some (r, e) else none
    | _, _ => none

/-- What a laying lays: what names it, by its number; the block. -/
def fillB (P : Program) (ρ : Operand → Value) : Op → Option ((Nat → Value) × Blk)
  | .alloc t => match zeroOf P t with
    | some z => some (fun i => .pointer (some ⟨i, 0, none⟩), ⟨z.cells.toList, t, 1, false⟩)
    | none => none
  | .buildSlice t n ps => match abuildSlice P t n (ps.toList.map fun (i, x) => (i, ρ x)) [] with
    | some (_, [.blk b]) => some (fun i => .slice (some ⟨i, 0, none⟩) n n, b)
    | _ => none
  | .makeSlice t l c => match amakeSlice P t (ρ l) (ρ c) [] with
    | some (.slice _ n m, [.blk b]) => some (fun i => .slice (some ⟨i, 0, none⟩) n m, b)
    | _ => none
  | _ => none
def afill (P : Program) (ρ : Operand → Value) (i : Nat) (H : Heap) (op : Op) : Option (Value × Heap) :=
  match H[i]? with
  | some .hole => match fillB P ρ op with
    | some (mk, b) => some (mk i, H.set i (.blk b))
    | none => none
  | _ => none
/-- An operation of a region whose layings F have their numbers from base on. -/
def aexecI (P : Program) (C : Oracle) (F : List Nat) (base k : Nat) (E : Env) (H : Heap) (o : Oper) : Option (Value × Heap) :=
  if F.contains k then afill P (aeval E) (base + F.idxOf k) H o.op else aexec P C E H o
def runOpsI (P : Program) (C : Oracle) (F : List Nat) (base : Nat) (ops : Array Oper) : List Oper → Nat → Env → Heap → Option (Env × Heap)
  | [], _, E, H => some (E, H)
  | o :: r, k, E, H => match awant ops o E with
    | some true => match aexecI P C F base k E H o with
      | some (v, H') => runOpsI P C F base ops r (k + 1) (E.put o.dst v) H'
      | none => none
    | some false => runOpsI P C F base ops r (k + 1) (E.put o.dst undef) H
    | none => none
def traceI (P : Program) (C : Oracle) (F : List Nat) (base : Nat) (ops : Array Oper) : List Oper → Nat → Env → Heap → List (Env × Heap)
  | [], _, E, H => [(E, H)]
  | o :: r, k, E, H => (E, H) :: match awant ops o E with
    | some true => match aexecI P C F base k E H o with
      | some (v, H') => traceI P C F base ops r (k + 1) (E.put o.dst v) H'
      | none => []
    | some false => traceI P C F base ops r (k + 1) (E.put o.dst undef) H
    | none => []
/-- Numbers kept free. -/
def Heap.holes (H : Heap) (n : Nat) : Heap := H ++ List.replicate n .hole

def eqList (f : Value → Value → Bool) : List Value → List Value → Bool
  | [], [] => true
  | a :: x, b :: y => f a b && eqList f x y
  | _, _ => false
/-- Are two values the same? (false says nothing) -/
def eqV1 : Value → Value → Bool
  | .bool a, .bool b => a == b
  | .int k a, .int k' b => decide (k = k') && a == b
  | .string a, .string b => decide (a = b)
  | .pointer a, .pointer b => decide (a = b)
  | .slice a n c, .slice a' n' c' => decide (a = a') && n == n' && c == c'
  | .map a, .map b => a == b
  | .nilFunc, .nilFunc | .nilIface, .nilIface => true
  | _, _ => false
def eqV : Value → Value → Bool
  | .agg a, .agg b => eqList eqV1 a.toList b.toList
  | a, b => eqV1 a b

/-- A read told the same ahead of and behind what could have been done beside it. -/
def confOk (P : Program) (ops : Array Oper) (T : List (Env × Heap)) (c : Nat × Nat) : Bool :=
  match T[c.1]?, T[c.2]?, T[c.2 + 1]?, ops[c.1]?, ops[c.2]? with
  | some (E, H), some (E1, H1), some (_, H2), some x, some y =>
    match awant ops x E, awant ops y E1 with
    | some true, some true => match aop P (aeval E) H x.op, aop P (aeval E) H1 x.op, aop P (aeval E) H2 x.op with
      | some (u, _), some (u1, _), some (u2, _) => eqV u u1 && eqV u u2
      | _, _, _ => false
    | some _, some _ => true
    | _, _ => false
  | _, _, _, _, _ => false

def runRegion (P : Program) (C : Oracle) (ops : Array Oper) (draw : Bool) (E : Env) (H : Heap) : Option (Env × Heap) :=
  if draw then
    match fills P ops with
    | [] => match confs P ops with
      | [] => runOps P C ops ops.toList E H
      | cs => if cs.all (confOk P ops (trace P C ops ops.toList E H)) then runOps P C ops ops.toList E H else none
    | F => match confs P ops with
      | [] => runOpsI P C F H.length ops ops.toList 0 E (H.holes F.length)
      | cs => if cs.all (confOk P ops (traceI P C F H.length ops ops.toList 0 E (H.holes F.length))) then runOpsI P C F H.length ops ops.toList 0 E (H.holes F.length) else none
  else runOps P C ops ops.toList E H

inductive AExit where
  | normal
  | exit (id : Nat)
  | ret
  deriving DecidableEq

abbrev AOut := Option (AExit × List Value × Heap)

def iter (n : Nat) (step : List Value → Heap → AOut) : List Value → Heap → AOut :=
  match n with
  | 0 => fun _ _ => none
  | n + 1 => fun vs H => match step vs H with
    | some (.normal, vs', H') => iter n step vs' H'
    | r => r

/-- A loop over a function is over: the jump that a round has left is taken up. -/
def endL (vs : List Value) (o : Option Other) (H : Heap) : AOut :=
  match o with
  | some (.loop _ s) => match s with
    | .ready => some (.normal, vs, H)
    | .ret => some (.ret, vs, H)
    | .exit id => some (.exit id, vs, H)
    | .busy => none
  | _ => none

/-- The code, gone through: 'keep' are the slots that live from region to region, 'vs' what they hold. -/
def ev (P : Program) (C : Oracle) (keep : List Nat) (n : Nat) : Code → List Value → Heap → AOut
  | .skip => fun vs H => some (.normal, vs, H)
  | .label _ => fun vs H => some (.normal, vs, H)
  | .region _ ops draw => fun vs H => match runRegion P C ops draw (keep.zip vs) H with
    | some (E, H') => some (.normal, keep.map E.get, H')
    | none => none
  | .seq a b => fun vs H => match ev P C keep n a vs H with
    | some (.normal, vs', H') => ev P C keep n b vs' H'
    | r => r
  | .cond c a b => fun vs H => match aeval (keep.zip vs) c with
    | .bool t => if t then ev P C keep n a vs H else ev P C keep n b vs H
    | _ => none
  | .block id c => fun vs H => match ev P C keep n c vs H with
    | some (.exit id', vs', H') => if id' = id then some (.normal, vs', H') else some (.exit id', vs', H')
    | r => r
  | .loop c => iter n (ev P C keep n c)
  | .exit id => fun vs H => some (.exit id, vs, H)
  | .scope c => ev P C keep n c
  | .ret => fun vs H => some (.ret, vs, H)
  | .rangeFunc g ps x y => fun vs H => match aeval (keep.zip vs) g with
    | .func (.func gf) first captured =>
      if gf < P.funcs.size then
        match C gf (first.toList ++ [.func (.yield H.length) #[] #[]] ++ captured.toList) (H.newO (.loop ⟨keep, vs, ps, x, y⟩ .ready)) with
        | some (_, H') => endL vs (H'.oth H.length) (H'.kill H.length)
        | none => none
      else none
    | _ => none
  | .goto _ | .refuse _ => fun _ _ => none

/-- A round of a loop over a function. -/
def LState.of : AExit → LState
  | .normal => .ready
  | .ret => .ret
  | .exit id => .exit id
def AExit.on : AExit → Bool
  | .normal => true
  | _ => false
def endR (i : Nat) (e : AExit) (H : Heap) : Option (Value × Heap) :=
  match H.oth i with
  | some (.loop L .busy) => some (.bool e.on, H.putO i (.loop L (.of e)))
  | _ => none
def putPs (E : Env) (l : List (Nat × Value)) : Env := l.foldl (fun E p => E.put (some p.1) p.2) E
def around (P : Program) (C : Oracle) (n i : Nat) (args : List Value) (H : Heap) : Option (Value × Heap) :=
  match H.oth i with
  | some (.loop L .ready) =>
    if args.length = L.ps.size then
      match ev P C L.keep n L.assign (L.keep.map (putPs (L.keep.zip L.vs) (L.ps.toList.zip args)).get) H with
      | some (.normal, vs, H1) => match H1.oth i with
        | some (.loop L1 .ready) => match ev P C L.keep n L.body vs (H1.putO i (.loop L1 .busy)) with
          | some (e, _, H2) => endR i e H2
          | none => none
        | _ => none
      | _ => none
    else none
  | _ => none

def ares (P : Program) (fn : Func) (E : Env) (H : Heap) : Option Value :=
  (fn.results.toList.mapM fun (r : ResultVar) => match r with
    | .tmp t => some (E.get t)
    | .cell a t => ldVar P t (E.get a) H).map fun | [v] => v | vs => .tuple vs.toArray

/-- The slots that a function's code looks at in another region than it writes them in. -/
def outer (o : Oper) (ops : Array Oper) : List Nat := o.looksAt ops
def exposed (ops : Array Oper) : List Oper → List Nat → List Nat
  | [], _ => []
  | o :: r, w => (o.looksAt ops).filter (fun t => !w.contains t) ++ exposed ops r (match o.dst with | some d => d :: w | none => w)
def exposedC : Code → List Nat
  | .region _ ops _ => exposed ops ops.toList []
  | .seq a b => exposedC a ++ exposedC b
  | .cond (.tmp t) a b => t :: exposedC a ++ exposedC b
  | .cond _ a b => exposedC a ++ exposedC b
  | .block _ c | .loop c | .scope c => exposedC c
  | .rangeFunc (.tmp t) _ a b => t :: exposedC a ++ exposedC b
  | .rangeFunc _ _ a b => exposedC a ++ exposedC b
  | _ => []
def dedup : List Nat → List Nat → List Nat
  | [], acc => acc.reverse
  | x :: r, acc => if acc.contains x then dedup r acc else dedup r (x :: acc)
def keepOf (fn : Func) : List Nat :=
  dedup (List.range fn.params.size ++ (fn.results.toList.map fun (r : ResultVar) => match r with | .tmp t => t | .cell a _ => a) ++ match fn.body with | some c => exposedC c | none => []) []

/-- May the code be gone through so? Slots are there; drawn regions are as they have to be. -/
def okRegion (P : Program) (N : Nat) (ops : Array Oper) (draw : Bool) : Bool :=
  (ops.toList.all fun o => match o.dst with | some d => decide (d < N) | none => true) && (!draw || drawOk P ops)
def okCode (P : Program) (N : Nat) : Code → Bool
  | .region _ ops draw => okRegion P N ops draw
  | .seq a b => okCode P N a && okCode P N b
  | .cond _ a b => okCode P N a && okCode P N b
  | .block _ c | .loop c | .scope c => okCode P N c
  | .rangeFunc _ ps a b => (ps.toList.all fun p => decide (p < N)) && okCode P N a && okCode P N b
  | .skip | .label _ | .exit _ | .ret => true
  | _ => true

/-- bad: the functions that are not gone through, but told by G. -/
def acall (P : Program) (bad : List FuncId) (G : Oracle) : Nat → Oracle
  | 0 => fun _ _ _ => none
  | n + 1 => fun f args H => if bad.contains f then G f args H else match P.funcs[f]? with
    | some fn => match fn.body with
      | some c =>
        let keep := keepOf fn
        match ev P (acall P bad G n) keep n c (keep.map fun t => args.getD t undef) H with
        | some (.normal, vs, H') | some (.ret, vs, H') => (ares P fn (keep.zip vs) H').map (·, H')
        | _ => none
      | none => none
    | none => around P (acall P bad G n) n (f - P.funcs.size) args H

def okFunc (P : Program) (fn : Func) : Bool := match fn.body with
  | some c => !(fn.name == "runtime.NumGoroutine") && okCode P fn.ntmps c
  | none => true
/-- The program's functions, but the bad ones, may be gone through. -/
def okProg (P : Program) (bad : List FuncId) : Bool :=
  P.follows .mixedOrders && (List.range P.funcs.size).all fun f => bad.contains f || match P.funcs[f]? with | some fn => okFunc P fn | none => true

/-- The functions that may not be gone through. -/
def badOf (P : Program) : List FuncId := (List.range P.funcs.size).filter fun f => match P.funcs[f]? with | some fn => !okFunc P fn | none => false

end Go.Proofs.YtgakioiplkehgaaA.Am
