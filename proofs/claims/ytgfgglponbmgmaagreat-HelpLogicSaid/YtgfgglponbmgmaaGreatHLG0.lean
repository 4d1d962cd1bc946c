/- Texts of the proof of helpLogic_holds, put together by a small program of ours (names shortened, spaces taken out). No condition beyond the given statement. -/
import Derived.Orders
import Derived.Below
import Derived.Laws.BitsLemmas
set_option linter.unusedVariables false
set_option linter.unusedSimpArgs false
set_option linter.unnecessarySimpa false
noncomputable section
section
namespace Go.Proofs.YtgfgglponbmgmaaGreatA.Am
abbrev Gn:Value:=.complex .f64 0 0
def known:Value→Bool
 | .complex .. =>false
 |_=>true
structure eM where
 cells:List Value
 ty:TypeId
 es:Nat
 ro:Bool
 deriving Inhabited
structure SQ where
 keep:List Nat
 vs:List Value
 ps:Array Tmp
 assign:Code
 body:Code
inductive sH where
 |ready
 |busy
 |ret
 |exit (id:Nat)
inductive dA where
 |loop (L:SQ) (s:sH)
 |EE (k:IntKind) (es:List (Int×Value))
inductive Slot where
 |dead
 |hole
 |y7 (b:eM)
 |dT (o:dA)
abbrev aa:=List Slot
def aa.get (H:aa)(i:Nat):Option eM:=match H[i]? with|some (.y7 b)=>some b|_=>none
def aa.put (H:aa)(i:Nat)(b:eM):aa:=H.set i (.y7 b)
def aa.kill (H:aa)(i:Nat):aa:=H.set i .dead
def aa.new (H:aa)(b:eM):aa:=H++[.y7 b]
def aa.dT (H:aa)(i:Nat):Option dA:=match H[i]? with|some (.dT o)=>some o|_=>none
def aa.jA (H:aa)(i:Nat)(o:dA):aa:=H.set i (.dT o)
def aa.jZ (H:aa)(o:dA):aa:=H++[.dT o]
abbrev Env:=List (Nat×Value)
def Env.get:Env→Nat→Value
 | [],_=>Gn
 | (k,v)::r,t=>if t=k then v else Env.get r t
def Env.put (E:Env)(d:Option Nat)(v:Value):Env:=match d with|some d=>(d,v)::E|none=>E
def cp:Value→Bool
 | .bool _| .int _ _| .string _| .pointer none| .slice none 0 0| .map none| .nilFunc| .nilIface=>true
 |_=>false
def fJ:Value→Bool
 | .agg cs=>cs.toList.all cp
 |v=>cp v
def n3 (E:Env):Operand→Value
 | .tmp t=>E.get t
 | .const v=>if fJ v then v else Gn
 | .global _=>Gn
 | .func f=>.func (.func f) #[] #[]
def jB (P:Program)(t:TypeId):Option Nat:=(P.info? t).map (·.size)
def qK (P:Program)(t:TypeId):Option Nat:=(P.info? t).map (·.bytes)
def PV (P:Program)(t:TypeId):Option Bool:=(P.underlying t).map λ| .struct _=>true| .array _ _=>true|_=>false
def zeroOf (P:Program)(t:TypeId):Option Value:=(P.info? t).bind λi=>match i.zero with|some z=>if fJ z&&z.cells.size==i.size then some z else none|none=>none
def aR (H:aa)(i off n:Nat):Option (List Value):=
 match H.get i with
 |some b=>if off+n≤b.cells.length then some ((b.cells.drop off).take n) else none
 |none=>none
def aD:Value→Bool
 | .agg _| .tuple _| .complex .. =>false
 |_=>true
def dt (cs:List Value)(off:Nat):List Value→List Value
 | []=>cs
 |v::r=>dt (cs.set off v) (off+1) r
def bW (H:aa)(i off:Nat)(vs:List Value):Option aa:=
 match H.get i with
 |some b=>if !b.ro&&decide (off+vs.length≤b.cells.length)&&vs.all aD then some (H.put i {b with cells:=dt b.cells off vs}) else none
 |none=>none
def iY (P:Program)(t:TypeId)(p:Value)(H:aa):Option Value:=
 match p with
 | .pointer (some ⟨i,off,none⟩)=>
  match PV P t with
  |some true=>match jB P t with
   |some n=>match aR H i off n with
    |some vs=>some (.agg vs.toArray)
    |none=>none
   |none=>none
  |some false=>match H.get i with
   |some b=>b.cells[off]?
   |none=>none
  |none=>none
 |_=>none
def zY (P:Program)(t:TypeId)(p v:Value)(H:aa):Option aa:=
 match p with
 | .pointer (some ⟨i,off,none⟩)=>
  match jB P t with
  |some n=>if v.cells.size=n∧known v=true then bW H i off v.cells.toList else none
  |none=>none
 |_=>none
def aS (H:aa)(t:TypeId)(es:Nat)(cells:List Value):Value×aa:=
 (.pointer (some ⟨H.length,0,none⟩),H.new ⟨cells,t,es,false⟩)
def bK (z:List Value)(n:Nat):List Value:=(List.replicate n z).flatten
def apart (P:Program)(t:TypeId)(cs:Array Value)(off:Nat):Option Value:=
 match PV P t with
 |some true=>match jB P t with
  |some n=>some (.agg (cs.extract off (off+n)))
  |none=>none
 |some false=>cs[off]?
 |none=>none
def qL (a b:ByteArray):Bool:=Op.bytesLess a.toList b.toList
def eqFields (P:Program)(eq:TypeId→Value→Value→Option Bool)(xs ys:Array Value):List Field→Option Bool
 | []=>some true
 |f::r=>if f.name= "_" then eqFields P eq xs ys r else
  match apart P f.type xs f.offset,apart P f.type ys f.offset with
  |some u,some v=>match eq f.type u v with
   |some true=>eqFields P eq xs ys r
   |x=>x
  |_,_=>none
def iF (P:Program):Nat→TypeId→Value→Value→Option Bool
 |0,_,_,_=>none
 |d+1,t,x,y=>
  match P.underlying t,x,y with
  |some .bool,.bool a,.bool b=>some (a==b)
  |some (.int _),.int k a,.int k' b=>if k=k' then some (a==b) else none
  |some .string,.string a,.string b=>some (a==b)
  |some (.pointer _),.pointer none,.pointer b=>some b.isNone
  |some (.pointer _),.pointer (some _),.pointer none=>some false
  |some (.slice _),.slice none _ _,.slice b _ _=>some b.isNone
  |some (.slice _),.slice (some _) _ _,.slice none _ _=>some false
  |some (.func _ _ _),.nilFunc,.nilFunc=>some true
  |some (.func _ _ _),.nilFunc,.func _ _ _=>some false
  |some (.func _ _ _),.func _ _ _,.nilFunc=>some false
  |some (.struct fields),.agg xs,.agg ys=>
   if P.stoodInHeld t then none else
   eqFields P (iF P d) xs ys fields.toList
  |_,_,_=>none
def EJ (op:BinOp)(k:IntKind)(a b:Int):Option Value:=
 match op with
 | .add=>some (.int k (k.wrap (a+b)))
 | .sub=>some (.int k (k.wrap (a-b)))
 | .mul=>some (.int k (k.wrap (a*b)))
 | .quo=>if b=0 then none else some (.int k (k.wrap (a.tdiv b)))
 | .rem=>if b=0 then none else some (.int k (a.tmod b))
 | .and| .or| .xor| .andNot=>some (.int k (bits op k a b))
 | .eql=>some (.bool (a==b))
 | .neq=>some (.bool (a !=b))
 | .lss=>some (.bool (decide (a<b)))
 | .leq=>some (.bool (decide (a≤b)))
 | .gtr=>some (.bool (decide (a>b)))
 | .geq=>some (.bool (decide (a≥b)))
 |_=>none
def qk (op:BinOp)(k:IntKind)(a b:Int):Option Value:=
 if b<0 then none else
 match op with
 | .shl=>some (.int k (k.wrap (a*2^min b.toNat k.bits)))
 | .shr=>some (.int k (a.fdiv (2^min b.toNat k.bits)))
 |_=>none
def Ua (op:BinOp)(a b:ByteArray):Option Value:=
 match op with
 | .eql=>some (.bool (a.toList==b.toList))
 | .neq=>some (.bool !(a.toList==b.toList))
 | .lss=>some (.bool (qL a b))
 | .leq=>some (.bool (qL a b||a.toList==b.toList))
 | .gtr=>some (.bool !(qL a b||a.toList==b.toList))
 | .geq=>some (.bool !(qL a b))
 |_=>none
def ai (P:Program)(op:BinOp)(t:TypeId)(x y:Value):Option Value:=
 match x,y with
 | .int k a,.int k' b=>match op with
  | .shl| .shr=>qk op k a b
  |_=>if k=k' then EJ op k a b else none
 | .string a,.string b=>Ua op a b
 | .agg _,.agg _=>if P.eqGuardType P.depth t then none else match op with
  | .eql=>(iF P Op.maxDepth t x y).map .bool
  | .neq=>(iF P Op.maxDepth t x y).map λb=>.bool (!b)
  |_=>none
 | .bool _,.bool _| .pointer _,.pointer _| .slice _ _ _,.slice _ _ _| .nilFunc,.nilFunc| .nilFunc,.func _ _ _| .func _ _ _,.nilFunc=>match op with
  | .eql=>(iF P Op.maxDepth t x y).map .bool
  | .neq=>(iF P Op.maxDepth t x y).map λb=>.bool (!b)
  |_=>none
 |_,_=>none
def iG (op:UnOp)(x:Value):Option Value:=
 match op,x with
 | .neg,.int k n=>some (.int k (k.wrap (0-n)))
 | .not,.bool b=>some (.bool !b)
 |_,_=>none
def cF (H:aa)(size n:Nat):Value→Option (List Value)
 | .slice (some ⟨i,off,none⟩) _ _=>if n=0 then some [] else aR H i off (n*size)
 | .slice none _ _=>if n=0 then some [] else none
 |_=>none
def IK (P:Program)(H:aa)(qM:TypeId)(size bytes:Nat)(z x:Value):Option (Nat×List Value):=
 match P.underlying qM,x with
 |some (.int _),.int .i64 l=>if 0≤l∧l≤4294967296∧bytes≤4096 then some (l.toNat,bK z.cells.toList l.toNat) else none
 |some (.slice _),.slice _ n _=>(cF H size n x).map λcs=>(n,cs)
 |_,_=>none
def oW (P:Program)(argTypes:Array TypeId)(s x:Value)(H:aa):Option (Value×aa):=
 match argTypes[0]?,argTypes[1]? with
 |some vK,some qM=>
  match P.underlying vK,s with
  |some (.slice elem),.slice base sLen sCap=>
   match jB P elem,qK P elem,zeroOf P elem with
   |some size,some bytes,some z=>
    match IK P H qM size bytes z x with
    |some (n,new)=>
     let need:=sLen+n
     if need≤sCap then
      match base with
      |none=>some (.slice none need sCap,H)
      |some ⟨i,off,none⟩=>if n=0 then some (.slice base need sCap,H) else
       match H.get i with
       |some b=>if b.es=size then(bW H i (off+sLen*size) new).map λH'=>(.slice base need sCap,H') else none
       |none=>none
      |_=>none
     else if need≤4294967296&&bytes≤4096&&size≠0 then
      match base with
      |none=>if sLen=0 then some (.slice (some ⟨H.length,0,none⟩) need need,H.new ⟨new,elem,size,false⟩) else none
      |some ⟨i,off,none⟩=>
       match H.get i with
       |some b=>
        if !b.ro&&b.es==size&&off+sCap*size==b.cells.length then
         match aR H i off (sLen*size) with
         |some old=>some (.slice (some ⟨H.length,0,none⟩) need need,(H.kill i).new ⟨old++new,elem,size,false⟩)
         |none=>none
        else none
       |none=>none
      |_=>none
     else none
    |none=>none
   |_,_,_=>none
  |_,_=>none
 |_,_=>none
def zZ (P:Program)(argTypes:Array TypeId)(dst src:Value)(H:aa):Option (Value×aa):=
 match argTypes[0]? with
 |some SR=>
  match P.underlying SR,dst,src with
  |some (.slice elem),.slice base C4 _,.slice _ sLen _=>
   match jB P elem with
   |some size=>
    let n:=min sLen C4
    match cF H size n src with
    |some cs=>
     match base with
     |none=>some (.int .i64 n,H)
     |some ⟨i,off,none⟩=>if n=0 then some (.int .i64 n,H) else(bW H i off cs).map λH'=>(.int .i64 n,H')
     |_=>none
    |none=>none
   |none=>none
  |_,_,_=>none
 |none=>none
def mmk (q:IntKind)(H:aa):Option (Value×aa):=some (.map (some H.length),H.jZ (.EE q []))
def C5 (q:IntKind)(z:Value)(ok:Bool)(m x:Value)(H:aa):Option Value:=
 match m,x with
 | .map (some i),.int q1 n=>match H.dT i with
  |some (.EE q2 es)=>if q=q1∧q1=q2 then
    match es.find? (λe=>e.1==n) with
    |some e=>some (if ok then .tuple #[e.2,.bool true] else e.2)
    |none=>some (if ok then .tuple #[z,.bool false] else z)
   else none
  |_=>none
 |_,_=>none
def Md (es:List (Int×Value))(n:Int)(v:Value):List (Int×Value):=
 match es.findIdx? (λe=>e.1==n) with
 |some j=>es.set j (n,v)
 |none=>es++[(n,v)]
def Me (es:List (Int×Value))(n:Int):List (Int×Value):=
 match es.findIdx? (λe=>e.1==n) with
 |some j=>es.eraseIdx j
 |none=>es
def Mf (q:IntKind)(m x v:Value)(H:aa):Option (Value×aa):=
 match m,x with
 | .map (some i),.int q1 n=>match H.dT i with
  |some (.EE q2 es)=>if q=q1∧q1=q2 then some (undef,H.jA i (.EE q2 (Md es n v))) else none
  |_=>none
 |_,_=>none
def Mg (q:IntKind)(m x:Value)(H:aa):Option (Value×aa):=
 match m,x with
 | .map (some i),.int q1 n=>match H.dT i with
  |some (.EE q2 es)=>if q=q1∧q1=q2 then some (undef,H.jA i (.EE q2 (Me es n))) else none
  |_=>none
 |_,_=>none
def IL (m:Value)(H:aa):Option Value:=
 match m with
 | .map (some i)=>match H.dT i with
  |some (.EE _ es)=>some (.int .i64 es.length)
  |_=>none
 |_=>none
def mapOf (P:Program)(t:TypeId):Option (IntKind×Value):=
 match P.underlying t with
 |some (.map k e)=>match P.underlying k,zeroOf P e with
  |some (.int q),some z=>some (q,z)
  |_,_=>none
 |_=>none
def qN (P:Program)(t:TypeId)(H:aa):Option (Value×aa):=match mapOf P t with|some (q,_)=>mmk q H|none=>none
def oX (P:Program)(t:TypeId)(m x:Value)(ok:Bool)(H:aa):Option Value:=match mapOf P t with|some (q,z)=>C5 q z ok m x H|none=>none
def mI (P:Program)(t:TypeId)(m x v:Value)(H:aa):Option (Value×aa):=match mapOf P t with|some (q,_)=>Mf q m x v H|none=>none
def uX (P:Program)(argTypes:Array TypeId)(m x:Value)(H:aa):Option (Value×aa):=match argTypes[0]?.bind (mapOf P) with|some (q,_)=>Mg q m x H|none=>none
def sI (P:Program)(argTypes:Array TypeId)(x:Value)(H:aa):Option (Value×aa):=
 match argTypes[0]?.bind P.underlying,x with
 |some (.slice elem),.slice base n _=>
  match zeroOf P elem with
  |some z=>
   match base with
   |none=>some (undef,H)
   |some ⟨i,off,none⟩=>if n=0 then some (undef,H) else(bW H i off (bK z.cells.toList n)).map λH'=>(undef,H')
   |_=>none
  |none=>none
 |_,_=>none
def Ba (P:Program)(H:aa)(argTypes:Array TypeId)(x:Value):Option Value:=
 match argTypes[0]? with
 |some t=>
  match P.underlying t,x with
  |some (.map _ _),x=>IL x H
  |some .string,.string s=>some (.int .i64 s.size)
  |some (.array n _),_=>some (.int .i64 n)
  |some (.slice _),.slice _ n _=>some (.int .i64 n)
  |_,_=>none
 |none=>none
def jK (P:Program)(b:Builtin)(argTypes:Array TypeId)(args:List Value)(H:aa):Option (Value×aa):=
 match b,args with
 | .append,[s,x]=>oW P argTypes s x H
 | .copy,[d,s]=>zZ P argTypes d s H
 | .len,[x]=>(Ba P H argTypes x).map (·,H)
 | .clear,[x]=>sI P argTypes x H
 | .delete,[m,x]=>uX P argTypes m x H
 | .cap,[.slice none _ n]=>match argTypes[0]?.bind P.underlying with|some (.slice _)=>some (.int .i64 n,H)|_=>none
 | .min,[.int k a,.int k' b]=>if k=k' then some (.int k (if b<a then b else a),H) else none
 | .max,[.int k a,.int k' b]=>if k=k' then some (.int k (if b>a then b else a),H) else none
 |_,_=>none
def ql:Value→Option Int
 | .int _ n=>some n
 |_=>none
def db (d:Int):Option Value→Option Int
 |some v=>ql v
 |none=>some d
def og (P:Program)(H:aa)(t:TypeId)(x:Value)(lo hi:Option Value):Option Value:=
 match P.underlying t,x with
 |some (.slice elem),.slice a len cap=>
  match jB P elem with
  |some size=>
   match db len hi,db 0 lo with
   |some h,some l=>if 0≤h∧h≤cap∧0≤l∧l≤h then
     match a with
     |none=>some (.slice none 0 0)
     |some ⟨i,off,none⟩=>match H.get i with
      |some b=>if b.es=size then some (.slice (some ⟨i,off+l.toNat*size,none⟩) (h.toNat-l.toNat) (cap-l.toNat)) else if cap=0 then some (.slice (some ⟨i,off,none⟩) 0 0) else none
      |none=>if cap=0 then some (.slice (some ⟨i,off,none⟩) 0 0) else none
     |_=>none
    else none
   |_,_=>none
  |none=>none
 |_,_=>none
def oY (P:Program)(H:aa)(t:TypeId)(x:Value)(lo hi:Option Value)(mx:Value):Option Value:=
 match x,hi,mx with
 | .slice a _ cap,some _,.int _ m=>if 0≤m∧m≤cap then og P H t (.slice a 0 m.toNat) lo hi else none
 |_,_,_=>none
def fW (P:Program)(t:TypeId)(len cap:Value)(H:aa):Option (Value×aa):=
 match P.underlying t,len,cap with
 |some (.slice elem),.int _ l,.int _ c=>
  match jB P elem,qK P elem,zeroOf P elem with
  |some size,some bytes,some z=>
   if 0≤l∧l≤c∧c≤4294967296∧bytes≤4096∧size≠0 then
    some (.slice (some ⟨H.length,0,none⟩) l.toNat c.toNat,H.new ⟨bK z.cells.toList c.toNat,elem,size,false⟩)
   else none
  |_,_,_=>none
 |_,_,_=>none
def placesOf (P:Program)(fields:Array Field):Option (Array (Nat×Nat)):=
 (fields.toList.mapM λf=>(jB P f.type).map λn=>(f.offset,n)).map (·.toArray)
def aF (P:Program)(t:TypeId)(parts:List (Nat×Value)):Option Value:=
 if !(parts.all λp=>known p.2) then none else
 match zeroOf P t,P.underlying t with
 |some z,some (.struct fields)=>
  match placesOf P fields with
  |some pl=>(Instr.fill (pl[·]?) z.cells parts).map .agg
  |none=>none
 |some z,some (.array _ elem)=>
  match jB P elem with
  |some size=>(Instr.fill (λi=>some (i*size,size)) z.cells parts).map .agg
  |none=>none
 |_,_=>none
def ay (P:Program)(t:TypeId)(len:Nat)(parts:List (Nat×Value))(H:aa):Option (Value×aa):=
 if !(parts.all λp=>p.2.cells.toList.all aD) then none else
 match P.underlying t with
 |some (.slice elem)=>
  match jB P elem,zeroOf P elem with
  |some size,some z=>
   if len*size≤16777216&&size≠0 then
    match Instr.fill (λi=>some (i*size,size)) (bK z.cells.toList len).toArray parts with
    |some cs=>some (.slice (some ⟨H.length,0,none⟩) len len,H.new ⟨cs.toList,elem,size,false⟩)
    |none=>none
   else none
  |_,_=>none
 |_=>none
def gO (P:Program)(ρ:Operand→Value)(H:aa):Op→Option (Value×aa)
 | .move x| .assign x=>some (ρ x,H)
 | .pick c a b=>match ρ c with
  | .bool t=>some (if t then ρ a else ρ b,H)
  |_=>none
 | .alloc t=>match zeroOf P t with
  |some z=>some (aS H t 1 z.cells.toList)
  |none=>none
 | .box t x=>if(ρ x).cells.toList.all aD then some (aS H t 1 (ρ x).cells.toList) else none
 | .build t ps=>(aF P t (ps.toList.map λ(i,x)=>(i,ρ x))).map (·,H)
 | .buildSlice t n ps=>ay P t n (ps.toList.map λ(i,x)=>(i,ρ x)) H
 | .load t a=>(iY P t (ρ a) H).map (·,H)
 | .store t a x=>(zY P t (ρ a) (ρ x) H).map (undef,·)
 | .nilCheck x=>match ρ x with
  | .pointer (some a)=>some (.pointer (some a),H)
  | .func (.func g) f c=>some (.func (.func g) f c,H)
  |_=>none
 | .binOp op t x y _=>(ai P op t (ρ x) (ρ y)).map (·,H)
 | .unOp op _ x=>(iG op (ρ x)).map (·,H)
 | .convert src dst x=>match P.underlying src,P.underlying dst,ρ x with
  |some _,some (.int k),.int _ n=>some (.int k (k.wrap n),H)
  |_,_,_=>none
 | .makeFunc (.func g) first captured=>some (.func (.func g) (first.map ρ) (captured.map ρ),H)
 | .makeSlice t l c=>fW P t (ρ l) (ρ c) H
 | .slice t x lo hi none=>(og P H t (ρ x) (lo.map ρ) (hi.map ρ)).map (·,H)
 | .slice t x lo hi (some m)=>(oY P H t (ρ x) (lo.map ρ) (hi.map ρ) (ρ m)).map (·,H)
 | .makeMap t none=>qN P t H
 | .lookup t m x ok=>(oX P t (ρ m) (ρ x) ok H).map (·,H)
 | .mapUpdate t m x v=>mI P t (ρ m) (ρ x) (ρ v) H
 | .fieldAddr s x f=>match P.underlying s,ρ x with
  |some (.struct fields),.pointer (some ⟨i,off,none⟩)=>match fields[f]? with
   |some fd=>match jB P fd.type with
    |some 0=>none
    |some _=>some (.pointer (some ⟨i,off+fd.offset,none⟩),H)
    |none=>none
   |none=>none
  |_,_=>none
 | .field s x f=>match P.underlying s,ρ x with
  |some (.struct fields),.agg cs=>match fields[f]? with
   |some fd=>(apart P fd.type cs fd.offset).map (·,H)
   |none=>none
  |_,_=>none
 | .indexAddr t x ix=>match P.underlying t,ρ x,ρ ix with
  |some (.slice elem),.slice (some ⟨i,off,none⟩) len _,.int _ n=>match jB P elem with
   |some size=>if 0≤n∧n<len then some (.pointer (some ⟨i,off+n.toNat*size,none⟩),H) else none
   |none=>none
  |some (.array len elem),.pointer (some ⟨i,off,none⟩),.int _ n=>match jB P elem with
   |some size=>if 0≤n∧n<len then some (.pointer (some ⟨i,off+n.toNat*size,none⟩),H) else none
   |none=>none
  |_,_,_=>none
 | .index t x ix=>match P.underlying t,ρ x,ρ ix with
  |some (.array len elem),.agg cs,.int _ n=>match jB P elem with
   |some size=>if 0≤n∧n<len then(apart P elem cs (n.toNat*size)).map (·,H) else none
   |none=>none
  |some .string,.string s,.int _ n=>if 0≤n then(s[n.toNat]?).map λb=>(.int .u8 b.toNat,H) else none
  |_,_,_=>none
 | .extract t ix=>match ρ t with
  | .tuple vs=>(vs[ix]?).map (·,H)
  |_=>none
 | .call {callee:=.builtin b,args,argTypes}=>jK P b argTypes (args.toList.map ρ) H
 |_=>none
abbrev ae:=FuncId→List Value→aa→Option (Value×aa)
def gk (P:Program)(C:ae)(E:Env)(H:aa)(o:Oper):Option (Value×aa):=
 match o.op with
 | .call {callee:=.value f,args, .. }=>match n3 E f with
  | .func (.func g) first captured=>if g<P.funcs.size then C g (first.toList++args.toList.map (n3 E)++captured.toList) H else none
  | .func (.yield i) _ _=>C (P.funcs.size+i) (args.toList.map (n3 E)) H
  |_=>none
 |op=>gO P (n3 E) H op
def dB (ops:Array Oper)(o:Oper)(E:Env):Option Bool:=
 match o.guard with
 |none=>some true
 |some (j,want)=>match (ops[j]?).bind (·.dst) with
  |some d=>match E.get d with
   | .bool b=>some (b==want)
   | .tuple vs=>if vs.isEmpty then some false else none
   |_=>none
  |none=>none
def eC (P:Program)(C:ae)(ops:Array Oper):List Oper→Env→aa→Option (Env×aa)
 | [],E,H=>some (E,H)
 |o::r,E,H=>match dB ops o E with
  |some true=>match gk P C E H o with
   |some (v,H')=>eC P C ops r (E.put o.dst v) H'
   |none=>none
  |some false=>eC P C ops r (E.put o.dst undef) H
  |none=>none
def trace (P:Program)(C:ae)(ops:Array Oper):List Oper→Env→aa→List (Env×aa)
 | [],E,H=>[(E,H)]
 |o::r,E,H=>(E,H)::match dB ops o E with
  |some true=>match gk P C E H o with
   |some (v,H')=>trace P C ops r (E.put o.dst v) H'
   |none=>[]
  |some false=>trace P C ops r (E.put o.dst undef) H
  |none=>[]
inductive Cls where
 |pure|read|y8|bad
 deriving DecidableEq
def cls (P:Program):Op→Cls
 | .move _| .assign _| .pick .. | .build .. | .nilCheck _| .binOp .. | .unOp .. | .convert .. | .makeFunc .. | .fieldAddr .. | .field .. | .indexAddr .. | .index .. | .extract .. =>.pure
 | .slice .. | .load .. | .lookup .. =>.read
 | .alloc _| .makeMap .. | .mapUpdate .. | .box .. | .buildSlice .. | .makeSlice .. | .store .. =>.y8
 | .call {callee:=.value _, .. }=>.y8
 | .call {callee:=.builtin b,argTypes, .. }=>match b with
  | .len=>match argTypes[0]?.bind P.underlying with
   |some (.map _ _)=>.read
   |_=>.pure
  | .cap| .min| .max=>.pure
  | .append| .copy| .clear| .delete=>.y8
  |_=>.bad
 |_=>.bad
def uY (B:Array Nat)(i j:Nat):Bool:=(B.getD j 0).testBit i
def sJ (o:Oper):Bool:=o.guard.isNone&&match o.op with
 | .alloc _| .buildSlice .. | .makeSlice .. =>true
 |_=>false
def lG (P:Program)(ops:Array Oper):List Nat:=
 let B:=Region.before ops
 (List.range ops.size).filter λj=>match ops[j]? with
  |some y=>sJ y&&(List.range j).any λi=>match ops[i]? with
   |some x=>decide (cls P x.op= .y8)&& !uY B i j
   |none=>false
  |none=>false
def Bb (P:Program)(F:List Nat)(B:Array Nat)(ops:Array Oper)(i j:Nat):Bool:=
 match ops[i]?,ops[j]? with
 |some x,some y=>
  uY B i j||((x.apart ops y)&&(!(cls P x.op= .y8&&cls P y.op= .y8)||F.contains j))
 |_,_=>false
def uZ (ops:Array Oper):Bool:=
 (List.range ops.size).all λj=>match ops[j]? with
  |some o=>o.after.all λe=> !Region.binds .any e||decide (e.on<j)
  |none=>true
def EK (P:Program)(ops:Array Oper):Bool:=
 let B:=Region.before ops
 let F:=lG P ops
 uZ ops&&
 (ops.toList.all λo=>cls P o.op≠ .bad)&&
 (List.range ops.size).all λj=>(List.range j).all λi=>Bb P F B ops i j
def mq (P:Program)(ops:Array Oper):List (Nat×Nat):=
 let B:=Region.before ops
 (List.range ops.size).flatMap λr=>(List.range ops.size).filterMap λe=>
  match ops[r]?,ops[e]? with
  |some x,some y=>if cls P x.op= .read&&cls P y.op= .y8&& !uY B r e&& !uY B e r then some (r,e) else none
  |_,_=>none
def z5 (P:Program)(ρ:Operand→Value):Op→Option ((Nat→Value)×eM)
 | .alloc t=>match zeroOf P t with
  |some z=>some (λi=>.pointer (some ⟨i,0,none⟩),⟨z.cells.toList,t,1,false⟩)
  |none=>none
 | .buildSlice t n ps=>match ay P t n (ps.toList.map λ(i,x)=>(i,ρ x)) [] with
  |some (_,[.y7 b])=>some (λi=>.slice (some ⟨i,0,none⟩) n n,b)
  |_=>none
 | .makeSlice t l c=>match fW P t (ρ l) (ρ c) [] with
  |some (.slice _ n m,[.y7 b])=>some (λi=>.slice (some ⟨i,0,none⟩) n m,b)
  |_=>none
 |_=>none
def pT (P:Program)(ρ:Operand→Value)(i:Nat)(H:aa)(op:Op):Option (Value×aa):=
 match H[i]? with
 |some .hole=>match z5 P ρ op with
  |some (mk,b)=>some (mk i,H.set i (.y7 b))
  |none=>none
 |_=>none
def du (P:Program)(C:ae)(F:List Nat)(base k:Nat)(E:Env)(H:aa)(o:Oper):Option (Value×aa):=
 if F.contains k then pT P (n3 E) (base+F.idxOf k) H o.op else gk P C E H o
def cV (P:Program)(C:ae)(F:List Nat)(base:Nat)(ops:Array Oper):List Oper→Nat→Env→aa→Option (Env×aa)
 | [],_,E,H=>some (E,H)
 |o::r,k,E,H=>match dB ops o E with
  |some true=>match du P C F base k E H o with
   |some (v,H')=>cV P C F base ops r (k+1) (E.put o.dst v) H'
   |none=>none
  |some false=>cV P C F base ops r (k+1) (E.put o.dst undef) H
  |none=>none
def ef (P:Program)(C:ae)(F:List Nat)(base:Nat)(ops:Array Oper):List Oper→Nat→Env→aa→List (Env×aa)
 | [],_,E,H=>[(E,H)]
 |o::r,k,E,H=>(E,H)::match dB ops o E with
  |some true=>match du P C F base k E H o with
   |some (v,H')=>ef P C F base ops r (k+1) (E.put o.dst v) H'
   |none=>[]
  |some false=>ef P C F base ops r (k+1) (E.put o.dst undef) H
  |none=>[]
def aa.cB (H:aa)(n:Nat):aa:=H++List.replicate n .hole
def sK (f:Value→Value→Bool):List Value→List Value→Bool
 | [],[]=>true
 |a::x,b::y=>f a b&&sK f x y
 |_,_=>false
def Bc:Value→Value→Bool
 | .bool a,.bool b=>a==b
 | .int k a,.int k' b=>decide (k=k')&&a==b
 | .string a,.string b=>decide (a=b)
 | .pointer a,.pointer b=>decide (a=b)
 | .slice a n c,.slice a' n' c'=>decide (a=a')&&n==n'&&c==c'
 | .map a,.map b=>a==b
 | .nilFunc,.nilFunc| .nilIface,.nilIface=>true
 |_,_=>false
def pG:Value→Value→Bool
 | .agg a,.agg b=>sK Bc a.toList b.toList
 |a,b=>Bc a b
def iH (P:Program)(ops:Array Oper)(T:List (Env×aa))(c:Nat×Nat):Bool:=
 match T[c.1]?,T[c.2]?,T[c.2+1]?,ops[c.1]?,ops[c.2]? with
 |some (E,H),some (E1,H1),some (_,H2),some x,some y=>
  match dB ops x E,dB ops y E1 with
  |some true,some true=>match gO P (n3 E) H x.op,gO P (n3 E) H1 x.op,gO P (n3 E) H2 x.op with
   |some (u,_),some (u1,_),some (u2,_)=>pG u u1&&pG u u2
   |_,_,_=>false
  |some _,some _=>true
  |_,_=>false
 |_,_,_,_,_=>false
def eV (P:Program)(C:ae)(ops:Array Oper)(draw:Bool)(E:Env)(H:aa):Option (Env×aa):=
 if draw then
  match lG P ops with
  | []=>match mq P ops with
   | []=>eC P C ops ops.toList E H
   |cs=>if cs.all (iH P ops (trace P C ops ops.toList E H)) then eC P C ops ops.toList E H else none
  |F=>match mq P ops with
   | []=>cV P C F H.length ops ops.toList 0 E (H.cB F.length)
   |cs=>if cs.all (iH P ops (ef P C F H.length ops ops.toList 0 E (H.cB F.length))) then cV P C F H.length ops ops.toList 0 E (H.cB F.length) else none
 else eC P C ops ops.toList E H
inductive bE where
 |normal
 |exit (id:Nat)
 |ret
 deriving DecidableEq
abbrev bn:=Option (bE×List Value×aa)
def iter (n:Nat)(step:List Value→aa→bn):List Value→aa→bn:=
 match n with
 |0=>λ_ _=>none
 |n+1=>λvs H=>match step vs H with
  |some (.normal,iU,H')=>iter n step iU H'
  |r=>r
def zi (vs:List Value)(o:Option dA)(H:aa):bn:=
 match o with
 |some (.loop _ s)=>match s with
  | .ready=>some (.normal,vs,H)
  | .ret=>some (.ret,vs,H)
  | .exit id=>some (.exit id,vs,H)
  | .busy=>none
 |_=>none
def ev (P:Program)(C:ae)(keep:List Nat)(n:Nat):Code→List Value→aa→bn
 | .skip=>λvs H=>some (.normal,vs,H)
 | .label _=>λvs H=>some (.normal,vs,H)
 | .region _ ops draw=>λvs H=>match eV P C ops draw (keep.zip vs) H with
  |some (E,H')=>some (.normal,keep.map E.get,H')
  |none=>none
 | .seq a b=>λvs H=>match ev P C keep n a vs H with
  |some (.normal,iU,H')=>ev P C keep n b iU H'
  |r=>r
 | .cond c a b=>λvs H=>match n3 (keep.zip vs) c with
  | .bool t=>if t then ev P C keep n a vs H else ev P C keep n b vs H
  |_=>none
 | .block id c=>λvs H=>match ev P C keep n c vs H with
  |some (.exit YF,iU,H')=>if YF=id then some (.normal,iU,H') else some (.exit YF,iU,H')
  |r=>r
 | .loop c=>iter n (ev P C keep n c)
 | .exit id=>λvs H=>some (.exit id,vs,H)
 | .scope c=>ev P C keep n c
 | .ret=>λvs H=>some (.ret,vs,H)
 | .rangeFunc g ps x y=>λvs H=>match n3 (keep.zip vs) g with
  | .func (.func gf) first captured=>
   if gf<P.funcs.size then
    match C gf (first.toList++[.func (.yield H.length) #[] #[]]++captured.toList) (H.jZ (.loop ⟨keep,vs,ps,x,y⟩ .ready)) with
    |some (_,H')=>zi vs (H'.dT H.length) (H'.kill H.length)
    |none=>none
   else none
  |_=>none
 | .goto _| .refuse _=>λ_ _=>none
def sH.of:bE→sH
 | .normal=>.ready
 | .ret=>.ret
 | .exit id=>.exit id
def bE.on:bE→Bool
 | .normal=>true
 |_=>false
def PW (i:Nat)(e:bE)(H:aa):Option (Value×aa):=
 match H.dT i with
 |some (.loop L .busy)=>some (.bool e.on,H.jA i (.loop L (.of e)))
 |_=>none
def Gp (E:Env)(l:List (Nat×Value)):Env:=l.foldl (λE p=>E.put (some p.1) p.2) E
def qm (P:Program)(C:ae)(n i:Nat)(args:List Value)(H:aa):Option (Value×aa):=
 match H.dT i with
 |some (.loop L .ready)=>
  if args.length=L.ps.size then
   match ev P C L.keep n L.assign (L.keep.map (Gp (L.keep.zip L.vs) (L.ps.toList.zip args)).get) H with
   |some (.normal,vs,H1)=>match H1.dT i with
    |some (.loop L1 .ready)=>match ev P C L.keep n L.body vs (H1.jA i (.loop L1 .busy)) with
     |some (e,_,H2)=>PW i e H2
     |none=>none
    |_=>none
   |_=>none
  else none
 |_=>none
def Bd (P:Program)(fn:Func)(E:Env)(H:aa):Option Value:=
 (fn.results.toList.mapM λ(r:ResultVar)=>match r with
  | .tmp t=>some (E.get t)
  | .cell a t=>iY P t (E.get a) H).map λ| [v]=>v|vs=>.tuple vs.toArray
def Gq (ops:Array Oper):List Oper→List Nat→List Nat
 | [],_=>[]
 |o::r,w=>(o.looksAt ops).filter (λt=> !w.contains t)++Gq ops r (match o.dst with|some d=>d::w|none=>w)
def gn:Code→List Nat
 | .region _ ops _=>Gq ops ops.toList []
 | .seq a b=>gn a++gn b
 | .cond (.tmp t) a b=>t::gn a++gn b
 | .cond _ a b=>gn a++gn b
 | .block _ c| .loop c| .scope c=>gn c
 | .rangeFunc (.tmp t) _ a b=>t::gn a++gn b
 | .rangeFunc _ _ a b=>gn a++gn b
 |_=>[]
def dedup:List Nat→List Nat→List Nat
 | [],acc=>acc.reverse
 |x::r,acc=>if acc.contains x then dedup r acc else dedup r (x::acc)
def mJ (fn:Func):List Nat:=
 dedup (List.range fn.params.size++(fn.results.toList.map λ(r:ResultVar)=>match r with| .tmp t=>t| .cell a _=>a)++match fn.body with|some c=>gn c|none=>[]) []
def oh (P:Program)(N:Nat)(ops:Array Oper)(draw:Bool):Bool:=
 (ops.toList.all λo=>match o.dst with|some d=>decide (d<N)|none=>true)&&(!draw||EK P ops)
def iI (P:Program)(N:Nat):Code→Bool
 | .region _ ops draw=>oh P N ops draw
 | .seq a b=>iI P N a&&iI P N b
 | .cond _ a b=>iI P N a&&iI P N b
 | .block _ c| .loop c| .scope c=>iI P N c
 | .rangeFunc _ ps a b=>(ps.toList.all λp=>decide (p<N))&&iI P N a&&iI P N b
 | .skip| .label _| .exit _| .ret=>true
 |_=>true
def gr (P:Program)(bad:List FuncId)(G:ae):Nat→ae
 |0=>λ_ _ _=>none
 |n+1=>λf args H=>if bad.contains f then G f args H else match P.funcs[f]? with
  |some fn=>match fn.body with
   |some c=>
    let keep:=mJ fn
    match ev P (gr P bad G n) keep n c (keep.map λt=>args.getD t undef) H with
    |some (.normal,vs,H')|some (.ret,vs,H')=>(Bd P fn (keep.zip vs) H').map (·,H')
    |_=>none
   |none=>none
  |none=>qm P (gr P bad G n) n (f-P.funcs.size) args H
def EL (P:Program)(fn:Func):Bool:=match fn.body with
 |some c=> !(fn.name== "runtime.NumGoroutine")&&iI P fn.ntmps c
 |none=>true
def mK (P:Program)(bad:List FuncId):Bool:=
 P.follows .mixedOrders&&(List.range P.funcs.size).all λf=>bad.contains f||match P.funcs[f]? with|some fn=>EL P fn|none=>true
def oj (P:Program):List FuncId:=(List.range P.funcs.size).filter λf=>match P.funcs[f]? with|some fn=> !EL P fn|none=>false
end Go.Proofs.YtgfgglponbmgmaaGreatA.Am
end
