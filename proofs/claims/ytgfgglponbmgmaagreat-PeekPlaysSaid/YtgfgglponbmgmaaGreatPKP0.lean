/- Texts of the proof of peekPlays_holds, put together by a small program of ours (names shortened, spaces taken out). No condition beyond the given statement. -/
import Derived.Orders
import Derived.Below
import Derived.Laws.BitsLemmas
set_option linter.unusedVariables false
set_option linter.unusedSimpArgs false
set_option linter.unnecessarySimpa false
noncomputable section
section
namespace Go.Proofs.YtgfgglponbmgmaaGreatA.Am
abbrev GY:Value:=.complex .f64 0 0
def known:Value→Bool
 | .complex .. =>false
 |_=>true
structure eU where
 cells:List Value
 ty:TypeId
 es:Nat
 ro:Bool
 deriving Inhabited
structure TS where
 keep:List Nat
 vs:List Value
 ps:Array Tmp
 assign:Code
 body:Code
inductive sP where
 |ready
 |busy
 |ret
 |exit (id:Nat)
inductive dB where
 |loop (L:TS) (s:sP)
 |E8 (k:IntKind) (es:List (Int×Value))
inductive Slot where
 |dead
 |hole
 |zA (b:eU)
 |dW (o:dB)
abbrev aa:=List Slot
def aa.get (H:aa)(i:Nat):Option eU:=match H[i]? with|some (.zA b)=>some b|_=>none
def aa.put (H:aa)(i:Nat)(b:eU):aa:=H.set i (.zA b)
def aa.kill (H:aa)(i:Nat):aa:=H.set i .dead
def aa.new (H:aa)(b:eU):aa:=H++[.zA b]
def aa.dW (H:aa)(i:Nat):Option dB:=match H[i]? with|some (.dW o)=>some o|_=>none
def aa.jF (H:aa)(i:Nat)(o:dB):aa:=H.set i (.dW o)
def aa.kg (H:aa)(o:dB):aa:=H++[.dW o]
abbrev Env:=List (Nat×Value)
def Env.get:Env→Nat→Value
 | [],_=>GY
 | (k,v)::r,t=>if t=k then v else Env.get r t
def Env.put (E:Env)(d:Option Nat)(v:Value):Env:=match d with|some d=>(d,v)::E|none=>E
def cu:Value→Bool
 | .bool _| .int _ _| .string _| .pointer none| .slice none 0 0| .map none| .nilFunc| .nilIface=>true
 |_=>false
def fP:Value→Bool
 | .agg cs=>cs.toList.all cu
 |v=>cu v
def eB (E:Env):Operand→Value
 | .tmp t=>E.get t
 | .const v=>if fP v then v else GY
 | .global _=>GY
 | .func f=>.func (.func f) #[] #[]
def jG (P:Program)(t:TypeId):Option Nat:=(P.info? t).map (·.size)
def qP (P:Program)(t:TypeId):Option Nat:=(P.info? t).map (·.bytes)
def QC (P:Program)(t:TypeId):Option Bool:=(P.underlying t).map λ| .struct _=>true| .array _ _=>true|_=>false
def zeroOf (P:Program)(t:TypeId):Option Value:=(P.info? t).bind λi=>match i.zero with|some z=>if fP z&&z.cells.size==i.size then some z else none|none=>none
def aR (H:aa)(i off n:Nat):Option (List Value):=
 match H.get i with
 |some b=>if off+n≤b.cells.length then some ((b.cells.drop off).take n) else none
 |none=>none
def aD:Value→Bool
 | .agg _| .tuple _| .complex .. =>false
 |_=>true
def dv (cs:List Value)(off:Nat):List Value→List Value
 | []=>cs
 |v::r=>dv (cs.set off v) (off+1) r
def bX (H:aa)(i off:Nat)(vs:List Value):Option aa:=
 match H.get i with
 |some b=>if !b.ro&&decide (off+vs.length≤b.cells.length)&&vs.all aD then some (H.put i {b with cells:=dv b.cells off vs}) else none
 |none=>none
def jd (P:Program)(t:TypeId)(p:Value)(H:aa):Option Value:=
 match p with
 | .pointer (some ⟨i,off,none⟩)=>
  match QC P t with
  |some true=>match jG P t with
   |some n=>match aR H i off n with
    |some vs=>some (.agg vs.toArray)
    |none=>none
   |none=>none
  |some false=>match H.get i with
   |some b=>b.cells[off]?
   |none=>none
  |none=>none
 |_=>none
def Ar (P:Program)(t:TypeId)(p v:Value)(H:aa):Option aa:=
 match p with
 | .pointer (some ⟨i,off,none⟩)=>
  match jG P t with
  |some n=>if v.cells.size=n∧known v=true then bX H i off v.cells.toList else none
  |none=>none
 |_=>none
def aS (H:aa)(t:TypeId)(es:Nat)(cells:List Value):Value×aa:=
 (.pointer (some ⟨H.length,0,none⟩),H.new ⟨cells,t,es,false⟩)
def bL (z:List Value)(n:Nat):List Value:=(List.replicate n z).flatten
def apart (P:Program)(t:TypeId)(cs:Array Value)(off:Nat):Option Value:=
 match QC P t with
 |some true=>match jG P t with
  |some n=>some (.agg (cs.extract off (off+n)))
  |none=>none
 |some false=>cs[off]?
 |none=>none
def qQ (a b:ByteArray):Bool:=Op.bytesLess a.toList b.toList
def eqFields (P:Program)(eq:TypeId→Value→Value→Option Bool)(xs ys:Array Value):List Field→Option Bool
 | []=>some true
 |f::r=>if f.name= "_" then eqFields P eq xs ys r else
  match apart P f.type xs f.offset,apart P f.type ys f.offset with
  |some u,some v=>match eq f.type u v with
   |some true=>eqFields P eq xs ys r
   |x=>x
  |_,_=>none
def il (P:Program):Nat→TypeId→Value→Value→Option Bool
 |0,_,_,_=>none
 |d+1,t,x,y=>
  match P.underlying t,x,y with
  |some .bool,.bool a,.bool b=>some (a==b)
  |some (.int _),.int k a,.int k' b=>if k=k' then some (a==b) else none
  |some .string,.string a,.string b=>some (a==b)
  |some (.pointer _),.pointer none,.pointer b=>some b.isNone
  |some (.pointer _),.pointer (some _),.pointer none=>some false
  |some (.slice _),.slice none _ _,.slice b _ _=>some b.isNone
  |some (.slice _),.slice (some _) _ _,.slice none _ _=>some false
  |some (.func _ _ _),.nilFunc,.nilFunc=>some true
  |some (.func _ _ _),.nilFunc,.func _ _ _=>some false
  |some (.func _ _ _),.func _ _ _,.nilFunc=>some false
  |some (.struct fields),.agg xs,.agg ys=>
   if P.stoodInHeld t then none else
   eqFields P (il P d) xs ys fields.toList
  |_,_,_=>none
def Ff (op:BinOp)(k:IntKind)(a b:Int):Option Value:=
 match op with
 | .add=>some (.int k (k.wrap (a+b)))
 | .sub=>some (.int k (k.wrap (a-b)))
 | .mul=>some (.int k (k.wrap (a*b)))
 | .quo=>if b=0 then none else some (.int k (k.wrap (a.tdiv b)))
 | .rem=>if b=0 then none else some (.int k (a.tmod b))
 | .and| .or| .xor| .andNot=>some (.int k (bits op k a b))
 | .eql=>some (.bool (a==b))
 | .neq=>some (.bool (a !=b))
 | .lss=>some (.bool (decide (a<b)))
 | .leq=>some (.bool (decide (a≤b)))
 | .gtr=>some (.bool (decide (a>b)))
 | .geq=>some (.bool (decide (a≥b)))
 |_=>none
def ql (op:BinOp)(k:IntKind)(a b:Int):Option Value:=
 if b<0 then none else
 match op with
 | .shl=>some (.int k (k.wrap (a*2^min b.toNat k.bits)))
 | .shr=>some (.int k (a.fdiv (2^min b.toNat k.bits)))
 |_=>none
def Ve (op:BinOp)(a b:ByteArray):Option Value:=
 match op with
 | .eql=>some (.bool (a.toList==b.toList))
 | .neq=>some (.bool !(a.toList==b.toList))
 | .lss=>some (.bool (qQ a b))
 | .leq=>some (.bool (qQ a b||a.toList==b.toList))
 | .gtr=>some (.bool !(qQ a b||a.toList==b.toList))
 | .geq=>some (.bool !(qQ a b))
 |_=>none
def ai (P:Program)(op:BinOp)(t:TypeId)(x y:Value):Option Value:=
 match x,y with
 | .int k a,.int k' b=>match op with
  | .shl| .shr=>ql op k a b
  |_=>if k=k' then Ff op k a b else none
 | .string a,.string b=>Ve op a b
 | .agg _,.agg _=>if P.eqGuardType P.depth t then none else match op with
  | .eql=>(il P Op.maxDepth t x y).map .bool
  | .neq=>(il P Op.maxDepth t x y).map λb=>.bool (!b)
  |_=>none
 | .bool _,.bool _| .pointer _,.pointer _| .slice _ _ _,.slice _ _ _| .nilFunc,.nilFunc| .nilFunc,.func _ _ _| .func _ _ _,.nilFunc=>match op with
  | .eql=>(il P Op.maxDepth t x y).map .bool
  | .neq=>(il P Op.maxDepth t x y).map λb=>.bool (!b)
  |_=>none
 |_,_=>none
def iC (op:UnOp)(x:Value):Option Value:=
 match op,x with
 | .neg,.int k n=>some (.int k (k.wrap (0-n)))
 | .not,.bool b=>some (.bool !b)
 |_,_=>none
def cI (H:aa)(size n:Nat):Value→Option (List Value)
 | .slice (some ⟨i,off,none⟩) _ _=>if n=0 then some [] else aR H i off (n*size)
 | .slice none _ _=>if n=0 then some [] else none
 |_=>none
def Jj (P:Program)(H:aa)(qR:TypeId)(size bytes:Nat)(z x:Value):Option (Nat×List Value):=
 match P.underlying qR,x with
 |some (.int _),.int .i64 l=>if 0≤l∧l≤4294967296∧bytes≤4096 then some (l.toNat,bL z.cells.toList l.toNat) else none
 |some (.slice _),.slice _ n _=>(cI H size n x).map λcs=>(n,cs)
 |_,_=>none
def oZ (P:Program)(argTypes:Array TypeId)(s x:Value)(H:aa):Option (Value×aa):=
 match argTypes[0]?,argTypes[1]? with
 |some vZ,some qR=>
  match P.underlying vZ,s with
  |some (.slice elem),.slice base sLen sCap=>
   match jG P elem,qP P elem,zeroOf P elem with
   |some size,some bytes,some z=>
    match Jj P H qR size bytes z x with
    |some (n,new)=>
     let need:=sLen+n
     if need≤sCap then
      match base with
      |none=>some (.slice none need sCap,H)
      |some ⟨i,off,none⟩=>if n=0 then some (.slice base need sCap,H) else
       match H.get i with
       |some b=>if b.es=size then(bX H i (off+sLen*size) new).map λH'=>(.slice base need sCap,H') else none
       |none=>none
      |_=>none
     else if need≤4294967296&&bytes≤4096&&size≠0 then
      match base with
      |none=>if sLen=0 then some (.slice (some ⟨H.length,0,none⟩) need need,H.new ⟨new,elem,size,false⟩) else none
      |some ⟨i,off,none⟩=>
       match H.get i with
       |some b=>
        if !b.ro&&b.es==size&&off+sCap*size==b.cells.length then
         match aR H i off (sLen*size) with
         |some old=>some (.slice (some ⟨H.length,0,none⟩) need need,(H.kill i).new ⟨old++new,elem,size,false⟩)
         |none=>none
        else none
       |none=>none
      |_=>none
     else none
    |none=>none
   |_,_,_=>none
  |_,_=>none
 |_,_=>none
def As (P:Program)(argTypes:Array TypeId)(dst src:Value)(H:aa):Option (Value×aa):=
 match argTypes[0]? with
 |some TT=>
  match P.underlying TT,dst,src with
  |some (.slice elem),.slice base Dm _,.slice _ sLen _=>
   match jG P elem with
   |some size=>
    let n:=min sLen Dm
    match cI H size n src with
    |some cs=>
     match base with
     |none=>some (.int .i64 n,H)
     |some ⟨i,off,none⟩=>if n=0 then some (.int .i64 n,H) else(bX H i off cs).map λH'=>(.int .i64 n,H')
     |_=>none
    |none=>none
   |none=>none
  |_,_,_=>none
 |none=>none
def mmk (q:IntKind)(H:aa):Option (Value×aa):=some (.map (some H.length),H.kg (.E8 q []))
def Dn (q:IntKind)(z:Value)(ok:Bool)(m x:Value)(H:aa):Option Value:=
 match m,x with
 | .map (some i),.int q1 n=>match H.dW i with
  |some (.E8 q2 es)=>if q=q1∧q1=q2 then
    match es.find? (λe=>e.1==n) with
    |some e=>some (if ok then .tuple #[e.2,.bool true] else e.2)
    |none=>some (if ok then .tuple #[z,.bool false] else z)
   else none
  |_=>none
 |_,_=>none
def MR (es:List (Int×Value))(n:Int)(v:Value):List (Int×Value):=
 match es.findIdx? (λe=>e.1==n) with
 |some j=>es.set j (n,v)
 |none=>es++[(n,v)]
def MS (es:List (Int×Value))(n:Int):List (Int×Value):=
 match es.findIdx? (λe=>e.1==n) with
 |some j=>es.eraseIdx j
 |none=>es
def MT (q:IntKind)(m x v:Value)(H:aa):Option (Value×aa):=
 match m,x with
 | .map (some i),.int q1 n=>match H.dW i with
  |some (.E8 q2 es)=>if q=q1∧q1=q2 then some (undef,H.jF i (.E8 q2 (MR es n v))) else none
  |_=>none
 |_,_=>none
def MU (q:IntKind)(m x:Value)(H:aa):Option (Value×aa):=
 match m,x with
 | .map (some i),.int q1 n=>match H.dW i with
  |some (.E8 q2 es)=>if q=q1∧q1=q2 then some (undef,H.jF i (.E8 q2 (MS es n))) else none
  |_=>none
 |_,_=>none
def Jk (m:Value)(H:aa):Option Value:=
 match m with
 | .map (some i)=>match H.dW i with
  |some (.E8 _ es)=>some (.int .i64 es.length)
  |_=>none
 |_=>none
def mapOf (P:Program)(t:TypeId):Option (IntKind×Value):=
 match P.underlying t with
 |some (.map k e)=>match P.underlying k,zeroOf P e with
  |some (.int q),some z=>some (q,z)
  |_,_=>none
 |_=>none
def qS (P:Program)(t:TypeId)(H:aa):Option (Value×aa):=match mapOf P t with|some (q,_)=>mmk q H|none=>none
def pb (P:Program)(t:TypeId)(m x:Value)(ok:Bool)(H:aa):Option Value:=match mapOf P t with|some (q,z)=>Dn q z ok m x H|none=>none
def mR (P:Program)(t:TypeId)(m x v:Value)(H:aa):Option (Value×aa):=match mapOf P t with|some (q,_)=>MT q m x v H|none=>none
def ve (P:Program)(argTypes:Array TypeId)(m x:Value)(H:aa):Option (Value×aa):=match argTypes[0]?.bind (mapOf P) with|some (q,_)=>MU q m x H|none=>none
def sQ (P:Program)(argTypes:Array TypeId)(x:Value)(H:aa):Option (Value×aa):=
 match argTypes[0]?.bind P.underlying,x with
 |some (.slice elem),.slice base n _=>
  match zeroOf P elem with
  |some z=>
   match base with
   |none=>some (undef,H)
   |some ⟨i,off,none⟩=>if n=0 then some (undef,H) else(bX H i off (bL z.cells.toList n)).map λH'=>(undef,H')
   |_=>none
  |none=>none
 |_,_=>none
def Bw (P:Program)(H:aa)(argTypes:Array TypeId)(x:Value):Option Value:=
 match argTypes[0]? with
 |some t=>
  match P.underlying t,x with
  |some (.map _ _),x=>Jk x H
  |some .string,.string s=>some (.int .i64 s.size)
  |some (.array n _),_=>some (.int .i64 n)
  |some (.slice _),.slice _ n _=>some (.int .i64 n)
  |_,_=>none
 |none=>none
def jQ (P:Program)(b:Builtin)(argTypes:Array TypeId)(args:List Value)(H:aa):Option (Value×aa):=
 match b,args with
 | .append,[s,x]=>oZ P argTypes s x H
 | .copy,[d,s]=>As P argTypes d s H
 | .len,[x]=>(Bw P H argTypes x).map (·,H)
 | .clear,[x]=>sQ P argTypes x H
 | .delete,[m,x]=>ve P argTypes m x H
 | .cap,[.slice none _ n]=>match argTypes[0]?.bind P.underlying with|some (.slice _)=>some (.int .i64 n,H)|_=>none
 | .min,[.int k a,.int k' b]=>if k=k' then some (.int k (if b<a then b else a),H) else none
 | .max,[.int k a,.int k' b]=>if k=k' then some (.int k (if b>a then b else a),H) else none
 |_,_=>none
def qm:Value→Option Int
 | .int _ n=>some n
 |_=>none
def de (d:Int):Option Value→Option Int
 |some v=>qm v
 |none=>some d
def om (P:Program)(H:aa)(t:TypeId)(x:Value)(lo hi:Option Value):Option Value:=
 match P.underlying t,x with
 |some (.slice elem),.slice a len cap=>
  match jG P elem with
  |some size=>
   match de len hi,de 0 lo with
   |some h,some l=>if 0≤h∧h≤cap∧0≤l∧l≤h then
     match a with
     |none=>some (.slice none 0 0)
     |some ⟨i,off,none⟩=>match H.get i with
      |some b=>if b.es=size then some (.slice (some ⟨i,off+l.toNat*size,none⟩) (h.toNat-l.toNat) (cap-l.toNat)) else if cap=0 then some (.slice (some ⟨i,off,none⟩) 0 0) else none
      |none=>if cap=0 then some (.slice (some ⟨i,off,none⟩) 0 0) else none
     |_=>none
    else none
   |_,_=>none
  |none=>none
 |_,_=>none
def pc (P:Program)(H:aa)(t:TypeId)(x:Value)(lo hi:Option Value)(mx:Value):Option Value:=
 match x,hi,mx with
 | .slice a _ cap,some _,.int _ m=>if 0≤m∧m≤cap then om P H t (.slice a 0 m.toNat) lo hi else none
 |_,_,_=>none
def gg (P:Program)(t:TypeId)(len cap:Value)(H:aa):Option (Value×aa):=
 match P.underlying t,len,cap with
 |some (.slice elem),.int _ l,.int _ c=>
  match jG P elem,qP P elem,zeroOf P elem with
  |some size,some bytes,some z=>
   if 0≤l∧l≤c∧c≤4294967296∧bytes≤4096∧size≠0 then
    some (.slice (some ⟨H.length,0,none⟩) l.toNat c.toNat,H.new ⟨bL z.cells.toList c.toNat,elem,size,false⟩)
   else none
  |_,_,_=>none
 |_,_,_=>none
def placesOf (P:Program)(fields:Array Field):Option (Array (Nat×Nat)):=
 (fields.toList.mapM λf=>(jG P f.type).map λn=>(f.offset,n)).map (·.toArray)
def aE (P:Program)(t:TypeId)(parts:List (Nat×Value)):Option Value:=
 if !(parts.all λp=>known p.2) then none else
 match zeroOf P t,P.underlying t with
 |some z,some (.struct fields)=>
  match placesOf P fields with
  |some pl=>(Instr.fill (pl[·]?) z.cells parts).map .agg
  |none=>none
 |some z,some (.array _ elem)=>
  match jG P elem with
  |some size=>(Instr.fill (λi=>some (i*size,size)) z.cells parts).map .agg
  |none=>none
 |_,_=>none
def ay (P:Program)(t:TypeId)(len:Nat)(parts:List (Nat×Value))(H:aa):Option (Value×aa):=
 if !(parts.all λp=>p.2.cells.toList.all aD) then none else
 match P.underlying t with
 |some (.slice elem)=>
  match jG P elem,zeroOf P elem with
  |some size,some z=>
   if len*size≤16777216&&size≠0 then
    match Instr.fill (λi=>some (i*size,size)) (bL z.cells.toList len).toArray parts with
    |some cs=>some (.slice (some ⟨H.length,0,none⟩) len len,H.new ⟨cs.toList,elem,size,false⟩)
    |none=>none
   else none
  |_,_=>none
 |_=>none
def gU (P:Program)(ρ:Operand→Value)(H:aa):Op→Option (Value×aa)
 | .move x| .assign x=>some (ρ x,H)
 | .pick c a b=>match ρ c with
  | .bool t=>some (if t then ρ a else ρ b,H)
  |_=>none
 | .alloc t=>match zeroOf P t with
  |some z=>some (aS H t 1 z.cells.toList)
  |none=>none
 | .box t x=>if(ρ x).cells.toList.all aD then some (aS H t 1 (ρ x).cells.toList) else none
 | .build t ps=>(aE P t (ps.toList.map λ(i,x)=>(i,ρ x))).map (·,H)
 | .buildSlice t n ps=>ay P t n (ps.toList.map λ(i,x)=>(i,ρ x)) H
 | .load t a=>(jd P t (ρ a) H).map (·,H)
 | .store t a x=>(Ar P t (ρ a) (ρ x) H).map (undef,·)
 | .nilCheck x=>match ρ x with
  | .pointer (some a)=>some (.pointer (some a),H)
  | .func (.func g) f c=>some (.func (.func g) f c,H)
  |_=>none
 | .binOp op t x y _=>(ai P op t (ρ x) (ρ y)).map (·,H)
 | .unOp op _ x=>(iC op (ρ x)).map (·,H)
 | .convert src dst x=>match P.underlying src,P.underlying dst,ρ x with
  |some _,some (.int k),.int _ n=>some (.int k (k.wrap n),H)
  |_,_,_=>none
 | .makeFunc (.func g) first captured=>some (.func (.func g) (first.map ρ) (captured.map ρ),H)
 | .makeSlice t l c=>gg P t (ρ l) (ρ c) H
 | .slice t x lo hi none=>(om P H t (ρ x) (lo.map ρ) (hi.map ρ)).map (·,H)
 | .slice t x lo hi (some m)=>(pc P H t (ρ x) (lo.map ρ) (hi.map ρ) (ρ m)).map (·,H)
 | .makeMap t none=>qS P t H
 | .lookup t m x ok=>(pb P t (ρ m) (ρ x) ok H).map (·,H)
 | .mapUpdate t m x v=>mR P t (ρ m) (ρ x) (ρ v) H
 | .fieldAddr s x f=>match P.underlying s,ρ x with
  |some (.struct fields),.pointer (some ⟨i,off,none⟩)=>match fields[f]? with
   |some fd=>match jG P fd.type with
    |some 0=>none
    |some _=>some (.pointer (some ⟨i,off+fd.offset,none⟩),H)
    |none=>none
   |none=>none
  |_,_=>none
 | .field s x f=>match P.underlying s,ρ x with
  |some (.struct fields),.agg cs=>match fields[f]? with
   |some fd=>(apart P fd.type cs fd.offset).map (·,H)
   |none=>none
  |_,_=>none
 | .indexAddr t x ix=>match P.underlying t,ρ x,ρ ix with
  |some (.slice elem),.slice (some ⟨i,off,none⟩) len _,.int _ n=>match jG P elem with
   |some size=>if 0≤n∧n<len then some (.pointer (some ⟨i,off+n.toNat*size,none⟩),H) else none
   |none=>none
  |some (.array len elem),.pointer (some ⟨i,off,none⟩),.int _ n=>match jG P elem with
   |some size=>if 0≤n∧n<len then some (.pointer (some ⟨i,off+n.toNat*size,none⟩),H) else none
   |none=>none
  |_,_,_=>none
 | .index t x ix=>match P.underlying t,ρ x,ρ ix with
  |some (.array len elem),.agg cs,.int _ n=>match jG P elem with
   |some size=>if 0≤n∧n<len then(apart P elem cs (n.toNat*size)).map (·,H) else none
   |none=>none
  |some .string,.string s,.int _ n=>if 0≤n then(s[n.toNat]?).map λb=>(.int .u8 b.toNat,H) else none
  |_,_,_=>none
 | .extract t ix=>match ρ t with
  | .tuple vs=>(vs[ix]?).map (·,H)
  |_=>none
 | .call {callee:=.builtin b,args,argTypes}=>jQ P b argTypes (args.toList.map ρ) H
 |_=>none
abbrev ae:=FuncId→List Value→aa→Option (Value×aa)
def gz (P:Program)(C:ae)(E:Env)(H:aa)(o:Oper):Option (Value×aa):=
 match o.op with
 | .call {callee:=.value f,args, .. }=>match eB E f with
  | .func (.func g) first captured=>if g<P.funcs.size then C g (first.toList++args.toList.map (eB E)++captured.toList) H else none
  | .func (.yield i) _ _=>C (P.funcs.size+i) (args.toList.map (eB E)) H
  |_=>none
 |op=>gU P (eB E) H op
def dC (ops:Array Oper)(o:Oper)(E:Env):Option Bool:=
 match o.guard with
 |none=>some true
 |some (j,want)=>match (ops[j]?).bind (·.dst) with
  |some d=>match E.get d with
   | .bool b=>some (b==want)
   | .tuple vs=>if vs.isEmpty then some false else none
   |_=>none
  |none=>none
def eF (P:Program)(C:ae)(ops:Array Oper):List Oper→Env→aa→Option (Env×aa)
 | [],E,H=>some (E,H)
 |o::r,E,H=>match dC ops o E with
  |some true=>match gz P C E H o with
   |some (v,H')=>eF P C ops r (E.put o.dst v) H'
   |none=>none
  |some false=>eF P C ops r (E.put o.dst undef) H
  |none=>none
def trace (P:Program)(C:ae)(ops:Array Oper):List Oper→Env→aa→List (Env×aa)
 | [],E,H=>[(E,H)]
 |o::r,E,H=>(E,H)::match dC ops o E with
  |some true=>match gz P C E H o with
   |some (v,H')=>trace P C ops r (E.put o.dst v) H'
   |none=>[]
  |some false=>trace P C ops r (E.put o.dst undef) H
  |none=>[]
inductive Cls where
 |pure|read|zB|bad
 deriving DecidableEq
def cls (P:Program):Op→Cls
 | .move _| .assign _| .pick .. | .build .. | .nilCheck _| .binOp .. | .unOp .. | .convert .. | .makeFunc .. | .fieldAddr .. | .field .. | .indexAddr .. | .index .. | .extract .. =>.pure
 | .slice .. | .load .. | .lookup .. =>.read
 | .alloc _| .makeMap .. | .mapUpdate .. | .box .. | .buildSlice .. | .makeSlice .. | .store .. =>.zB
 | .call {callee:=.value _, .. }=>.zB
 | .call {callee:=.builtin b,argTypes, .. }=>match b with
  | .len=>match argTypes[0]?.bind P.underlying with
   |some (.map _ _)=>.read
   |_=>.pure
  | .cap| .min| .max=>.pure
  | .append| .copy| .clear| .delete=>.zB
  |_=>.bad
 |_=>.bad
def vf (B:Array Nat)(i j:Nat):Bool:=(B.getD j 0).testBit i
def sR (o:Oper):Bool:=o.guard.isNone&&match o.op with
 | .alloc _| .buildSlice .. | .makeSlice .. =>true
 |_=>false
def lK (P:Program)(ops:Array Oper):List Nat:=
 let B:=Region.before ops
 (List.range ops.size).filter λj=>match ops[j]? with
  |some y=>sR y&&(List.range j).any λi=>match ops[i]? with
   |some x=>decide (cls P x.op= .zB)&& !vf B i j
   |none=>false
  |none=>false
def Bx (P:Program)(F:List Nat)(B:Array Nat)(ops:Array Oper)(i j:Nat):Bool:=
 match ops[i]?,ops[j]? with
 |some x,some y=>
  vf B i j||((x.apart ops y)&&(!(cls P x.op= .zB&&cls P y.op= .zB)||F.contains j))
 |_,_=>false
def vg (ops:Array Oper):Bool:=
 (List.range ops.size).all λj=>match ops[j]? with
  |some o=>o.after.all λe=> !Region.binds .any e||decide (e.on<j)
  |none=>true
def Fg (P:Program)(ops:Array Oper):Bool:=
 let B:=Region.before ops
 let F:=lK P ops
 vg ops&&
 (ops.toList.all λo=>cls P o.op≠ .bad)&&
 (List.range ops.size).all λj=>(List.range j).all λi=>Bx P F B ops i j
def mB (P:Program)(ops:Array Oper):List (Nat×Nat):=
 let B:=Region.before ops
 (List.range ops.size).flatMap λr=>(List.range ops.size).filterMap λe=>
  match ops[r]?,ops[e]? with
  |some x,some y=>if cls P x.op= .read&&cls P y.op= .zB&& !vf B r e&& !vf B e r then some (r,e) else none
  |_,_=>none
def At (P:Program)(ρ:Operand→Value):Op→Option ((Nat→Value)×eU)
 | .alloc t=>match zeroOf P t with
  |some z=>some (λi=>.pointer (some ⟨i,0,none⟩),⟨z.cells.toList,t,1,false⟩)
  |none=>none
 | .buildSlice t n ps=>match ay P t n (ps.toList.map λ(i,x)=>(i,ρ x)) [] with
  |some (_,[.zA b])=>some (λi=>.slice (some ⟨i,0,none⟩) n n,b)
  |_=>none
 | .makeSlice t l c=>match gg P t (ρ l) (ρ c) [] with
  |some (.slice _ n m,[.zA b])=>some (λi=>.slice (some ⟨i,0,none⟩) n m,b)
  |_=>none
 |_=>none
def pR (P:Program)(ρ:Operand→Value)(i:Nat)(H:aa)(op:Op):Option (Value×aa):=
 match H[i]? with
 |some .hole=>match At P ρ op with
  |some (mk,b)=>some (mk i,H.set i (.zA b))
  |none=>none
 |_=>none
def dw (P:Program)(C:ae)(F:List Nat)(base k:Nat)(E:Env)(H:aa)(o:Oper):Option (Value×aa):=
 if F.contains k then pR P (eB E) (base+F.idxOf k) H o.op else gz P C E H o
def cX (P:Program)(C:ae)(F:List Nat)(base:Nat)(ops:Array Oper):List Oper→Nat→Env→aa→Option (Env×aa)
 | [],_,E,H=>some (E,H)
 |o::r,k,E,H=>match dC ops o E with
  |some true=>match dw P C F base k E H o with
   |some (v,H')=>cX P C F base ops r (k+1) (E.put o.dst v) H'
   |none=>none
  |some false=>cX P C F base ops r (k+1) (E.put o.dst undef) H
  |none=>none
def eo (P:Program)(C:ae)(F:List Nat)(base:Nat)(ops:Array Oper):List Oper→Nat→Env→aa→List (Env×aa)
 | [],_,E,H=>[(E,H)]
 |o::r,k,E,H=>(E,H)::match dC ops o E with
  |some true=>match dw P C F base k E H o with
   |some (v,H')=>eo P C F base ops r (k+1) (E.put o.dst v) H'
   |none=>[]
  |some false=>eo P C F base ops r (k+1) (E.put o.dst undef) H
  |none=>[]
def aa.cE (H:aa)(n:Nat):aa:=H++List.replicate n .hole
def sT (f:Value→Value→Bool):List Value→List Value→Bool
 | [],[]=>true
 |a::x,b::y=>f a b&&sT f x y
 |_,_=>false
def zI:Value→Value→Bool
 | .bool a,.bool b=>a==b
 | .int k a,.int k' b=>decide (k=k')&&a==b
 | .string a,.string b=>decide (a=b)
 | .pointer a,.pointer b=>decide (a=b)
 | .slice a n c,.slice a' n' c'=>decide (a=a')&&n==n'&&c==c'
 | .map a,.map b=>a==b
 | .nilFunc,.nilFunc| .nilIface,.nilIface=>true
 |_,_=>false
def oo:Value→Value→Bool
 | .agg a,.agg b=>sT zI a.toList b.toList
 |a,b=>zI a b
def iO (P:Program)(ops:Array Oper)(T:List (Env×aa))(c:Nat×Nat):Bool:=
 match T[c.1]?,T[c.2]?,T[c.2+1]?,ops[c.1]?,ops[c.2]? with
 |some (E,H),some (E1,H1),some (_,H2),some x,some y=>
  match dC ops x E,dC ops y E1 with
  |some true,some true=>match gU P (eB E) H x.op,gU P (eB E) H1 x.op,gU P (eB E) H2 x.op with
   |some (u,_),some (u1,_),some (u2,_)=>oo u u1&&oo u u2
   |_,_,_=>false
  |some _,some _=>true
  |_,_=>false
 |_,_,_,_,_=>false
def fe (P:Program)(C:ae)(ops:Array Oper)(draw:Bool)(E:Env)(H:aa):Option (Env×aa):=
 if draw then
  match lK P ops with
  | []=>match mB P ops with
   | []=>eF P C ops ops.toList E H
   |cs=>if cs.all (iO P ops (trace P C ops ops.toList E H)) then eF P C ops ops.toList E H else none
  |F=>match mB P ops with
   | []=>cX P C F H.length ops ops.toList 0 E (H.cE F.length)
   |cs=>if cs.all (iO P ops (eo P C F H.length ops ops.toList 0 E (H.cE F.length))) then cX P C F H.length ops ops.toList 0 E (H.cE F.length) else none
 else eF P C ops ops.toList E H
inductive bD where
 |normal
 |exit (id:Nat)
 |ret
 deriving DecidableEq
abbrev bh:=Option (bD×List Value×aa)
def iter (n:Nat)(step:List Value→aa→bh):List Value→aa→bh:=
 match n with
 |0=>λ_ _=>none
 |n+1=>λvs H=>match step vs H with
  |some (.normal,ja,H')=>iter n step ja H'
  |r=>r
def zJ (vs:List Value)(o:Option dB)(H:aa):bh:=
 match o with
 |some (.loop _ s)=>match s with
  | .ready=>some (.normal,vs,H)
  | .ret=>some (.ret,vs,H)
  | .exit id=>some (.exit id,vs,H)
  | .busy=>none
 |_=>none
def ev (P:Program)(C:ae)(keep:List Nat)(n:Nat):Code→List Value→aa→bh
 | .skip=>λvs H=>some (.normal,vs,H)
 | .label _=>λvs H=>some (.normal,vs,H)
 | .region _ ops draw=>λvs H=>match fe P C ops draw (keep.zip vs) H with
  |some (E,H')=>some (.normal,keep.map E.get,H')
  |none=>none
 | .seq a b=>λvs H=>match ev P C keep n a vs H with
  |some (.normal,ja,H')=>ev P C keep n b ja H'
  |r=>r
 | .cond c a b=>λvs H=>match eB (keep.zip vs) c with
  | .bool t=>if t then ev P C keep n a vs H else ev P C keep n b vs H
  |_=>none
 | .block id c=>λvs H=>match ev P C keep n c vs H with
  |some (.exit ZC,ja,H')=>if ZC=id then some (.normal,ja,H') else some (.exit ZC,ja,H')
  |r=>r
 | .loop c=>iter n (ev P C keep n c)
 | .exit id=>λvs H=>some (.exit id,vs,H)
 | .scope c=>ev P C keep n c
 | .ret=>λvs H=>some (.ret,vs,H)
 | .rangeFunc g ps x y=>λvs H=>match eB (keep.zip vs) g with
  | .func (.func gf) first captured=>
   if gf<P.funcs.size then
    match C gf (first.toList++[.func (.yield H.length) #[] #[]]++captured.toList) (H.kg (.loop ⟨keep,vs,ps,x,y⟩ .ready)) with
    |some (_,H')=>zJ vs (H'.dW H.length) (H'.kill H.length)
    |none=>none
   else none
  |_=>none
 | .goto _| .refuse _=>λ_ _=>none
def sP.of:bD→sP
 | .normal=>.ready
 | .ret=>.ret
 | .exit id=>.exit id
def bD.on:bD→Bool
 | .normal=>true
 |_=>false
def QD (i:Nat)(e:bD)(H:aa):Option (Value×aa):=
 match H.dW i with
 |some (.loop L .busy)=>some (.bool e.on,H.jF i (.loop L (.of e)))
 |_=>none
def GZ (E:Env)(l:List (Nat×Value)):Env:=l.foldl (λE p=>E.put (some p.1) p.2) E
def qo (P:Program)(C:ae)(n i:Nat)(args:List Value)(H:aa):Option (Value×aa):=
 match H.dW i with
 |some (.loop L .ready)=>
  if args.length=L.ps.size then
   match ev P C L.keep n L.assign (L.keep.map (GZ (L.keep.zip L.vs) (L.ps.toList.zip args)).get) H with
   |some (.normal,vs,H1)=>match H1.dW i with
    |some (.loop L1 .ready)=>match ev P C L.keep n L.body vs (H1.jF i (.loop L1 .busy)) with
     |some (e,_,H2)=>QD i e H2
     |none=>none
    |_=>none
   |_=>none
  else none
 |_=>none
def By (P:Program)(fn:Func)(E:Env)(H:aa):Option Value:=
 (fn.results.toList.mapM λ(r:ResultVar)=>match r with
  | .tmp t=>some (E.get t)
  | .cell a t=>jd P t (E.get a) H).map λ| [v]=>v|vs=>.tuple vs.toArray
def G8 (ops:Array Oper):List Oper→List Nat→List Nat
 | [],_=>[]
 |o::r,w=>(o.looksAt ops).filter (λt=> !w.contains t)++G8 ops r (match o.dst with|some d=>d::w|none=>w)
def gA:Code→List Nat
 | .region _ ops _=>G8 ops ops.toList []
 | .seq a b=>gA a++gA b
 | .cond (.tmp t) a b=>t::gA a++gA b
 | .cond _ a b=>gA a++gA b
 | .block _ c| .loop c| .scope c=>gA c
 | .rangeFunc (.tmp t) _ a b=>t::gA a++gA b
 | .rangeFunc _ _ a b=>gA a++gA b
 |_=>[]
def dedup:List Nat→List Nat→List Nat
 | [],acc=>acc.reverse
 |x::r,acc=>if acc.contains x then dedup r acc else dedup r (x::acc)
def mS (fn:Func):List Nat:=
 dedup (List.range fn.params.size++(fn.results.toList.map λ(r:ResultVar)=>match r with| .tmp t=>t| .cell a _=>a)++match fn.body with|some c=>gA c|none=>[]) []
def oq (P:Program)(N:Nat)(ops:Array Oper)(draw:Bool):Bool:=
 (ops.toList.all λo=>match o.dst with|some d=>decide (d<N)|none=>true)&&(!draw||Fg P ops)
def iP (P:Program)(N:Nat):Code→Bool
 | .region _ ops draw=>oq P N ops draw
 | .seq a b=>iP P N a&&iP P N b
 | .cond _ a b=>iP P N a&&iP P N b
 | .block _ c| .loop c| .scope c=>iP P N c
 | .rangeFunc _ ps a b=>(ps.toList.all λp=>decide (p<N))&&iP P N a&&iP P N b
 | .skip| .label _| .exit _| .ret=>true
 |_=>true
def gB (P:Program)(bad:List FuncId)(G:ae):Nat→ae
 |0=>λ_ _ _=>none
 |n+1=>λf args H=>if bad.contains f then G f args H else match P.funcs[f]? with
  |some fn=>match fn.body with
   |some c=>
    let keep:=mS fn
    match ev P (gB P bad G n) keep n c (keep.map λt=>args.getD t undef) H with
    |some (.normal,vs,H')|some (.ret,vs,H')=>(By P fn (keep.zip vs) H').map (·,H')
    |_=>none
   |none=>none
  |none=>qo P (gB P bad G n) n (f-P.funcs.size) args H
def Fh (P:Program)(fn:Func):Bool:=match fn.body with
 |some c=> !(fn.name== "runtime.NumGoroutine")&&iP P fn.ntmps c
 |none=>true
def mT (P:Program)(bad:List FuncId):Bool:=
 P.follows .mixedOrders&&(List.range P.funcs.size).all λf=>bad.contains f||match P.funcs[f]? with|some fn=>Fh P fn|none=>true
def ot (P:Program):List FuncId:=(List.range P.funcs.size).filter λf=>match P.funcs[f]? with|some fn=> !Fh P fn|none=>false
end Go.Proofs.YtgfgglponbmgmaaGreatA.Am
end
