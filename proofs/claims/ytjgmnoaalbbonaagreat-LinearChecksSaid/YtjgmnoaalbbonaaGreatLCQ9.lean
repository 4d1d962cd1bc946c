/- Texts of the proof of linearChecks_holds, put together by a small program of ours (names shortened, spaces taken out). No condition beyond the given statement. -/
import Derived.Test.YtjgmnoaalbbonaaGreatLCQ8
set_option linter.unusedVariables false
set_option linter.unusedSimpArgs false
set_option linter.unnecessarySimpa false
noncomputable section
section
namespace Go.Proofs.YtjgmnoaalbbonaaGreatA.Am
variable {α:Type}
def af (x:Option (Value×ae))(k:Value→ae→Option α):Option α:=
 match x with
 |some (v,H)=>k v H
 |none=>none
@[simp] theorem dZ (v:Value)(H:ae)(k:Value→ae→Option α):af (some (v,H)) k=k v H:=rfl
@[simp] theorem adV (k:Value→ae→Option α):af none k=none:=rfl
def pS (x:Option Value)(H:ae):Option (Value×ae):=x.map (·,H)
@[simp] theorem nu (v:Value)(H:ae):pS (some v) H=some (v,H):=rfl
@[simp] theorem af7 (H:ae):pS none H=none:=rfl
abbrev cv (x:Int):Value:=.int .i64 x
abbrev mv (x:Value)(H:ae)(k:Value→ae→Option α):Option α:=af (some (x,H)) k
abbrev VH:Type:=Option (Value×ae)
def gd (w:Option Bool)(x:Option (Value×ae))(H:ae):Option (Value×ae):=
 match w with
 |some true=>x
 |some false=>some (undef,H)
 |none=>none
@[simp] theorem yu (x:Option (Value×ae))(H:ae):gd (some true) x H=x:=rfl
@[simp] theorem uK (x:Option (Value×ae))(H:ae):gd (some false) x H=some (undef,H):=rfl
def ai (v:Value)(want:Bool):Option Bool:=
 match v with
 | .bool b=>some (b==want)
 | .tuple vs=>if vs.isEmpty then some false else none
 |_=>none
@[simp] theorem Zm (b want:Bool):ai (.bool b) want=some (b==want):=rfl
@[simp] theorem X7 (want:Bool):ai undef want=some false:=rfl
def aY (v:Value)(x y:Option α):Option α:=
 match v with
 | .bool true=>x
 | .bool false=>y
 |_=>none
@[simp] theorem adW (x y:Option α):aY (.bool true) x y=x:=rfl
@[simp] theorem adz (x y:Option α):aY (.bool false) x y=y:=rfl
def JB (P:Program)(C:ag)(ops:Array Oper):List Oper→Env→ae→(Env→ae→Option α)→Option α
 | [],E,H,k=>k E H
 |o::r,E,H,k=>af (match o.guard with
   |none=>iC P C E H o
   |some _=>gd (eW ops o E) (iC P C E H o) H) λv H'=>JB P C ops r (E.put o.dst v) H' k
theorem LI (P:Program)(C:ag)(ops:Array Oper)(l:List Oper)(E:Env)(H:ae)(k:Env→ae→Option α):
  JB P C ops l E H k=match fV P C ops l E H with|some (E',H')=>k E' H'|none=>none:=by
 induction l generalizing E H with
 |nil=>rfl
 |cons o r ih=>
  rw[JB,fV];cases hg:o.guard with
  |none=>
   have:eW ops o E=some true:=by simp only[eW,hg]
   rw[this];cases iC P C E H o with
   |none=>rfl
   |some p=>obtain⟨v,H'⟩:=p;simp only[dZ];exact ih _ _
  |some g=>
   simp only;cases eW ops o E with
   |none=>rfl
   |some b=>
    cases b with
    |true=>
     simp only[yu];cases iC P C E H o with
     |none=>rfl
     |some p=>obtain⟨v,H'⟩:=p;simp only[dZ];exact ih _ _
    |false=>simp only[uK,dZ];exact ih _ _
def DI (P:Program)(C:ag)(ops:Array Oper):List Oper→Env→ae→List (Env×ae)→(Env→ae→List (Env×ae)→Option α)→Option α
 | [],E,H,T,k=>k E H (T++[(E,H)])
 |o::r,E,H,T,k=>af (match o.guard with
   |none=>iC P C E H o
   |some _=>gd (eW ops o E) (iC P C E H o) H) λv H'=>DI P C ops r (E.put o.dst v) H' (T++[(E,H)]) k
theorem QQ (P:Program)(C:ag)(ops:Array Oper)(l:List Oper)(E:Env)(H:ae)(T:List (Env×ae))(k:Env→ae→List (Env×ae)→Option α):
  DI P C ops l E H T k=match fV P C ops l E H with|some (E',H')=>k E' H' (T++trace P C ops l E H)|none=>none:=by
 induction l generalizing E H T with
 |nil=>rfl
 |cons o r ih=>
  rw[DI,fV,trace];cases hg:o.guard with
  |none=>
   have:eW ops o E=some true:=by simp only[eW,hg]
   rw[this];cases iC P C E H o with
   |none=>rfl
   |some p=>obtain⟨v,H'⟩:=p;simp only[dZ,ih,List.append_assoc,List.singleton_append]
  |some g=>
   simp only;cases eW ops o E with
   |none=>rfl
   |some b=>
    cases b with
    |true=>
     simp only[yu];cases iC P C E H o with
     |none=>rfl
     |some p=>obtain⟨v,H'⟩:=p;simp only[dZ,ih,List.append_assoc,List.singleton_append]
    |false=>simp only[uK,dZ,ih,List.append_assoc,List.singleton_append]
def DJ (P:Program)(C:ag)(F:List Nat)(base:Nat)(ops:Array Oper):List Oper→Nat→Env→ae→(Env→ae→Option α)→Option α
 | [],_,E,H,k=>k E H
 |o::r,j,E,H,k=>af (match o.guard with
   |none=>eQ P C F base j E H o
   |some _=>gd (eW ops o E) (eQ P C F base j E H o) H) λv H'=>DJ P C F base ops r (j+1) (E.put o.dst v) H' k
def wi (P:Program)(C:ag)(F:List Nat)(base:Nat)(ops:Array Oper):List Oper→Nat→Env→ae→List (Env×ae)→(Env→ae→List (Env×ae)→Option α)→Option α
 | [],_,E,H,T,k=>k E H (T++[(E,H)])
 |o::r,j,E,H,T,k=>af (match o.guard with
   |none=>eQ P C F base j E H o
   |some _=>gd (eW ops o E) (eQ P C F base j E H o) H) λv H'=>wi P C F base ops r (j+1) (E.put o.dst v) H' (T++[(E,H)]) k
theorem QR (P:Program)(C:ag)(F:List Nat)(base:Nat)(ops:Array Oper)(l:List Oper)(j:Nat)(E:Env)(H:ae)(k:Env→ae→Option α):
  DJ P C F base ops l j E H k=match eo P C F base ops l j E H with|some (E',H')=>k E' H'|none=>none:=by
 induction l generalizing j E H with
 |nil=>rfl
 |cons o r ih=>
  rw[DJ,eo];cases hg:o.guard with
  |none=>
   have:eW ops o E=some true:=by simp only[eW,hg]
   rw[this];cases eQ P C F base j E H o with
   |none=>rfl
   |some p=>obtain⟨v,H'⟩:=p;simp only[dZ];exact ih _ _ _
  |some g=>
   simp only;cases eW ops o E with
   |none=>rfl
   |some b=>
    cases b with
    |true=>
     simp only[yu];cases eQ P C F base j E H o with
     |none=>rfl
     |some p=>obtain⟨v,H'⟩:=p;simp only[dZ];exact ih _ _ _
    |false=>simp only[uK,dZ];exact ih _ _ _
theorem ND (P:Program)(C:ag)(F:List Nat)(base:Nat)(ops:Array Oper)(l:List Oper)(j:Nat)(E:Env)(H:ae)(T:List (Env×ae))(k:Env→ae→List (Env×ae)→Option α):
  wi P C F base ops l j E H T k=match eo P C F base ops l j E H with|some (E',H')=>k E' H' (T++fJ P C F base ops l j E H)|none=>none:=by
 induction l generalizing j E H T with
 |nil=>rfl
 |cons o r ih=>
  rw[wi,eo,fJ];cases hg:o.guard with
  |none=>
   have:eW ops o E=some true:=by simp only[eW,hg]
   rw[this];cases eQ P C F base j E H o with
   |none=>rfl
   |some p=>obtain⟨v,H'⟩:=p;simp only[dZ,ih,List.append_assoc,List.singleton_append]
  |some g=>
   simp only;cases eW ops o E with
   |none=>rfl
   |some b=>
    cases b with
    |true=>
     simp only[yu];cases eQ P C F base j E H o with
     |none=>rfl
     |some p=>obtain⟨v,H'⟩:=p;simp only[dZ,ih,List.append_assoc,List.singleton_append]
    |false=>simp only[uK,dZ,ih,List.append_assoc,List.singleton_append]
def iZ (n:Nat)(H:ae)(k:Nat→ae→Option α):Option α:=k H.length (H.dy n)
def uL (P:Program)(C:ag)(ops:Array Oper)(draw:Bool)(E:Env)(H:ae)(k:Env→ae→Option α):Option α:=
 if draw then
  match ng P ops with
  | []=>match n7 P ops with
   | []=>JB P C ops ops.toList E H k
   |cs=>DI P C ops ops.toList E H [] λE' H' T=>if cs.all (jN P ops T) then k E' H' else none
  |F=>iZ F.length H λbase H=>match n7 P ops with
   | []=>DJ P C F base ops ops.toList 0 E H k
   |cs=>wi P C F base ops ops.toList 0 E H [] λE' H' T=>if cs.all (jN P ops T) then k E' H' else none
 else JB P C ops ops.toList E H k
theorem JC (P:Program)(C:ag)(ops:Array Oper)(draw:Bool)(E:Env)(H:ae)(k:Env→ae→Option α):
  uL P C ops draw E H k=match gz P C ops draw E H with|some (E',H')=>k E' H'|none=>none:=by
 unfold uL gz;cases draw with
 |false=>simp only[Bool.false_eq_true,if_false];exact LI ..
 |true=>
  simp only[if_true];cases ng P ops with
  |nil=>
   simp only;cases n7 P ops with
   |nil=>exact LI ..
   |cons c cs=>
    simp only[QQ,List.nil_append];cases fV P C ops ops.toList E H with
    |none=>by_cases hb:(c::cs).all (jN P ops (trace P C ops ops.toList E H))=true<;>simp only[hb,if_true,if_false,Bool.false_eq_true]
    |some q=>
     obtain⟨E',H'⟩:=q;by_cases hb:(c::cs).all (jN P ops (trace P C ops ops.toList E H))=true<;>simp only[hb,if_true,if_false,Bool.false_eq_true]
  |cons f F=>
   simp only[iZ];cases n7 P ops with
   |nil=>exact QR ..
   |cons c cs=>
    simp only[ND,List.nil_append];cases eo P C (f::F) H.length ops ops.toList 0 E (H.dy (f::F).length) with
    |none=>by_cases hb:(c::cs).all (jN P ops (fJ P C (f::F) H.length ops ops.toList 0 E (H.dy (f::F).length)))=true<;>simp only[hb,if_true,if_false,Bool.false_eq_true]
    |some q=>
     obtain⟨E',H'⟩:=q;by_cases hb:(c::cs).all (jN P ops (fJ P C (f::F) H.length ops ops.toList 0 E (H.dy (f::F).length)))=true<;>simp only[hb,if_true,if_false,Bool.false_eq_true]
def jF (wx wy:Option Bool)(u u1 u2:Option (Value×ae)):Bool:=
 match wx,wy with
 |some true,some true=>match u,u1,u2 with
  |some (u,_),some (u1,_),some (u2,_)=>jd u u1&&jd u u2
  |_,_,_=>false
 |some _,some _=>true
 |_,_=>false
@[simp] theorem adX (u u1 u2:Value)(H H1 H2:ae):jF (some true) (some true) (some (u,H)) (some (u1,H1)) (some (u2,H2))=(jd u u1&&jd u u2):=rfl
@[simp] theorem agi (w:Bool)(u u1 u2:Option (Value×ae)):jF (some false) (some w) u u1 u2=true:=by cases w<;>rfl
@[simp] theorem agj (w:Bool)(u u1 u2:Option (Value×ae)):jF (some w) (some false) u u1 u2=true:=by cases w<;>rfl
@[simp] theorem LJ (k:IntKind)(a:Int):jd (.int k a) (.int k a)=true:=by simp[jd,n8]
@[simp] theorem adY (a:Bool):jd (.bool a) (.bool a)=true:=by simp[jd,n8]
@[simp] theorem qN (a:Option Addr):jd (.pointer a) (.pointer a)=true:=by simp[jd,n8]
@[simp] theorem jX (a:Option Addr)(n c:Nat):jd (.slice a n c) (.slice a n c)=true:=by simp[jd,n8]
def fin:cg→List Value→ae→bl:=λe vs H=>some (e,vs,H)
def cI (x:bl)(k:cg→List Value→ae→Option α):Option α:=
 match x with
 |some (e,vs,H)=>k e vs H
 |none=>none
@[simp] theorem ja (e:cg)(vs:List Value)(H:ae)(k:cg→List Value→ae→Option α):cI (some (e,vs,H)) k=k e vs H:=rfl
def up {β:Type}(x:β):β:=(λ(_:Option Nat)=>x) (af (α:=Nat) none λ_ _=>none)
def dv (kb:List Value→ae→Option α)(k:cg→List Value→ae→Option α):cg→List Value→ae→Option α:=
 λe vs H=>up (match e with
  | .normal=>kb vs H
  |e=>k e vs H)
def dr (id:Nat)(k:cg→List Value→ae→Option α):cg→List Value→ae→Option α:=
 λe vs H=>up (match e with
  | .exit i=>if i=id then k .normal vs H else k (.exit i) vs H
  |e=>k e vs H)
@[simp] theorem Ht (kb:List Value→ae→Option α)(k:cg→List Value→ae→Option α)(vs:List Value)(H:ae):dv kb k .normal vs H=kb vs H:=rfl
@[simp] theorem adA (kb:List Value→ae→Option α)(k:cg→List Value→ae→Option α)(i:Nat)(vs:List Value)(H:ae):dv kb k (.exit i) vs H=k (.exit i) vs H:=rfl
@[simp] theorem adZ (kb:List Value→ae→Option α)(k:cg→List Value→ae→Option α)(vs:List Value)(H:ae):dv kb k .ret vs H=k .ret vs H:=rfl
@[simp] theorem X8 (id:Nat)(k:cg→List Value→ae→Option α)(vs:List Value)(H:ae):dr id k .normal vs H=k .normal vs H:=rfl
@[simp] theorem ad0 (id:Nat)(k:cg→List Value→ae→Option α)(vs:List Value)(H:ae):dr id k .ret vs H=k .ret vs H:=rfl
@[simp] theorem NF (id i:Nat)(k:cg→List Value→ae→Option α)(vs:List Value)(H:ae):dr id k (.exit i) vs H=if i=id then k .normal vs H else k (.exit i) vs H:=rfl
def EN (N:Nat)(C:ag)(g:Value)(L:nZ)(H:ae):Option (qw×ae):=
 match g with
 | .func (.func gf) first captured=>
  if gf<N then
   match C gf (first.toList++[.func (.yield H.length) #[] #[]]++captured.toList) (H.gX (.loop L .ready)) with
   |some (_,H')=>match H'.db H.length with
    |some (.loop _ s)=>some (s,H'.kill H.length)
    |_=>none
   |none=>none
  else none
 |_=>none
def DK (x:Option (qw×ae))(k:cg→ae→Option α):Option α:=
 match x with
 |some (.ready,H)=>k .normal H
 |some (.ret,H)=>k .ret H
 |some (.exit id,H)=>k (.exit id) H
 |_=>none
@[simp] theorem X9 (H:ae)(k:cg→ae→Option α):DK (some (.ready,H)) k=k .normal H:=rfl
@[simp] theorem adB (H:ae)(k:cg→ae→Option α):DK (some (.ret,H)) k=k .ret H:=rfl
@[simp] theorem Zn (id:Nat)(H:ae)(k:cg→ae→Option α):DK (some (.exit id,H)) k=k (.exit id) H:=rfl
theorem LK {N gf:Nat}{C:ag}{first captured:Array Value}{L L':nZ}{H H':ae}{v:Value}{s:qw}(h1:gf<N)(h2:C gf (first.toList++[.func (.yield H.length) #[] #[]]++captured.toList) (H.gX (.loop L .ready))=some (v,H'))(h3:H'.db H.length=some (.loop L' s)):
  EN N C (.func (.func gf) first captured) L H=some (s,H'.kill H.length):=by
 simp only[EN,h1,if_true,h2,h3]
def oS (P:Program)(C:ag)(keep:List Nat)(n:Nat):{α:Type}→Code→List Value→ae→(cg→List Value→ae→Option α)→Option α
 |_,.skip,vs,H,k=>k .normal vs H
 |_,.label _,vs,H,k=>k .normal vs H
 |_,.region _ ops draw,vs,H,k=>uL P C ops draw (keep.zip vs) H λE H'=>k .normal (keep.map E.get) H'
 |_,.seq a b,vs,H,k=>oS P C keep n a vs H (dv (λju H'=>oS P C keep n b ju H' k) k)
 |_,.cond c a b,vs,H,k=>aY (fP (keep.zip vs) c) (oS P C keep n a vs H k) (oS P C keep n b vs H k)
 |_,.block id c,vs,H,k=>oS P C keep n c vs H (dr id k)
 |_,.loop c,vs,H,k=>cI (iter n (λvs H=>oS P C keep n c vs H fin) vs H) k
 |_,.exit id,vs,H,k=>k (.exit id) vs H
 |_,.scope c,vs,H,k=>oS P C keep n c vs H k
 |_,.ret,vs,H,k=>k .ret vs H
 |_,.goto _,_,_,_=>none
 |_,.rangeFunc g ps x y,vs,H,k=>DK (EN P.funcs.size C (fP (keep.zip vs) g) ⟨keep,vs,ps,x,y⟩ H) λe H'=>k e vs H'
 |_,.refuse _,_,_,_=>none
theorem JD {n:Nat}{f g:List Value→ae→bl}(h: ∀vs H,f vs H=g vs H):iter n f=iter n g:=by
 have:f=g:=funext λvs=>funext λH=>h vs H
 rw[this]
theorem JE (P:Program)(C:ag)(keep:List Nat)(n:Nat)(c:Code): ∀{α:Type} (vs:List Value) (H:ae) (k:cg→List Value→ae→Option α),
  oS P C keep n c vs H k=cI (ev P C keep n c vs H) k:=by
 induction c with
 |skip=>intros;simp only[oS,ev,ja]
 |label _=>intros;simp only[oS,ev,ja]
 |region p ops draw=>
  intro α vs H k;simp only[oS,ev,JC];cases gz P C ops draw (keep.zip vs) H with
  |none=>rfl
  |some p=>rfl
 |seq a b NG NH=>
  intro α vs H k;simp only[oS,ev];rw[NG];cases ev P C keep n a vs H with
  |none=>rfl
  |some p=>
   obtain⟨e,ju,H'⟩:=p;cases e with
   |normal=>simp only[ja,Ht];exact NH _ _ _
   |_=>rfl
 |cond c a b NG NH=>
  intro α vs H k;simp only[oS,ev,NG,NH];generalize fP (keep.zip vs) c=v
  cases v with
  |bool t=>cases t<;>rfl
  |_=>rfl
 |block id c ih=>
  intro α vs H k;simp only[oS,ev];rw[ih];cases ev P C keep n c vs H with
  |none=>rfl
  |some p=>
   obtain⟨e,ju,H'⟩:=p;cases e with
   |exit i=>
    simp only[ja,NF];split<;>rfl
   |_=>rfl
 |loop c ih=>
  intro α vs H k;simp only[oS,ev];rw[JD (g:=ev P C keep n c)];intro vs H;rw[ih];cases ev P C keep n c vs H with
  |none=>rfl
  |some p=>rfl
 |exit _=>intros;simp only[oS,ev,ja]
 |scope c ih=>intro α vs H k;simp only[oS,ev,ih]
 |ret=>intros;simp only[oS,ev,ja]
 |goto _=>intros;rfl
 |rangeFunc g ps x y _ _=>
  intro α vs H k;simp only[oS,ev,EN];generalize fP (keep.zip vs) g=v
  cases v with
  |func fn first captured=>
   cases fn with
   |func gf=>
    by_cases dH:gf<P.funcs.size
    ·simp only[dH,if_true];cases C gf (first.toList++[.func (.yield H.length) #[] #[]]++captured.toList) (H.gX (.loop ⟨keep,vs,ps,x,y⟩ .ready)) with
     |none=>rfl
     |some q=>
      obtain⟨u,H'⟩:=q;simp only;cases H'.db H.length with
      |none=>rfl
      |some o=>
       cases o with
       |kz _ _=>rfl
       |loop L s=>cases s<;>rfl
    ·simp only[dH,if_false];rfl
   |_=>rfl
  |_=>rfl
 |refuse _=>intros;rfl
def qO (P:Program)(E:Env)(H:ae):List ResultVar→(List Value→Option (Value×ae))→Option (Value×ae)
 | [],k=>k []
 | .tmp t::r,k=>qO P E H r λvs=>k (E.get t::vs)
 | .cell a t::r,k=>af (pS (ke P t (E.get a) H) H) λv _=>qO P E H r λvs=>k (v::vs)
def xO (H:ae):List Value→Option (Value×ae)
 | [v]=>some (v,H)
 |vs=>some (.tuple vs.toArray,H)
def qP (P:Program)(rs:List ResultVar)(E:Env)(H:ae):Option (Value×ae):=qO P E H rs (xO H)
theorem EO (P:Program)(E:Env)(H:ae): ∀(rs:List ResultVar) (k:List Value→Option (Value×ae)),qO P E H rs k=(rs.mapM λ(r:ResultVar)=>match r with
  | .tmp t=>some (E.get t)
  | .cell a t=>ke P t (E.get a) H).bind k
 | [],k=>rfl
 | .tmp t::r,k=>by
  rw[qO,EO P E H r,List.mapM_cons];simp only[Option.bind_eq_bind,Option.bind_some,Option.bind_assoc,Option.pure_def]
 | .cell a t::r,k=>by
  rw[qO,List.mapM_cons];simp only[Option.bind_eq_bind,Option.bind_assoc,Option.pure_def,Option.bind_some];cases ke P t (E.get a) H with
  |none=>rfl
  |some v=>simp only[nu,dZ,Option.bind_some];exact EO P E H r _
theorem U3 (P:Program)(fn:Func)(E:Env)(H:ae):qP P fn.results.toList E H=(Ei P fn E H).map (·,H):=by
 unfold qP Ei;rw[EO];generalize (fn.results.toList.mapM λ(r:ResultVar)=>match r with
  | .tmp t=>some (E.get t)
  | .cell a t=>ke P t (E.get a) H)=x
 cases x with
 |none=>rfl
 |some vs=>
  match vs with
  | []=>rfl
  | [v]=>rfl
  |_::_::_=>rfl
def eE (P:Program)(rs:List ResultVar)(keep:List Nat):cg→List Value→ae→Option (Value×ae):=
 λe vs H=>match e with
  | .normal| .ret=>qP P rs (keep.zip vs) H
  | .exit _=>none
@[simp] theorem Ya (P:Program)(rs:List ResultVar)(keep:List Nat)(vs:List Value)(H:ae):eE P rs keep .normal vs H=qP P rs (keep.zip vs) H:=rfl
@[simp] theorem ad1 (P:Program)(rs:List ResultVar)(keep:List Nat)(vs:List Value)(H:ae):eE P rs keep .ret vs H=qP P rs (keep.zip vs) H:=rfl
def LL (P:Program)(C:ag)(n:Nat)(fn:Func)(keep:List Nat)(args:List Value)(H:ae):Option (Value×ae):=
 match fn.body with
 |some c=>oS P C keep n c (keep.map λt=>args.getD t undef) H (eE P fn.results.toList keep)
 |none=>none
theorem av {P:Program}{bad:List FuncId}{G:ag}{n:Nat}{f:FuncId}{fn:Func}(hb:bad.contains f=false)(hf:P.funcs[f]? =some fn){keep:List Nat}(hk:oU fn=keep)(args:List Value)(H:ae):
  fW P bad G (n+1) f args H=LL P (fW P bad G n) n fn keep args H:=by
 subst hk;unfold LL
 conv=>lhs;unfold fW
 rw[hb,hf];simp only[Bool.false_eq_true,if_false];cases fn.body with
 |none=>rfl
 |some c=>
  simp only;rw[JE];generalize ev P (fW P bad G n) (oU fn) n c ((oU fn).map λt=>args.getD t undef) H=x
  cases x with
  |none=>rfl
  |some p=>
   obtain⟨e,vs,H'⟩:=p;cases e<;>simp only[ja,U3,eE]
def NJ (i:Nat)(H:ae)(k:ae→Option α):Option α:=
 match H.db i with
 |some (.loop L .ready)=>k (H.fC i (.loop L .busy))
 |_=>none
theorem U4 {i:Nat}{H:ae}{L:nZ}(h:H.db i=some (.loop L .ready))(k:ae→Option α):NJ i H k=k (H.fC i (.loop L .busy)):=by
 unfold NJ;rw[h]
theorem U5 {i:Nat}{e:cg}{H:ae}{L:nZ}(h:H.db i=some (.loop L .busy)):Eh i e H=some (.bool e.on,H.fC i (.loop L (.of e))):=by
 unfold Eh;rw[h]
def LM (P:Program)(C:ag)(n i:Nat)(L:nZ)(args:List Value)(H:ae):Option (Value×ae):=
 oS P C L.keep n L.assign (L.keep.map (Dp (L.keep.zip L.vs) (L.ps.toList.zip args)).get) H λe vs H1=>match e with
  | .normal=>NJ i H1 λH2=>oS P C L.keep n L.body vs H2 λe _ H3=>Eh i e H3
  |_=>none
theorem U6 {P:Program}{bad:List FuncId}{G:ag}{n i:Nat}{L:nZ}{args:List Value}{H:ae}(hb:(bad.all λf=>decide (f<P.funcs.size))=true)(h:H.db i=some (.loop L .ready))(hl:args.length=L.ps.size):fW P bad G (n+1) (P.funcs.size+i) args H=LM P (fW P bad G n) n i L args H:=by
 have tN:bad.contains (P.funcs.size+i)=false:=by
  cases hc:bad.contains (P.funcs.size+i) with
  |false=>rfl
  |true=>
   have:=List.all_eq_true.1 hb (P.funcs.size+i) (by simpa using hc)
   exact absurd (of_decide_eq_true this) (Nat.not_lt.2 (Nat.le_add_right _ _))
 have hf:P.funcs[P.funcs.size+i]? =none:=by simp
 conv=>lhs;unfold fW
 rw[tN,hf];simp only[Bool.false_eq_true,if_false,show P.funcs.size+i-P.funcs.size=i by omega]
 unfold qz LM;rw[h];simp only[hl,if_true,JE];cases ev P (fW P bad G n) L.keep n L.assign (L.keep.map (Dp (L.keep.zip L.vs) (L.ps.toList.zip args)).get) H with
 |none=>rfl
 |some q=>
  obtain⟨e,vs,H1⟩:=q;cases e with
  |ret=>rfl
  |exit id=>rfl
  |normal=>
   simp only[ja,NJ];generalize H1.db i=o
   cases o with
   |none=>rfl
   |some o=>
    cases o with
    |kz _ _=>rfl
    |loop L1 s=>
     cases s with
     |ready=>
      simp only;cases ev P (fW P bad G n) L.keep n L.body vs (H1.fC i (.loop L1 .busy)) with
      |none=>rfl
      |some q2=>rfl
     |_=>rfl
def DL:Code→List (Array Tmp×Code×Code)
 | .rangeFunc _ ps a b=>(ps,a,b)::DL a++DL b
 | .seq a b| .cond _ a b=>DL a++DL b
 | .block _ c| .loop c| .scope c=>DL c
 |_=>[]
def Zo (P:Program)(f k:Nat):Array Tmp×Code×Code:=
 match P.funcs[f]? with
 |some fn=>match fn.body with
  |some c=>(DL c).getD k (#[],.skip,.skip)
  |none=>(#[],.skip,.skip)
 |none=>(#[],.skip,.skip)
def jz (P:Program)(f:Nat):Code:=match P.funcs[f]? with
 |some fn=>match fn.body with
  |some c=>c
  |none=>.skip
 |none=>.skip
def pf:List Nat→Code→Code
 |0::p,.seq a _|0::p,.cond _ a _=>pf p a
 |_::p,.seq _ b|_::p,.cond _ _ b=>pf p b
 |_::p,.block _ c|_::p,.loop c|_::p,.scope c=>pf p c
 |_,c=>c
theorem rI (P:Program)(C:ag)(keep:List Nat)(n:Nat)(c:Code)(vs:List Value)(H:ae):ev P C keep n c vs H=oS P C keep n c vs H fin:=by
 rw[JE];cases ev P C keep n c vs H with
 |none=>rfl
 |some p=>rfl
def aL (c a b:Value)(H:ae):Option (Value×ae):=
 match c with
 | .bool t=>some (if t then a else b,H)
 |_=>none
def au (p:Value)(H:ae):Option Value:=
 match p with
 | .pointer (some ⟨i,off,none⟩)=>match H.get i with
  |some b=>b.cells[off]?
  |none=>none
 |_=>none
def bV (n:Nat)(p:Value)(H:ae):Option Value:=
 match p with
 | .pointer (some ⟨i,off,none⟩)=>match aA H i off n with
  |some vs=>some (.agg vs.toArray)
  |none=>none
 |_=>none
def bS (n:Nat)(p v:Value)(H:ae):Option (Value×ae):=
 (match p with
 | .pointer (some ⟨i,off,none⟩)=>if v.cells.size=n∧known v=true then bG H i off v.cells.toList else none
 |_=>none:Option ae).map (undef,·)
def aC (x:Value)(H:ae):Option (Value×ae):=
 match x with
 | .pointer (some a)=>some (.pointer (some a),H)
 | .func (.func g) f c=>some (.func (.func g) f c,H)
 |_=>none
def al (off:Nat)(x:Value)(H:ae):Option (Value×ae):=
 match x with
 | .pointer (some ⟨i,o,none⟩)=>some (.pointer (some ⟨i,o+off,none⟩),H)
 |_=>none
def bP (es:Nat)(x i:Value)(H:ae):Option (Value×ae):=
 match x,i with
 | .slice (some ⟨b,off,none⟩) len _,.int _ n=>if 0≤n∧n<len then some (.pointer (some ⟨b,off+n.toNat*es,none⟩),H) else none
 |_,_=>none
def cq (x:Value):Option Value:=
 match x with
 | .slice _ n _=>some (.int .i64 n)
 |_=>none
def dD (es:Nat)(H:ae)(x:Value)(lo hi:Option Value):Option Value:=
 match x with
 | .slice a len cap=>
   match cK len hi,cK 0 lo with
   |some h,some l=>if 0≤h∧h≤cap∧0≤l∧l≤h then
     match a with
     |none=>some (.slice none 0 0)
     |some ⟨i,off,none⟩=>match H.get i with
      |some b=>if b.es=es then some (.slice (some ⟨i,off+l.toNat*es,none⟩) (h.toNat-l.toNat) (cap-l.toNat)) else if cap=0 then some (.slice (some ⟨i,off,none⟩) 0 0) else none
      |none=>if cap=0 then some (.slice (some ⟨i,off,none⟩) 0 0) else none
     |_=>none
    else none
   |_,_=>none
 |_=>none
def Yb (es:Nat)(H:ae)(x:Value)(lo hi:Option Value)(mx:Value):Option Value:=
 match x,hi,mx with
 | .slice a _ cap,some _,.int _ m=>if 0≤m∧m≤cap then dD es H (.slice a 0 m.toNat) lo hi else none
 |_,_,_=>none
def CL (i:Nat)(x:Option ((Nat→Value)×eY))(H:ae):Option (Value×ae):=
 match H[i]? with
 |some .hole=>match x with
  |some (mk,b)=>some (mk i,H.set i (.hZ b))
  |none=>none
 |_=>none
theorem yw {i:Nat}{mk:Nat→Value}{b:eY}{H:ae}(h:H[i]? =some .hole):CL i (some (mk,b)) H=some (mk i,H.set i (.hZ b)):=by
 unfold CL;rw[h]
def bsB (P:Program)(t:TypeId)(n:Nat)(ps:List (Nat×Value)):Option ((Nat→Value)×eY):=
 match aw P t n ps [] with
 |some (_,[.hZ b])=>some (λi=>.slice (some ⟨i,0,none⟩) n n,b)
 |_=>none
def Zp (z:List Value)(x:Value)(H:ae):Option (Value×ae):=
 match x with
 | .slice base n _=>
  match base with
  |none=>some (undef,H)
  |some ⟨i,off,none⟩=>if n=0 then some (undef,H) else(bG H i off (ct z n)).map λH'=>(undef,H')
  |_=>none
 |_=>none
def bQ (i:Nat)(x:Value)(H:ae):Option (Value×ae):=
 match x with
 | .tuple vs=>(vs[i]?).map (·,H)
 |_=>none
def sK (k:IntKind)(x:Value)(H:ae):Option (Value×ae):=
 match x with
 | .int _ n=>some (.int k (k.wrap n),H)
 |_=>none
def cB (t:TypeId)(x:Value)(H:ae):Option (Value×ae):=
 if x.cells.toList.all aD then some (aO H t 1 x.cells.toList) else none
def cd (elem:TypeId)(size bytes:Nat)(s x:Value)(H:ae):Option (Value×ae):=
 match s with
 | .slice base sLen sCap=>
    match (match x with
     | .slice _ n _=>(bp H size n x).map λcs=>(n,cs)
     |_=>none:Option (Nat×List Value)) with
    |some (n,new)=>
     let need:=sLen+n
     if need≤sCap then
      match base with
      |none=>some (.slice none need sCap,H)
      |some ⟨i,off,none⟩=>if n=0 then some (.slice base need sCap,H) else
       match H.get i with
       |some b=>if b.es=size then(bG H i (off+sLen*size) new).map λH'=>(.slice base need sCap,H') else none
       |none=>none
      |_=>none
     else if need≤4294967296&&bytes≤4096&&size≠0 then
      match base with
      |none=>if sLen=0 then some (.slice (some ⟨H.length,0,none⟩) need need,H.new ⟨new,elem,size,false⟩) else none
      |some ⟨i,off,none⟩=>
       match H.get i with
       |some b=>
        if !b.ro&&b.es==size&&off+sCap*size==b.cells.length then
         match aA H i off (sLen*size) with
         |some old=>some (.slice (some ⟨H.length,0,none⟩) need need,(H.kill i).new ⟨old++new,elem,size,false⟩)
         |none=>none
        else none
       |none=>none
      |_=>none
     else none
    |none=>none
 |_=>none
def Zq (elem:TypeId)(size bytes:Nat)(z:List Value)(len cap:Value)(H:ae):Option (Value×ae):=
 match len,cap with
 | .int _ l,.int _ c=>
   if 0≤l∧l≤c∧c≤4294967296∧bytes≤4096∧size≠0 then
    some (.slice (some ⟨H.length,0,none⟩) l.toNat c.toNat,H.new ⟨ct z c.toNat,elem,size,false⟩)
   else none
 |_,_=>none
def msB (elem:TypeId)(size bytes:Nat)(z:List Value)(len cap:Value):Option ((Nat→Value)×eY):=
 match Zq elem size bytes z len cap [] with
 |some (.slice _ n m,[.hZ b])=>some (λi=>.slice (some ⟨i,0,none⟩) n m,b)
 |_=>none
def ad2 (x y:Value)(H:ae):Option (Value×ae):=
 match x,y with
 | .int k a,.int k' b=>if k=k' then some (.int k (if b<a then b else a),H) else none
 |_,_=>none
def QS (x y:Value)(H:ae):Option (Value×ae):=
 match x,y with
 | .int k a,.int k' b=>if k=k' then some (.int k (if b>a then b else a),H) else none
 |_,_=>none
def CM (N:Nat)(C:ag)(f:Value)(args:List Value)(H:ae):Option (Value×ae):=
 match f with
 | .func (.func g) first captured=>if g<N then C g (first.toList++args++captured.toList) H else none
 | .func (.yield i) _ _=>C (N+i) args H
 |_=>none
abbrev sl (keep:List Nat)(vs:List Value)(t:Nat):Value:=Env.get (keep.zip vs) t
end Go.Proofs.YtjgmnoaalbbonaaGreatA.Am
end
