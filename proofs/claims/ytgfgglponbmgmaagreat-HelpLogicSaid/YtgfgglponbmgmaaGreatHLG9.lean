/- Texts of the proof of helpLogic_holds, put together by a small program of ours (names shortened, spaces taken out). No condition beyond the given statement. -/
import Derived.Test.YtgfgglponbmgmaaGreatHLG8
import Derived.Test.YtgfgglponbmgmaaGreatProg
import Derived.KernelRfl
set_option linter.unusedVariables false
set_option linter.unusedSimpArgs false
set_option linter.unnecessarySimpa false
noncomputable section
section
namespace Go.Proofs.YtgfgglponbmgmaaGreatA.Am
variable {α:Type}
def af (x:Option (Value×aa))(k:Value→aa→Option α):Option α:=
 match x with
 |some (v,H)=>k v H
 |none=>none
@[simp] theorem cO (v:Value)(H:aa)(k:Value→aa→Option α):af (some (v,H)) k=k v H:=rfl
@[simp] theorem Zi (k:Value→aa→Option α):af none k=none:=rfl
def pS (x:Option Value)(H:aa):Option (Value×aa):=x.map (·,H)
@[simp] theorem kC (v:Value)(H:aa):pS (some v) H=some (v,H):=rfl
@[simp] theorem abf (H:aa):pS none H=none:=rfl
abbrev cv (x:Int):Value:=.int .i64 x
abbrev mv (x:Value)(H:aa)(k:Value→aa→Option α):Option α:=af (some (x,H)) k
abbrev VH:Type:=Option (Value×aa)
def gd (w:Option Bool)(x:Option (Value×aa))(H:aa):Option (Value×aa):=
 match w with
 |some true=>x
 |some false=>some (undef,H)
 |none=>none
@[simp] theorem u5 (x:Option (Value×aa))(H:aa):gd (some true) x H=x:=rfl
@[simp] theorem rB (x:Option (Value×aa))(H:aa):gd (some false) x H=some (undef,H):=rfl
def ag (v:Value)(want:Bool):Option Bool:=
 match v with
 | .bool b=>some (b==want)
 | .tuple vs=>if vs.isEmpty then some false else none
 |_=>none
@[simp] theorem UI (b want:Bool):ag (.bool b) want=some (b==want):=rfl
@[simp] theorem Tb (want:Bool):ag undef want=some false:=rfl
def aV (v:Value)(x y:Option α):Option α:=
 match v with
 | .bool true=>x
 | .bool false=>y
 |_=>none
@[simp] theorem Zj (x y:Option α):aV (.bool true) x y=x:=rfl
@[simp] theorem Yo (x y:Option α):aV (.bool false) x y=y:=rfl
def adj (c a b:Value):Option Value:=
 match c with
 | .bool t=>some (if t then a else b)
 |_=>none
def Fs (P:Program)(C:ae)(ops:Array Oper):List Oper→Env→aa→(Env→aa→Option α)→Option α
 | [],E,H,k=>k E H
 |o::r,E,H,k=>af (match o.guard with
   |none=>gk P C E H o
   |some _=>gd (dB ops o E) (gk P C E H o) H) λv H'=>Fs P C ops r (E.put o.dst v) H' k
theorem GA (P:Program)(C:ae)(ops:Array Oper)(l:List Oper)(E:Env)(H:aa)(k:Env→aa→Option α):
  Fs P C ops l E H k=match eC P C ops l E H with|some (E',H')=>k E' H'|none=>none:=by
 induction l generalizing E H with
 |nil=>rfl
 |cons o r ih=>
  rw[Fs,eC];cases hg:o.guard with
  |none=>
   have:dB ops o E=some true:=by simp only[dB,hg]
   rw[this];cases gk P C E H o with
   |none=>rfl
   |some p=>obtain⟨v,H'⟩:=p;simp only[cO];exact ih _ _
  |some g=>
   simp only;cases dB ops o E with
   |none=>rfl
   |some b=>
    cases b with
    |true=>
     simp only[u5];cases gk P C E H o with
     |none=>rfl
     |some p=>obtain⟨v,H'⟩:=p;simp only[cO];exact ih _ _
    |false=>simp only[rB,cO];exact ih _ _
def Ap (P:Program)(C:ae)(ops:Array Oper):List Oper→Env→aa→List (Env×aa)→(Env→aa→List (Env×aa)→Option α)→Option α
 | [],E,H,T,k=>k E H (T++[(E,H)])
 |o::r,E,H,T,k=>af (match o.guard with
   |none=>gk P C E H o
   |some _=>gd (dB ops o E) (gk P C E H o) H) λv H'=>Ap P C ops r (E.put o.dst v) H' (T++[(E,H)]) k
theorem ML (P:Program)(C:ae)(ops:Array Oper)(l:List Oper)(E:Env)(H:aa)(T:List (Env×aa))(k:Env→aa→List (Env×aa)→Option α):
  Ap P C ops l E H T k=match eC P C ops l E H with|some (E',H')=>k E' H' (T++trace P C ops l E H)|none=>none:=by
 induction l generalizing E H T with
 |nil=>rfl
 |cons o r ih=>
  rw[Ap,eC,trace];cases hg:o.guard with
  |none=>
   have:dB ops o E=some true:=by simp only[dB,hg]
   rw[this];cases gk P C E H o with
   |none=>rfl
   |some p=>obtain⟨v,H'⟩:=p;simp only[cO,ih,List.append_assoc,List.singleton_append]
  |some g=>
   simp only;cases dB ops o E with
   |none=>rfl
   |some b=>
    cases b with
    |true=>
     simp only[u5];cases gk P C E H o with
     |none=>rfl
     |some p=>obtain⟨v,H'⟩:=p;simp only[cO,ih,List.append_assoc,List.singleton_append]
    |false=>simp only[rB,cO,ih,List.append_assoc,List.singleton_append]
def Aq (P:Program)(C:ae)(F:List Nat)(base:Nat)(ops:Array Oper):List Oper→Nat→Env→aa→(Env→aa→Option α)→Option α
 | [],_,E,H,k=>k E H
 |o::r,j,E,H,k=>af (match o.guard with
   |none=>du P C F base j E H o
   |some _=>gd (dB ops o E) (du P C F base j E H o) H) λv H'=>Aq P C F base ops r (j+1) (E.put o.dst v) H' k
def sX (P:Program)(C:ae)(F:List Nat)(base:Nat)(ops:Array Oper):List Oper→Nat→Env→aa→List (Env×aa)→(Env→aa→List (Env×aa)→Option α)→Option α
 | [],_,E,H,T,k=>k E H (T++[(E,H)])
 |o::r,j,E,H,T,k=>af (match o.guard with
   |none=>du P C F base j E H o
   |some _=>gd (dB ops o E) (du P C F base j E H o) H) λv H'=>sX P C F base ops r (j+1) (E.put o.dst v) H' (T++[(E,H)]) k
theorem MM (P:Program)(C:ae)(F:List Nat)(base:Nat)(ops:Array Oper)(l:List Oper)(j:Nat)(E:Env)(H:aa)(k:Env→aa→Option α):
  Aq P C F base ops l j E H k=match cV P C F base ops l j E H with|some (E',H')=>k E' H'|none=>none:=by
 induction l generalizing j E H with
 |nil=>rfl
 |cons o r ih=>
  rw[Aq,cV];cases hg:o.guard with
  |none=>
   have:dB ops o E=some true:=by simp only[dB,hg]
   rw[this];cases du P C F base j E H o with
   |none=>rfl
   |some p=>obtain⟨v,H'⟩:=p;simp only[cO];exact ih _ _ _
  |some g=>
   simp only;cases dB ops o E with
   |none=>rfl
   |some b=>
    cases b with
    |true=>
     simp only[u5];cases du P C F base j E H o with
     |none=>rfl
     |some p=>obtain⟨v,H'⟩:=p;simp only[cO];exact ih _ _ _
    |false=>simp only[rB,cO];exact ih _ _ _
theorem I7 (P:Program)(C:ae)(F:List Nat)(base:Nat)(ops:Array Oper)(l:List Oper)(j:Nat)(E:Env)(H:aa)(T:List (Env×aa))(k:Env→aa→List (Env×aa)→Option α):
  sX P C F base ops l j E H T k=match cV P C F base ops l j E H with|some (E',H')=>k E' H' (T++ef P C F base ops l j E H)|none=>none:=by
 induction l generalizing j E H T with
 |nil=>rfl
 |cons o r ih=>
  rw[sX,cV,ef];cases hg:o.guard with
  |none=>
   have:dB ops o E=some true:=by simp only[dB,hg]
   rw[this];cases du P C F base j E H o with
   |none=>rfl
   |some p=>obtain⟨v,H'⟩:=p;simp only[cO,ih,List.append_assoc,List.singleton_append]
  |some g=>
   simp only;cases dB ops o E with
   |none=>rfl
   |some b=>
    cases b with
    |true=>
     simp only[u5];cases du P C F base j E H o with
     |none=>rfl
     |some p=>obtain⟨v,H'⟩:=p;simp only[cO,ih,List.append_assoc,List.singleton_append]
    |false=>simp only[rB,cO,ih,List.append_assoc,List.singleton_append]
def sY (n:Nat)(H:aa)(k:Nat→aa→Option α):Option α:=k H.length (H.cB n)
def rC (P:Program)(C:ae)(ops:Array Oper)(draw:Bool)(E:Env)(H:aa)(k:Env→aa→Option α):Option α:=
 if draw then
  match lG P ops with
  | []=>match mq P ops with
   | []=>Fs P C ops ops.toList E H k
   |cs=>Ap P C ops ops.toList E H [] λE' H' T=>if cs.all (iH P ops T) then k E' H' else none
  |F=>sY F.length H λbase H=>match mq P ops with
   | []=>Aq P C F base ops ops.toList 0 E H k
   |cs=>sX P C F base ops ops.toList 0 E H [] λE' H' T=>if cs.all (iH P ops T) then k E' H' else none
 else Fs P C ops ops.toList E H k
theorem Ft (P:Program)(C:ae)(ops:Array Oper)(draw:Bool)(E:Env)(H:aa)(k:Env→aa→Option α):
  rC P C ops draw E H k=match eV P C ops draw E H with|some (E',H')=>k E' H'|none=>none:=by
 unfold rC eV;cases draw with
 |false=>simp only[Bool.false_eq_true,if_false];exact GA ..
 |true=>
  simp only[if_true];cases lG P ops with
  |nil=>
   simp only;cases mq P ops with
   |nil=>exact GA ..
   |cons c cs=>
    simp only[ML,List.nil_append];cases eC P C ops ops.toList E H with
    |none=>by_cases hb:(c::cs).all (iH P ops (trace P C ops ops.toList E H))=true<;>simp only[hb,if_true,if_false,Bool.false_eq_true]
    |some q=>
     obtain⟨E',H'⟩:=q;by_cases hb:(c::cs).all (iH P ops (trace P C ops ops.toList E H))=true<;>simp only[hb,if_true,if_false,Bool.false_eq_true]
  |cons f F=>
   simp only[sY];cases mq P ops with
   |nil=>exact MM ..
   |cons c cs=>
    simp only[I7,List.nil_append];cases cV P C (f::F) H.length ops ops.toList 0 E (H.cB (f::F).length) with
    |none=>by_cases hb:(c::cs).all (iH P ops (ef P C (f::F) H.length ops ops.toList 0 E (H.cB (f::F).length)))=true<;>simp only[hb,if_true,if_false,Bool.false_eq_true]
    |some q=>
     obtain⟨E',H'⟩:=q;by_cases hb:(c::cs).all (iH P ops (ef P C (f::F) H.length ops ops.toList 0 E (H.cB (f::F).length)))=true<;>simp only[hb,if_true,if_false,Bool.false_eq_true]
def lr (wx wy:Option Bool)(u u1 u2:Option (Value×aa)):Bool:=
 match wx,wy with
 |some true,some true=>match u,u1,u2 with
  |some (u,_),some (u1,_),some (u2,_)=>pG u u1&&pG u u2
  |_,_,_=>false
 |some _,some _=>true
 |_,_=>false
@[simp] theorem Zk (u u1 u2:Value)(H H1 H2:aa):lr (some true) (some true) (some (u,H)) (some (u1,H1)) (some (u2,H2))=(pG u u1&&pG u u2):=rfl
@[simp] theorem abu (w:Bool)(u u1 u2:Option (Value×aa)):lr (some false) (some w) u u1 u2=true:=by cases w<;>rfl
@[simp] theorem abv (w:Bool)(u u1 u2:Option (Value×aa)):lr (some w) (some false) u u1 u2=true:=by cases w<;>rfl
@[simp] theorem mS (k:IntKind)(a:Int):pG (.int k a) (.int k a)=true:=by simp[pG,Bc]
@[simp] theorem jM (a:Option Addr):pG (.pointer a) (.pointer a)=true:=by simp[pG,Bc]
@[simp] theorem kJ (a:Option Addr)(n c:Nat):pG (.slice a n c) (.slice a n c)=true:=by simp[pG,Bc]
def fin:bE→List Value→aa→bn:=λe vs H=>some (e,vs,H)
def cd (x:bn)(k:bE→List Value→aa→Option α):Option α:=
 match x with
 |some (e,vs,H)=>k e vs H
 |none=>none
@[simp] theorem iK (e:bE)(vs:List Value)(H:aa)(k:bE→List Value→aa→Option α):cd (some (e,vs,H)) k=k e vs H:=rfl
def up {β:Type}(x:β):β:=(λ(_:Option Nat)=>x) (af (α:=Nat) none λ_ _=>none)
def dM (kb:List Value→aa→Option α)(k:bE→List Value→aa→Option α):bE→List Value→aa→Option α:=
 λe vs H=>up (match e with
  | .normal=>kb vs H
  |e=>k e vs H)
def dG (id:Nat)(k:bE→List Value→aa→Option α):bE→List Value→aa→Option α:=
 λe vs H=>up (match e with
  | .exit i=>if i=id then k .normal vs H else k (.exit i) vs H
  |e=>k e vs H)
@[simp] theorem DG (kb:List Value→aa→Option α)(k:bE→List Value→aa→Option α)(vs:List Value)(H:aa):dM kb k .normal vs H=kb vs H:=rfl
@[simp] theorem Yp (kb:List Value→aa→Option α)(k:bE→List Value→aa→Option α)(i:Nat)(vs:List Value)(H:aa):dM kb k (.exit i) vs H=k (.exit i) vs H:=rfl
@[simp] theorem Zl (kb:List Value→aa→Option α)(k:bE→List Value→aa→Option α)(vs:List Value)(H:aa):dM kb k .ret vs H=k .ret vs H:=rfl
@[simp] theorem Tc (id:Nat)(k:bE→List Value→aa→Option α)(vs:List Value)(H:aa):dG id k .normal vs H=k .normal vs H:=rfl
@[simp] theorem Zm (id:Nat)(k:bE→List Value→aa→Option α)(vs:List Value)(H:aa):dG id k .ret vs H=k .ret vs H:=rfl
@[simp] theorem I8 (id i:Nat)(k:bE→List Value→aa→Option α)(vs:List Value)(H:aa):dG id k (.exit i) vs H=if i=id then k .normal vs H else k (.exit i) vs H:=rfl
def UJ (N:Nat)(C:ae)(g:Value)(L:SQ)(H:aa):Option (sH×aa):=
 match g with
 | .func (.func gf) first captured=>
  if gf<N then
   match C gf (first.toList++[.func (.yield H.length) #[] #[]]++captured.toList) (H.jZ (.loop L .ready)) with
   |some (_,H')=>match H'.dT H.length with
    |some (.loop _ s)=>some (s,H'.kill H.length)
    |_=>none
   |none=>none
  else none
 |_=>none
def DH (x:Option (sH×aa))(k:bE→aa→Option α):Option α:=
 match x with
 |some (.ready,H)=>k .normal H
 |some (.ret,H)=>k .ret H
 |some (.exit id,H)=>k (.exit id) H
 |_=>none
@[simp] theorem Td (H:aa)(k:bE→aa→Option α):DH (some (.ready,H)) k=k .normal H:=rfl
@[simp] theorem Yq (H:aa)(k:bE→aa→Option α):DH (some (.ret,H)) k=k .ret H:=rfl
@[simp] theorem UK (id:Nat)(H:aa)(k:bE→aa→Option α):DH (some (.exit id,H)) k=k (.exit id) H:=rfl
def nO (P:Program)(C:ae)(keep:List Nat)(n:Nat):{α:Type}→Code→List Value→aa→(bE→List Value→aa→Option α)→Option α
 |_,.skip,vs,H,k=>k .normal vs H
 |_,.label _,vs,H,k=>k .normal vs H
 |_,.region _ ops draw,vs,H,k=>rC P C ops draw (keep.zip vs) H λE H'=>k .normal (keep.map E.get) H'
 |_,.seq a b,vs,H,k=>nO P C keep n a vs H (dM (λiU H'=>nO P C keep n b iU H' k) k)
 |_,.cond c a b,vs,H,k=>aV (n3 (keep.zip vs) c) (nO P C keep n a vs H k) (nO P C keep n b vs H k)
 |_,.block id c,vs,H,k=>nO P C keep n c vs H (dG id k)
 |_,.loop c,vs,H,k=>cd (iter n (λvs H=>nO P C keep n c vs H fin) vs H) k
 |_,.exit id,vs,H,k=>k (.exit id) vs H
 |_,.scope c,vs,H,k=>nO P C keep n c vs H k
 |_,.ret,vs,H,k=>k .ret vs H
 |_,.goto _,_,_,_=>none
 |_,.rangeFunc g ps x y,vs,H,k=>DH (UJ P.funcs.size C (n3 (keep.zip vs) g) ⟨keep,vs,ps,x,y⟩ H) λe H'=>k e vs H'
 |_,.refuse _,_,_,_=>none
theorem Fu {n:Nat}{f g:List Value→aa→bn}(h: ∀vs H,f vs H=g vs H):iter n f=iter n g:=by
 have:f=g:=funext λvs=>funext λH=>h vs H
 rw[this]
theorem UL (P:Program)(C:ae)(keep:List Nat)(n:Nat)(c:Code): ∀{α:Type} (vs:List Value) (H:aa) (k:bE→List Value→aa→Option α),
  nO P C keep n c vs H k=cd (ev P C keep n c vs H) k:=by
 induction c with
 |skip=>intros;simp only[nO,ev,iK]
 |label _=>intros;simp only[nO,ev,iK]
 |region p ops draw=>
  intro α vs H k;simp only[nO,ev,Ft];cases eV P C ops draw (keep.zip vs) H with
  |none=>rfl
  |some p=>rfl
 |seq a b I9 Ja=>
  intro α vs H k;simp only[nO,ev];rw[I9];cases ev P C keep n a vs H with
  |none=>rfl
  |some p=>
   obtain⟨e,iU,H'⟩:=p;cases e with
   |normal=>simp only[iK,DG];exact Ja _ _ _
   |_=>rfl
 |cond c a b I9 Ja=>
  intro α vs H k;simp only[nO,ev,I9,Ja];generalize n3 (keep.zip vs) c=v
  cases v with
  |bool t=>cases t<;>rfl
  |_=>rfl
 |block id c ih=>
  intro α vs H k;simp only[nO,ev];rw[ih];cases ev P C keep n c vs H with
  |none=>rfl
  |some p=>
   obtain⟨e,iU,H'⟩:=p;cases e with
   |exit i=>
    simp only[iK,I8];split<;>rfl
   |_=>rfl
 |loop c ih=>
  intro α vs H k;simp only[nO,ev];rw[Fu (g:=ev P C keep n c)];intro vs H;rw[ih];cases ev P C keep n c vs H with
  |none=>rfl
  |some p=>rfl
 |exit _=>intros;simp only[nO,ev,iK]
 |scope c ih=>intro α vs H k;simp only[nO,ev,ih]
 |ret=>intros;simp only[nO,ev,iK]
 |goto _=>intros;rfl
 |rangeFunc g ps x y _ _=>
  intro α vs H k;simp only[nO,ev,UJ];generalize n3 (keep.zip vs) g=v
  cases v with
  |func fn first captured=>
   cases fn with
   |func gf=>
    by_cases gB:gf<P.funcs.size
    ·simp only[gB,if_true];cases C gf (first.toList++[.func (.yield H.length) #[] #[]]++captured.toList) (H.jZ (.loop ⟨keep,vs,ps,x,y⟩ .ready)) with
     |none=>rfl
     |some q=>
      obtain⟨u,H'⟩:=q;simp only;cases H'.dT H.length with
      |none=>rfl
      |some o=>
       cases o with
       |EE _ _=>rfl
       |loop L s=>cases s<;>rfl
    ·simp only[gB,if_false];rfl
   |_=>rfl
  |_=>rfl
 |refuse _=>intros;rfl
def Jb (P:Program)(E:Env)(H:aa):List ResultVar→(List Value→Option (Value×aa))→Option (Value×aa)
 | [],k=>k []
 | .tmp t::r,k=>Jb P E H r λvs=>k (E.get t::vs)
 | .cell a t::r,k=>af (pS (iY P t (E.get a) H) H) λv _=>Jb P E H r λvs=>k (v::vs)
def abw (H:aa):List Value→Option (Value×aa)
 | [v]=>some (v,H)
 |vs=>some (.tuple vs.toArray,H)
def Jc (P:Program)(rs:List ResultVar)(E:Env)(H:aa):Option (Value×aa):=Jb P E H rs (abw H)
theorem BE (P:Program)(E:Env)(H:aa): ∀(rs:List ResultVar) (k:List Value→Option (Value×aa)),Jb P E H rs k=(rs.mapM λ(r:ResultVar)=>match r with
  | .tmp t=>some (E.get t)
  | .cell a t=>iY P t (E.get a) H).bind k
 | [],k=>rfl
 | .tmp t::r,k=>by
  rw[Jb,BE P E H r,List.mapM_cons];simp only[Option.bind_eq_bind,Option.bind_some,Option.bind_assoc,Option.pure_def]
 | .cell a t::r,k=>by
  rw[Jb,List.mapM_cons];simp only[Option.bind_eq_bind,Option.bind_assoc,Option.pure_def,Option.bind_some];cases iY P t (E.get a) H with
  |none=>rfl
  |some v=>simp only[kC,cO,Option.bind_some];exact BE P E H r _
theorem Qa (P:Program)(fn:Func)(E:Env)(H:aa):Jc P fn.results.toList E H=(Bd P fn E H).map (·,H):=by
 unfold Jc Bd;rw[BE];generalize (fn.results.toList.mapM λ(r:ResultVar)=>match r with
  | .tmp t=>some (E.get t)
  | .cell a t=>iY P t (E.get a) H)=x
 cases x with
 |none=>rfl
 |some vs=>
  match vs with
  | []=>rfl
  | [v]=>rfl
  |_::_::_=>rfl
def dX (P:Program)(rs:List ResultVar)(keep:List Nat):bE→List Value→aa→Option (Value×aa):=
 λe vs H=>match e with
  | .normal| .ret=>Jc P rs (keep.zip vs) H
  | .exit _=>none
@[simp] theorem Te (P:Program)(rs:List ResultVar)(keep:List Nat)(vs:List Value)(H:aa):dX P rs keep .normal vs H=Jc P rs (keep.zip vs) H:=rfl
@[simp] theorem Zn (P:Program)(rs:List ResultVar)(keep:List Nat)(vs:List Value)(H:aa):dX P rs keep .ret vs H=Jc P rs (keep.zip vs) H:=rfl
def GB (P:Program)(C:ae)(n:Nat)(fn:Func)(keep:List Nat)(args:List Value)(H:aa):Option (Value×aa):=
 match fn.body with
 |some c=>nO P C keep n c (keep.map λt=>args.getD t undef) H (dX P fn.results.toList keep)
 |none=>none
theorem an {P:Program}{bad:List FuncId}{G:ae}{n:Nat}{f:FuncId}{fn:Func}(hb:bad.contains f=false)(hf:P.funcs[f]? =some fn){keep:List Nat}(hk:mJ fn=keep)(args:List Value)(H:aa):
  gr P bad G (n+1) f args H=GB P (gr P bad G n) n fn keep args H:=by
 subst hk;unfold GB
 conv=>lhs;unfold gr
 rw[hb,hf];simp only[Bool.false_eq_true,if_false];cases fn.body with
 |none=>rfl
 |some c=>
  simp only;rw[UL];generalize ev P (gr P bad G n) (mJ fn) n c ((mJ fn).map λt=>args.getD t undef) H=x
  cases x with
  |none=>rfl
  |some p=>
   obtain⟨e,vs,H'⟩:=p;cases e<;>simp only[iK,Qa,dX]
def aK (c a b:Value)(H:aa):Option (Value×aa):=
 match c with
 | .bool t=>some (if t then a else b,H)
 |_=>none
def aq (p:Value)(H:aa):Option Value:=
 match p with
 | .pointer (some ⟨i,off,none⟩)=>match H.get i with
  |some b=>b.cells[off]?
  |none=>none
 |_=>none
def cZ (n:Nat)(p:Value)(H:aa):Option Value:=
 match p with
 | .pointer (some ⟨i,off,none⟩)=>match aR H i off n with
  |some vs=>some (.agg vs.toArray)
  |none=>none
 |_=>none
def bD (n:Nat)(p v:Value)(H:aa):Option (Value×aa):=
 (match p with
 | .pointer (some ⟨i,off,none⟩)=>if v.cells.size=n∧known v=true then bW H i off v.cells.toList else none
 |_=>none:Option aa).map (undef,·)
def au (x:Value)(H:aa):Option (Value×aa):=
 match x with
 | .pointer (some a)=>some (.pointer (some a),H)
 | .func (.func g) f c=>some (.func (.func g) f c,H)
 |_=>none
def al (off:Nat)(x:Value)(H:aa):Option (Value×aa):=
 match x with
 | .pointer (some ⟨i,o,none⟩)=>some (.pointer (some ⟨i,o+off,none⟩),H)
 |_=>none
def cK (es:Nat)(x i:Value)(H:aa):Option (Value×aa):=
 match x,i with
 | .slice (some ⟨b,off,none⟩) len _,.int _ n=>if 0≤n∧n<len then some (.pointer (some ⟨b,off+n.toNat*es,none⟩),H) else none
 |_,_=>none
def aer (len es:Nat)(x i:Value)(H:aa):Option (Value×aa):=
 match x,i with
 | .pointer (some ⟨b,off,none⟩),.int _ n=>if 0≤n∧n<len then some (.pointer (some ⟨b,off+n.toNat*es,none⟩),H) else none
 |_,_=>none
def cG (x:Value):Option Value:=
 match x with
 | .slice _ n _=>some (.int .i64 n)
 |_=>none
def pJ (es:Nat)(H:aa)(x:Value)(lo hi:Option Value):Option Value:=
 match x with
 | .slice a len cap=>
   match db len hi,db 0 lo with
   |some h,some l=>if 0≤h∧h≤cap∧0≤l∧l≤h then
     match a with
     |none=>some (.slice none 0 0)
     |some ⟨i,off,none⟩=>match H.get i with
      |some b=>if b.es=es then some (.slice (some ⟨i,off+l.toNat*es,none⟩) (h.toNat-l.toNat) (cap-l.toNat)) else if cap=0 then some (.slice (some ⟨i,off,none⟩) 0 0) else none
      |none=>if cap=0 then some (.slice (some ⟨i,off,none⟩) 0 0) else none
     |_=>none
    else none
   |_,_=>none
 |_=>none
def Jd (i:Nat)(x:Option ((Nat→Value)×eM))(H:aa):Option (Value×aa):=
 match H[i]? with
 |some .hole=>match x with
  |some (mk,b)=>some (mk i,H.set i (.y7 b))
  |none=>none
 |_=>none
theorem GC {i:Nat}{mk:Nat→Value}{b:eM}{H:aa}(h:H[i]? =some .hole):Jd i (some (mk,b)) H=some (mk i,H.set i (.y7 b)):=by
 unfold Jd;rw[h]
def bsB (P:Program)(t:TypeId)(n:Nat)(ps:List (Nat×Value)):Option ((Nat→Value)×eM):=
 match ay P t n ps [] with
 |some (_,[.y7 b])=>some (λi=>.slice (some ⟨i,0,none⟩) n n,b)
 |_=>none
def cg (i:Nat)(x:Value)(H:aa):Option (Value×aa):=
 match x with
 | .tuple vs=>(vs[i]?).map (·,H)
 |_=>none
def Ar (k:IntKind)(x:Value)(H:aa):Option (Value×aa):=
 match x with
 | .int _ n=>some (.int k (k.wrap n),H)
 |_=>none
def dH (t:TypeId)(x:Value)(H:aa):Option (Value×aa):=
 if x.cells.toList.all aD then some (aS H t 1 x.cells.toList) else none
def de (elem:TypeId)(size bytes:Nat)(s x:Value)(H:aa):Option (Value×aa):=
 match s with
 | .slice base sLen sCap=>
    match (match x with
     | .slice _ n _=>(cF H size n x).map λcs=>(n,cs)
     |_=>none:Option (Nat×List Value)) with
    |some (n,new)=>
     let need:=sLen+n
     if need≤sCap then
      match base with
      |none=>some (.slice none need sCap,H)
      |some ⟨i,off,none⟩=>if n=0 then some (.slice base need sCap,H) else
       match H.get i with
       |some b=>if b.es=size then(bW H i (off+sLen*size) new).map λH'=>(.slice base need sCap,H') else none
       |none=>none
      |_=>none
     else if need≤4294967296&&bytes≤4096&&size≠0 then
      match base with
      |none=>if sLen=0 then some (.slice (some ⟨H.length,0,none⟩) need need,H.new ⟨new,elem,size,false⟩) else none
      |some ⟨i,off,none⟩=>
       match H.get i with
       |some b=>
        if !b.ro&&b.es==size&&off+sCap*size==b.cells.length then
         match aR H i off (sLen*size) with
         |some old=>some (.slice (some ⟨H.length,0,none⟩) need need,(H.kill i).new ⟨old++new,elem,size,false⟩)
         |none=>none
        else none
       |none=>none
      |_=>none
     else none
    |none=>none
 |_=>none
def UM (elem:TypeId)(size bytes:Nat)(z:List Value)(len cap:Value)(H:aa):Option (Value×aa):=
 match len,cap with
 | .int _ l,.int _ c=>
   if 0≤l∧l≤c∧c≤4294967296∧bytes≤4096∧size≠0 then
    some (.slice (some ⟨H.length,0,none⟩) l.toNat c.toNat,H.new ⟨bK z c.toNat,elem,size,false⟩)
   else none
 |_,_=>none
def msB (elem:TypeId)(size bytes:Nat)(z:List Value)(len cap:Value):Option ((Nat→Value)×eM):=
 match UM elem size bytes z len cap [] with
 |some (.slice _ n m,[.y7 b])=>some (λi=>.slice (some ⟨i,0,none⟩) n m,b)
 |_=>none
def Zp (x y:Value)(H:aa):Option (Value×aa):=
 match x,y with
 | .int k a,.int k' b=>if k=k' then some (.int k (if b<a then b else a),H) else none
 |_,_=>none
def MN (x y:Value)(H:aa):Option (Value×aa):=
 match x,y with
 | .int k a,.int k' b=>if k=k' then some (.int k (if b>a then b else a),H) else none
 |_,_=>none
abbrev sl (keep:List Nat)(vs:List Value)(t:Nat):Value:=Env.get (keep.zip vs) t
end Go.Proofs.YtgfgglponbmgmaaGreatA.Am
end
section
namespace Go.Proofs.YtgfgglponbmgmaaGreat.Fun
open Go.RowKit Go.Proofs.YtgfgglponbmgmaaGreatA.Am
set_option maxRecDepth 10000
abbrev ks:List FuncId:=[14,25,34,45]
theorem Zq:oj Tryz.prog=[]:=by kernel_rfl
theorem av (f:FuncId)(h:(ks++[]:List FuncId).contains f=false):(ks++oj Tryz.prog).contains f=false:=by rw[Zq];exact h
def run (G:ae)(n:Nat):ae:=gr Tryz.prog (ks++oj Tryz.prog) G n
end Go.Proofs.YtgfgglponbmgmaaGreat.Fun
end
