/- Texts of the proof of dcssPlays_holds, put together by a small program of ours (names shortened, spaces taken out). No condition beyond the given statement. -/
import Derived.Test.YtgfgglponbmgmaaGreatDCP8
import Derived.Test.YtgfgglponbmgmaaGreatProg
import Derived.KernelRfl
set_option linter.unusedVariables false
set_option linter.unusedSimpArgs false
set_option linter.unnecessarySimpa false
noncomputable section
section
namespace Go.Proofs.YtgfgglponbmgmaaGreatA.Am
variable {α:Type}
def af (x:Option (Value×aa))(k:Value→aa→Option α):Option α:=
 match x with
 |some (v,H)=>k v H
 |none=>none
@[simp] theorem cQ (v:Value)(H:aa)(k:Value→aa→Option α):af (some (v,H)) k=k v H:=rfl
@[simp] theorem aaB (k:Value→aa→Option α):af none k=none:=rfl
def pS (x:Option Value)(H:aa):Option (Value×aa):=x.map (·,H)
@[simp] theorem kG (v:Value)(H:aa):pS (some v) H=some (v,H):=rfl
@[simp] theorem acu (H:aa):pS none H=none:=rfl
abbrev cv (x:Int):Value:=.int .i64 x
abbrev mv (x:Value)(H:aa)(k:Value→aa→Option α):Option α:=af (some (x,H)) k
abbrev VH:Type:=Option (Value×aa)
def gd (w:Option Bool)(x:Option (Value×aa))(H:aa):Option (Value×aa):=
 match w with
 |some true=>x
 |some false=>some (undef,H)
 |none=>none
@[simp] theorem vq (x:Option (Value×aa))(H:aa):gd (some true) x H=x:=rfl
@[simp] theorem rJ (x:Option (Value×aa))(H:aa):gd (some false) x H=some (undef,H):=rfl
def ag (v:Value)(want:Bool):Option Bool:=
 match v with
 | .bool b=>some (b==want)
 | .tuple vs=>if vs.isEmpty then some false else none
 |_=>none
@[simp] theorem WH (b want:Bool):ag (.bool b) want=some (b==want):=rfl
@[simp] theorem UX (want:Bool):ag undef want=some false:=rfl
def aT (v:Value)(x y:Option α):Option α:=
 match v with
 | .bool true=>x
 | .bool false=>y
 |_=>none
@[simp] theorem aaC (x y:Option α):aT (.bool true) x y=x:=rfl
@[simp] theorem aac (x y:Option α):aT (.bool false) x y=y:=rfl
def ad2 (c a b:Value):Option Value:=
 match c with
 | .bool t=>some (if t then a else b)
 |_=>none
def Gj (P:Program)(C:ae)(ops:Array Oper):List Oper→Env→aa→(Env→aa→Option α)→Option α
 | [],E,H,k=>k E H
 |o::r,E,H,k=>af (match o.guard with
   |none=>gA P C E H o
   |some _=>gd (dE ops o E) (gA P C E H o) H) λv H'=>Gj P C ops r (E.put o.dst v) H' k
theorem HR (P:Program)(C:ae)(ops:Array Oper)(l:List Oper)(E:Env)(H:aa)(k:Env→aa→Option α):
  Gj P C ops l E H k=match eK P C ops l E H with|some (E',H')=>k E' H'|none=>none:=by
 induction l generalizing E H with
 |nil=>rfl
 |cons o r ih=>
  rw[Gj,eK];cases hg:o.guard with
  |none=>
   have:dE ops o E=some true:=by simp only[dE,hg]
   rw[this];cases gA P C E H o with
   |none=>rfl
   |some p=>obtain⟨v,H'⟩:=p;simp only[cQ];exact ih _ _
  |some g=>
   simp only;cases dE ops o E with
   |none=>rfl
   |some b=>
    cases b with
    |true=>
     simp only[vq];cases gA P C E H o with
     |none=>rfl
     |some p=>obtain⟨v,H'⟩:=p;simp only[cQ];exact ih _ _
    |false=>simp only[rJ,cQ];exact ih _ _
def AS (P:Program)(C:ae)(ops:Array Oper):List Oper→Env→aa→List (Env×aa)→(Env→aa→List (Env×aa)→Option α)→Option α
 | [],E,H,T,k=>k E H (T++[(E,H)])
 |o::r,E,H,T,k=>af (match o.guard with
   |none=>gA P C E H o
   |some _=>gd (dE ops o E) (gA P C E H o) H) λv H'=>AS P C ops r (E.put o.dst v) H' (T++[(E,H)]) k
theorem N5 (P:Program)(C:ae)(ops:Array Oper)(l:List Oper)(E:Env)(H:aa)(T:List (Env×aa))(k:Env→aa→List (Env×aa)→Option α):
  AS P C ops l E H T k=match eK P C ops l E H with|some (E',H')=>k E' H' (T++trace P C ops l E H)|none=>none:=by
 induction l generalizing E H T with
 |nil=>rfl
 |cons o r ih=>
  rw[AS,eK,trace];cases hg:o.guard with
  |none=>
   have:dE ops o E=some true:=by simp only[dE,hg]
   rw[this];cases gA P C E H o with
   |none=>rfl
   |some p=>obtain⟨v,H'⟩:=p;simp only[cQ,ih,List.append_assoc,List.singleton_append]
  |some g=>
   simp only;cases dE ops o E with
   |none=>rfl
   |some b=>
    cases b with
    |true=>
     simp only[vq];cases gA P C E H o with
     |none=>rfl
     |some p=>obtain⟨v,H'⟩:=p;simp only[cQ,ih,List.append_assoc,List.singleton_append]
    |false=>simp only[rJ,cQ,ih,List.append_assoc,List.singleton_append]
def AT (P:Program)(C:ae)(F:List Nat)(base:Nat)(ops:Array Oper):List Oper→Nat→Env→aa→(Env→aa→Option α)→Option α
 | [],_,E,H,k=>k E H
 |o::r,j,E,H,k=>af (match o.guard with
   |none=>dA P C F base j E H o
   |some _=>gd (dE ops o E) (dA P C F base j E H o) H) λv H'=>AT P C F base ops r (j+1) (E.put o.dst v) H' k
def tz (P:Program)(C:ae)(F:List Nat)(base:Nat)(ops:Array Oper):List Oper→Nat→Env→aa→List (Env×aa)→(Env→aa→List (Env×aa)→Option α)→Option α
 | [],_,E,H,T,k=>k E H (T++[(E,H)])
 |o::r,j,E,H,T,k=>af (match o.guard with
   |none=>dA P C F base j E H o
   |some _=>gd (dE ops o E) (dA P C F base j E H o) H) λv H'=>tz P C F base ops r (j+1) (E.put o.dst v) H' (T++[(E,H)]) k
theorem N6 (P:Program)(C:ae)(F:List Nat)(base:Nat)(ops:Array Oper)(l:List Oper)(j:Nat)(E:Env)(H:aa)(k:Env→aa→Option α):
  AT P C F base ops l j E H k=match da P C F base ops l j E H with|some (E',H')=>k E' H'|none=>none:=by
 induction l generalizing j E H with
 |nil=>rfl
 |cons o r ih=>
  rw[AT,da];cases hg:o.guard with
  |none=>
   have:dE ops o E=some true:=by simp only[dE,hg]
   rw[this];cases dA P C F base j E H o with
   |none=>rfl
   |some p=>obtain⟨v,H'⟩:=p;simp only[cQ];exact ih _ _ _
  |some g=>
   simp only;cases dE ops o E with
   |none=>rfl
   |some b=>
    cases b with
    |true=>
     simp only[vq];cases dA P C F base j E H o with
     |none=>rfl
     |some p=>obtain⟨v,H'⟩:=p;simp only[cQ];exact ih _ _ _
    |false=>simp only[rJ,cQ];exact ih _ _ _
theorem Kk (P:Program)(C:ae)(F:List Nat)(base:Nat)(ops:Array Oper)(l:List Oper)(j:Nat)(E:Env)(H:aa)(T:List (Env×aa))(k:Env→aa→List (Env×aa)→Option α):
  tz P C F base ops l j E H T k=match da P C F base ops l j E H with|some (E',H')=>k E' H' (T++eB P C F base ops l j E H)|none=>none:=by
 induction l generalizing j E H T with
 |nil=>rfl
 |cons o r ih=>
  rw[tz,da,eB];cases hg:o.guard with
  |none=>
   have:dE ops o E=some true:=by simp only[dE,hg]
   rw[this];cases dA P C F base j E H o with
   |none=>rfl
   |some p=>obtain⟨v,H'⟩:=p;simp only[cQ,ih,List.append_assoc,List.singleton_append]
  |some g=>
   simp only;cases dE ops o E with
   |none=>rfl
   |some b=>
    cases b with
    |true=>
     simp only[vq];cases dA P C F base j E H o with
     |none=>rfl
     |some p=>obtain⟨v,H'⟩:=p;simp only[cQ,ih,List.append_assoc,List.singleton_append]
    |false=>simp only[rJ,cQ,ih,List.append_assoc,List.singleton_append]
def tA (n:Nat)(H:aa)(k:Nat→aa→Option α):Option α:=k H.length (H.cE n)
def rK (P:Program)(C:ae)(ops:Array Oper)(draw:Bool)(E:Env)(H:aa)(k:Env→aa→Option α):Option α:=
 if draw then
  match lM P ops with
  | []=>match mE P ops with
   | []=>Gj P C ops ops.toList E H k
   |cs=>AS P C ops ops.toList E H [] λE' H' T=>if cs.all (iN P ops T) then k E' H' else none
  |F=>tA F.length H λbase H=>match mE P ops with
   | []=>AT P C F base ops ops.toList 0 E H k
   |cs=>tz P C F base ops ops.toList 0 E H [] λE' H' T=>if cs.all (iN P ops T) then k E' H' else none
 else Gj P C ops ops.toList E H k
theorem Gk (P:Program)(C:ae)(ops:Array Oper)(draw:Bool)(E:Env)(H:aa)(k:Env→aa→Option α):
  rK P C ops draw E H k=match fg P C ops draw E H with|some (E',H')=>k E' H'|none=>none:=by
 unfold rK fg;cases draw with
 |false=>simp only[Bool.false_eq_true,if_false];exact HR ..
 |true=>
  simp only[if_true];cases lM P ops with
  |nil=>
   simp only;cases mE P ops with
   |nil=>exact HR ..
   |cons c cs=>
    simp only[N5,List.nil_append];cases eK P C ops ops.toList E H with
    |none=>by_cases hb:(c::cs).all (iN P ops (trace P C ops ops.toList E H))=true<;>simp only[hb,if_true,if_false,Bool.false_eq_true]
    |some q=>
     obtain⟨E',H'⟩:=q;by_cases hb:(c::cs).all (iN P ops (trace P C ops ops.toList E H))=true<;>simp only[hb,if_true,if_false,Bool.false_eq_true]
  |cons f F=>
   simp only[tA];cases mE P ops with
   |nil=>exact N6 ..
   |cons c cs=>
    simp only[Kk,List.nil_append];cases da P C (f::F) H.length ops ops.toList 0 E (H.cE (f::F).length) with
    |none=>by_cases hb:(c::cs).all (iN P ops (eB P C (f::F) H.length ops ops.toList 0 E (H.cE (f::F).length)))=true<;>simp only[hb,if_true,if_false,Bool.false_eq_true]
    |some q=>
     obtain⟨E',H'⟩:=q;by_cases hb:(c::cs).all (iN P ops (eB P C (f::F) H.length ops ops.toList 0 E (H.cE (f::F).length)))=true<;>simp only[hb,if_true,if_false,Bool.false_eq_true]
def lC (wx wy:Option Bool)(u u1 u2:Option (Value×aa)):Bool:=
 match wx,wy with
 |some true,some true=>match u,u1,u2 with
  |some (u,_),some (u1,_),some (u2,_)=>oj u u1&&oj u u2
  |_,_,_=>false
 |some _,some _=>true
 |_,_=>false
@[simp] theorem aaD (u u1 u2:Value)(H H1 H2:aa):lC (some true) (some true) (some (u,H)) (some (u1,H1)) (some (u2,H2))=(oj u u1&&oj u u2):=rfl
@[simp] theorem acH (w:Bool)(u u1 u2:Option (Value×aa)):lC (some false) (some w) u u1 u2=true:=by cases w<;>rfl
@[simp] theorem acI (w:Bool)(u u1 u2:Option (Value×aa)):lC (some w) (some false) u u1 u2=true:=by cases w<;>rfl
@[simp] theorem lS (k:IntKind)(a:Int):oj (.int k a) (.int k a)=true:=by simp[oj,zS]
@[simp] theorem Ed (a:Bool):oj (.bool a) (.bool a)=true:=by simp[oj,zS]
@[simp] theorem iX (a:Option Addr):oj (.pointer a) (.pointer a)=true:=by simp[oj,zS]
@[simp] theorem kN (a:Option Addr)(n c:Nat):oj (.slice a n c) (.slice a n c)=true:=by simp[oj,zS]
def fin:bG→List Value→aa→bk:=λe vs H=>some (e,vs,H)
def cm (x:bk)(k:bG→List Value→aa→Option α):Option α:=
 match x with
 |some (e,vs,H)=>k e vs H
 |none=>none
@[simp] theorem iQ (e:bG)(vs:List Value)(H:aa)(k:bG→List Value→aa→Option α):cm (some (e,vs,H)) k=k e vs H:=rfl
def up {β:Type}(x:β):β:=(λ(_:Option Nat)=>x) (af (α:=Nat) none λ_ _=>none)
def dQ (kb:List Value→aa→Option α)(k:bG→List Value→aa→Option α):bG→List Value→aa→Option α:=
 λe vs H=>up (match e with
  | .normal=>kb vs H
  |e=>k e vs H)
def dJ (id:Nat)(k:bG→List Value→aa→Option α):bG→List Value→aa→Option α:=
 λe vs H=>up (match e with
  | .exit i=>if i=id then k .normal vs H else k (.exit i) vs H
  |e=>k e vs H)
@[simp] theorem Ee (kb:List Value→aa→Option α)(k:bG→List Value→aa→Option α)(vs:List Value)(H:aa):dQ kb k .normal vs H=kb vs H:=rfl
@[simp] theorem aad (kb:List Value→aa→Option α)(k:bG→List Value→aa→Option α)(i:Nat)(vs:List Value)(H:aa):dQ kb k (.exit i) vs H=k (.exit i) vs H:=rfl
@[simp] theorem aaE (kb:List Value→aa→Option α)(k:bG→List Value→aa→Option α)(vs:List Value)(H:aa):dQ kb k .ret vs H=k .ret vs H:=rfl
@[simp] theorem UY (id:Nat)(k:bG→List Value→aa→Option α)(vs:List Value)(H:aa):dJ id k .normal vs H=k .normal vs H:=rfl
@[simp] theorem aaF (id:Nat)(k:bG→List Value→aa→Option α)(vs:List Value)(H:aa):dJ id k .ret vs H=k .ret vs H:=rfl
@[simp] theorem Kl (id i:Nat)(k:bG→List Value→aa→Option α)(vs:List Value)(H:aa):dJ id k (.exit i) vs H=if i=id then k .normal vs H else k (.exit i) vs H:=rfl
def WI (N:Nat)(C:ae)(g:Value)(L:UJ)(H:aa):Option (sU×aa):=
 match g with
 | .func (.func gf) first captured=>
  if gf<N then
   match C gf (first.toList++[.func (.yield H.length) #[] #[]]++captured.toList) (H.km (.loop L .ready)) with
   |some (_,H')=>match H'.dZ H.length with
    |some (.loop _ s)=>some (s,H'.kill H.length)
    |_=>none
   |none=>none
  else none
 |_=>none
def Ef (x:Option (sU×aa))(k:bG→aa→Option α):Option α:=
 match x with
 |some (.ready,H)=>k .normal H
 |some (.ret,H)=>k .ret H
 |some (.exit id,H)=>k (.exit id) H
 |_=>none
@[simp] theorem UZ (H:aa)(k:bG→aa→Option α):Ef (some (.ready,H)) k=k .normal H:=rfl
@[simp] theorem aae (H:aa)(k:bG→aa→Option α):Ef (some (.ret,H)) k=k .ret H:=rfl
@[simp] theorem WJ (id:Nat)(H:aa)(k:bG→aa→Option α):Ef (some (.exit id,H)) k=k (.exit id) H:=rfl
def nU (P:Program)(C:ae)(keep:List Nat)(n:Nat):{α:Type}→Code→List Value→aa→(bG→List Value→aa→Option α)→Option α
 |_,.skip,vs,H,k=>k .normal vs H
 |_,.label _,vs,H,k=>k .normal vs H
 |_,.region _ ops draw,vs,H,k=>rK P C ops draw (keep.zip vs) H λE H'=>k .normal (keep.map E.get) H'
 |_,.seq a b,vs,H,k=>nU P C keep n a vs H (dQ (λiY H'=>nU P C keep n b iY H' k) k)
 |_,.cond c a b,vs,H,k=>aT (eF (keep.zip vs) c) (nU P C keep n a vs H k) (nU P C keep n b vs H k)
 |_,.block id c,vs,H,k=>nU P C keep n c vs H (dJ id k)
 |_,.loop c,vs,H,k=>cm (iter n (λvs H=>nU P C keep n c vs H fin) vs H) k
 |_,.exit id,vs,H,k=>k (.exit id) vs H
 |_,.scope c,vs,H,k=>nU P C keep n c vs H k
 |_,.ret,vs,H,k=>k .ret vs H
 |_,.goto _,_,_,_=>none
 |_,.rangeFunc g ps x y,vs,H,k=>Ef (WI P.funcs.size C (eF (keep.zip vs) g) ⟨keep,vs,ps,x,y⟩ H) λe H'=>k e vs H'
 |_,.refuse _,_,_,_=>none
theorem Gl {n:Nat}{f g:List Value→aa→bk}(h: ∀vs H,f vs H=g vs H):iter n f=iter n g:=by
 have:f=g:=funext λvs=>funext λH=>h vs H
 rw[this]
theorem WK (P:Program)(C:ae)(keep:List Nat)(n:Nat)(c:Code): ∀{α:Type} (vs:List Value) (H:aa) (k:bG→List Value→aa→Option α),
  nU P C keep n c vs H k=cm (ev P C keep n c vs H) k:=by
 induction c with
 |skip=>intros;simp only[nU,ev,iQ]
 |label _=>intros;simp only[nU,ev,iQ]
 |region p ops draw=>
  intro α vs H k;simp only[nU,ev,Gk];cases fg P C ops draw (keep.zip vs) H with
  |none=>rfl
  |some p=>rfl
 |seq a b Km Kn=>
  intro α vs H k;simp only[nU,ev];rw[Km];cases ev P C keep n a vs H with
  |none=>rfl
  |some p=>
   obtain⟨e,iY,H'⟩:=p;cases e with
   |normal=>simp only[iQ,Ee];exact Kn _ _ _
   |_=>rfl
 |cond c a b Km Kn=>
  intro α vs H k;simp only[nU,ev,Km,Kn];generalize eF (keep.zip vs) c=v
  cases v with
  |bool t=>cases t<;>rfl
  |_=>rfl
 |block id c ih=>
  intro α vs H k;simp only[nU,ev];rw[ih];cases ev P C keep n c vs H with
  |none=>rfl
  |some p=>
   obtain⟨e,iY,H'⟩:=p;cases e with
   |exit i=>
    simp only[iQ,Kl];split<;>rfl
   |_=>rfl
 |loop c ih=>
  intro α vs H k;simp only[nU,ev];rw[Gl (g:=ev P C keep n c)];intro vs H;rw[ih];cases ev P C keep n c vs H with
  |none=>rfl
  |some p=>rfl
 |exit _=>intros;simp only[nU,ev,iQ]
 |scope c ih=>intro α vs H k;simp only[nU,ev,ih]
 |ret=>intros;simp only[nU,ev,iQ]
 |goto _=>intros;rfl
 |rangeFunc g ps x y _ _=>
  intro α vs H k;simp only[nU,ev,WI];generalize eF (keep.zip vs) g=v
  cases v with
  |func fn first captured=>
   cases fn with
   |func gf=>
    by_cases gF:gf<P.funcs.size
    ·simp only[gF,if_true];cases C gf (first.toList++[.func (.yield H.length) #[] #[]]++captured.toList) (H.km (.loop ⟨keep,vs,ps,x,y⟩ .ready)) with
     |none=>rfl
     |some q=>
      obtain⟨u,H'⟩:=q;simp only;cases H'.dZ H.length with
      |none=>rfl
      |some o=>
       cases o with
       |Fv _ _=>rfl
       |loop L s=>cases s<;>rfl
    ·simp only[gF,if_false];rfl
   |_=>rfl
  |_=>rfl
 |refuse _=>intros;rfl
def Ko (P:Program)(E:Env)(H:aa):List ResultVar→(List Value→Option (Value×aa))→Option (Value×aa)
 | [],k=>k []
 | .tmp t::r,k=>Ko P E H r λvs=>k (E.get t::vs)
 | .cell a t::r,k=>af (pS (jf P t (E.get a) H) H) λv _=>Ko P E H r λvs=>k (v::vs)
def acJ (H:aa):List Value→Option (Value×aa)
 | [v]=>some (v,H)
 |vs=>some (.tuple vs.toArray,H)
def Kp (P:Program)(rs:List ResultVar)(E:Env)(H:aa):Option (Value×aa):=Ko P E H rs (acJ H)
theorem B5 (P:Program)(E:Env)(H:aa): ∀(rs:List ResultVar) (k:List Value→Option (Value×aa)),Ko P E H rs k=(rs.mapM λ(r:ResultVar)=>match r with
  | .tmp t=>some (E.get t)
  | .cell a t=>jf P t (E.get a) H).bind k
 | [],k=>rfl
 | .tmp t::r,k=>by
  rw[Ko,B5 P E H r,List.mapM_cons];simp only[Option.bind_eq_bind,Option.bind_some,Option.bind_assoc,Option.pure_def]
 | .cell a t::r,k=>by
  rw[Ko,List.mapM_cons];simp only[Option.bind_eq_bind,Option.bind_assoc,Option.pure_def,Option.bind_some];cases jf P t (E.get a) H with
  |none=>rfl
  |some v=>simp only[kG,cQ,Option.bind_some];exact B5 P E H r _
theorem RB (P:Program)(fn:Func)(E:Env)(H:aa):Kp P fn.results.toList E H=(BD P fn E H).map (·,H):=by
 unfold Kp BD;rw[B5];generalize (fn.results.toList.mapM λ(r:ResultVar)=>match r with
  | .tmp t=>some (E.get t)
  | .cell a t=>jf P t (E.get a) H)=x
 cases x with
 |none=>rfl
 |some vs=>
  match vs with
  | []=>rfl
  | [v]=>rfl
  |_::_::_=>rfl
def ek (P:Program)(rs:List ResultVar)(keep:List Nat):bG→List Value→aa→Option (Value×aa):=
 λe vs H=>match e with
  | .normal| .ret=>Kp P rs (keep.zip vs) H
  | .exit _=>none
@[simp] theorem U0 (P:Program)(rs:List ResultVar)(keep:List Nat)(vs:List Value)(H:aa):ek P rs keep .normal vs H=Kp P rs (keep.zip vs) H:=rfl
@[simp] theorem aaG (P:Program)(rs:List ResultVar)(keep:List Nat)(vs:List Value)(H:aa):ek P rs keep .ret vs H=Kp P rs (keep.zip vs) H:=rfl
def HS (P:Program)(C:ae)(n:Nat)(fn:Func)(keep:List Nat)(args:List Value)(H:aa):Option (Value×aa):=
 match fn.body with
 |some c=>nU P C keep n c (keep.map λt=>args.getD t undef) H (ek P fn.results.toList keep)
 |none=>none
theorem ao {P:Program}{bad:List FuncId}{G:ae}{n:Nat}{f:FuncId}{fn:Func}(hb:bad.contains f=false)(hf:P.funcs[f]? =some fn){keep:List Nat}(hk:mV fn=keep)(args:List Value)(H:aa):
  gC P bad G (n+1) f args H=HS P (gC P bad G n) n fn keep args H:=by
 subst hk;unfold HS
 conv=>lhs;unfold gC
 rw[hb,hf];simp only[Bool.false_eq_true,if_false];cases fn.body with
 |none=>rfl
 |some c=>
  simp only;rw[WK];generalize ev P (gC P bad G n) (mV fn) n c ((mV fn).map λt=>args.getD t undef) H=x
  cases x with
  |none=>rfl
  |some p=>
   obtain⟨e,vs,H'⟩:=p;cases e<;>simp only[iQ,RB,ek]
def aL (c a b:Value)(H:aa):Option (Value×aa):=
 match c with
 | .bool t=>some (if t then a else b,H)
 |_=>none
def aq (p:Value)(H:aa):Option Value:=
 match p with
 | .pointer (some ⟨i,off,none⟩)=>match H.get i with
  |some b=>b.cells[off]?
  |none=>none
 |_=>none
def df (n:Nat)(p:Value)(H:aa):Option Value:=
 match p with
 | .pointer (some ⟨i,off,none⟩)=>match aQ H i off n with
  |some vs=>some (.agg vs.toArray)
  |none=>none
 |_=>none
def bD (n:Nat)(p v:Value)(H:aa):Option (Value×aa):=
 (match p with
 | .pointer (some ⟨i,off,none⟩)=>if v.cells.size=n∧known v=true then bZ H i off v.cells.toList else none
 |_=>none:Option aa).map (undef,·)
def au (x:Value)(H:aa):Option (Value×aa):=
 match x with
 | .pointer (some a)=>some (.pointer (some a),H)
 | .func (.func g) f c=>some (.func (.func g) f c,H)
 |_=>none
def ak (off:Nat)(x:Value)(H:aa):Option (Value×aa):=
 match x with
 | .pointer (some ⟨i,o,none⟩)=>some (.pointer (some ⟨i,o+off,none⟩),H)
 |_=>none
def cH (es:Nat)(x i:Value)(H:aa):Option (Value×aa):=
 match x,i with
 | .slice (some ⟨b,off,none⟩) len _,.int _ n=>if 0≤n∧n<len then some (.pointer (some ⟨b,off+n.toNat*es,none⟩),H) else none
 |_,_=>none
def cD (x:Value):Option Value:=
 match x with
 | .slice _ n _=>some (.int .i64 n)
 |_=>none
def pF (es:Nat)(H:aa)(x:Value)(lo hi:Option Value):Option Value:=
 match x with
 | .slice a len cap=>
   match di len hi,di 0 lo with
   |some h,some l=>if 0≤h∧h≤cap∧0≤l∧l≤h then
     match a with
     |none=>some (.slice none 0 0)
     |some ⟨i,off,none⟩=>match H.get i with
      |some b=>if b.es=es then some (.slice (some ⟨i,off+l.toNat*es,none⟩) (h.toNat-l.toNat) (cap-l.toNat)) else if cap=0 then some (.slice (some ⟨i,off,none⟩) 0 0) else none
      |none=>if cap=0 then some (.slice (some ⟨i,off,none⟩) 0 0) else none
     |_=>none
    else none
   |_,_=>none
 |_=>none
def Kq (i:Nat)(x:Option ((Nat→Value)×eS))(H:aa):Option (Value×aa):=
 match H[i]? with
 |some .hole=>match x with
  |some (mk,b)=>some (mk i,H.set i (.zK b))
  |none=>none
 |_=>none
theorem HT {i:Nat}{mk:Nat→Value}{b:eS}{H:aa}(h:H[i]? =some .hole):Kq i (some (mk,b)) H=some (mk i,H.set i (.zK b)):=by
 unfold Kq;rw[h]
def bsB (P:Program)(t:TypeId)(n:Nat)(ps:List (Nat×Value)):Option ((Nat→Value)×eS):=
 match ay P t n ps [] with
 |some (_,[.zK b])=>some (λi=>.slice (some ⟨i,0,none⟩) n n,b)
 |_=>none
def cp (i:Nat)(x:Value)(H:aa):Option (Value×aa):=
 match x with
 | .tuple vs=>(vs[i]?).map (·,H)
 |_=>none
def AU (k:IntKind)(x:Value)(H:aa):Option (Value×aa):=
 match x with
 | .int _ n=>some (.int k (k.wrap n),H)
 |_=>none
def dK (t:TypeId)(x:Value)(H:aa):Option (Value×aa):=
 if x.cells.toList.all aC then some (aS H t 1 x.cells.toList) else none
def dj (elem:TypeId)(size bytes:Nat)(s x:Value)(H:aa):Option (Value×aa):=
 match s with
 | .slice base sLen sCap=>
    match (match x with
     | .slice _ n _=>(cI H size n x).map λcs=>(n,cs)
     |_=>none:Option (Nat×List Value)) with
    |some (n,new)=>
     let need:=sLen+n
     if need≤sCap then
      match base with
      |none=>some (.slice none need sCap,H)
      |some ⟨i,off,none⟩=>if n=0 then some (.slice base need sCap,H) else
       match H.get i with
       |some b=>if b.es=size then(bZ H i (off+sLen*size) new).map λH'=>(.slice base need sCap,H') else none
       |none=>none
      |_=>none
     else if need≤4294967296&&bytes≤4096&&size≠0 then
      match base with
      |none=>if sLen=0 then some (.slice (some ⟨H.length,0,none⟩) need need,H.new ⟨new,elem,size,false⟩) else none
      |some ⟨i,off,none⟩=>
       match H.get i with
       |some b=>
        if !b.ro&&b.es==size&&off+sCap*size==b.cells.length then
         match aQ H i off (sLen*size) with
         |some old=>some (.slice (some ⟨H.length,0,none⟩) need need,(H.kill i).new ⟨old++new,elem,size,false⟩)
         |none=>none
        else none
       |none=>none
      |_=>none
     else none
    |none=>none
 |_=>none
def WL (elem:TypeId)(size bytes:Nat)(z:List Value)(len cap:Value)(H:aa):Option (Value×aa):=
 match len,cap with
 | .int _ l,.int _ c=>
   if 0≤l∧l≤c∧c≤4294967296∧bytes≤4096∧size≠0 then
    some (.slice (some ⟨H.length,0,none⟩) l.toNat c.toNat,H.new ⟨bM z c.toNat,elem,size,false⟩)
   else none
 |_,_=>none
def msB (elem:TypeId)(size bytes:Nat)(z:List Value)(len cap:Value):Option ((Nat→Value)×eS):=
 match WL elem size bytes z len cap [] with
 |some (.slice _ n m,[.zK b])=>some (λi=>.slice (some ⟨i,0,none⟩) n m,b)
 |_=>none
def aaH (x y:Value)(H:aa):Option (Value×aa):=
 match x,y with
 | .int k a,.int k' b=>if k=k' then some (.int k (if b<a then b else a),H) else none
 |_,_=>none
def N7 (x y:Value)(H:aa):Option (Value×aa):=
 match x,y with
 | .int k a,.int k' b=>if k=k' then some (.int k (if b>a then b else a),H) else none
 |_,_=>none
abbrev sl (keep:List Nat)(vs:List Value)(t:Nat):Value:=Env.get (keep.zip vs) t
end Go.Proofs.YtgfgglponbmgmaaGreatA.Am
end
section
namespace Go.Proofs.YtgfgglponbmgmaaGreat.Fun
open Go.RowKit Go.Proofs.YtgfgglponbmgmaaGreatA.Am
set_option maxRecDepth 10000
abbrev ks:List FuncId:=[14,25,34,45]
theorem aaI:oo Tryz.prog=[]:=by kernel_rfl
theorem av (f:FuncId)(h:(ks++[]:List FuncId).contains f=false):(ks++oo Tryz.prog).contains f=false:=by rw[aaI];exact h
def run (G:ae)(n:Nat):ae:=gC Tryz.prog (ks++oo Tryz.prog) G n
abbrev cY (vs:List Value)(i:Nat):Value:=sl [0,1,2,3,4,5,12,13,14,15,49,51,74,17,76,16,18,21,20,104,118,19,22,23,161] vs i
def Gm (C:ae)(n:Nat)(v0 v1 v2 v3 v4 v5 aY aV bt bW cN kj eQ du rL b9 cB cV v20 kY kH dT fS gS kI:Value)(H:aa):bk:= mv cV H λEg H=>af (pS (ai Tryz.prog .add 3 Eg (cv 1)) H) λuA H=>mv uA H λEh H=>fin .normal [v0,v1,v2,v3,v4,v5,aY,aV,bt,bW,cN,kj,eQ,du,rL,b9,cB,Eh,v20,kY,kH,dT,fS,gS,kI] H
def U1 (C:ae)(n:Nat)(vs:List Value)(H:aa):bk:=Gm C n (cY vs 0) (cY vs 1) (cY vs 2) (cY vs 3) (cY vs 4) (cY vs 5) (cY vs 12) (cY vs 13) (cY vs 14) (cY vs 15) (cY vs 49) (cY vs 51) (cY vs 74) (cY vs 17) (cY vs 76) (cY vs 16) (cY vs 18) (cY vs 21) (cY vs 20) (cY vs 104) (cY vs 118) (cY vs 19) (cY vs 22) (cY vs 23) (cY vs 161) H
theorem RC (C:ae)(n:Nat)(v0 v1 v2 v3 v4 v5 aY aV bt bW cN kj eQ du rL b9 cB cV v20 kY kH dT fS gS kI:Value)(H:aa):U1 C n [v0,v1,v2,v3,v4,v5,aY,aV,bt,bW,cN,kj,eQ,du,rL,b9,cB,cV,v20,kY,kH,dT,fS,gS,kI] H=Gm C n v0 v1 v2 v3 v4 v5 aY aV bt bW cN kj eQ du rL b9 cB cV v20 kY kH dT fS gS kI H:=by
 kernel_rfl
def Gn (C:ae)(n:Nat)(v0 v1 v2 v3 v4 v5 aY aV bt bW cN kj eQ du rL b9 cB cV v20 kY kH dT fS gS kI:Value)(H:aa):bk:= mv dT H λvr H=>mv aV H λw9 H=>af (au w9 H) λGp H=>af (ak 0 Gp H) λFx H=>af (pS (aq Fx H) H) λzP H=>af (C 40 [vr,zP] H) λtB H=>mv tB H λqB H=>mv v20 H λkZ H=>mv aV H λfJ H=>af (au fJ H) λEi H=>af (ak 1 Ei H) λqC H=>af (pS (aq qC H) H) λtC H=>af (au tC H) λB6 H=>af (ak 3 B6 H) λGq H=>af (pS (aq Gq H) H) λGr H=>af (C 20 [kZ,Gr] H) λB7 H=>mv B7 H λB8 H=>mv qB H λeI aaJ=>af (some (B8,aaJ)) λGs aaK=>af (pS (ai Tryz.prog .neq 4 eI Gs) aaK) λB9 aaL=>af (some (B9,aaL)) λiZ U2=>af (gd (ag iZ false) (some (dT,U2)) U2) λGt HU=>af (gd (ag iZ false) (C 41 [Gt] HU) HU) λGu HV=>af (gd (ag iZ false) (some (v20,HV)) HV) λGv U3=>af (gd (ag iZ false) (au Gv U3) U3) λCa U4=>af (gd (ag iZ false) (ak 23 Ca U4) U4) λtD Ej=>af (gd (ag iZ false) (pS (aq tD Ej) Ej) Ej) λGw U5=>af (gd (ag iZ false) (pS (ai Tryz.prog .neq 4 Gu Gw) U5) U5) λGx aaM=>af (aL iZ (Value.bool true) Gx aaM) λKr aaN=>af (some (Kr,aaN)) λtF U6=>af (gd (ag tF false) (some (dT,U6)) U6) λN8 HW=>af (gd (ag tF false) (C 42 [N8] HW) HW) λEk HX=>af (gd (ag tF false) (some (v20,HX)) HX) λRD U7=>af (gd (ag tF false) (au RD U7) U7) λN9 U8=>af (gd (ag tF false) (ak 37 N9 U8) U8) λxb El=>af (gd (ag tF false) (pS (aq xb El) El) El) λOa U9=>af (gd (ag tF false) (pS (ai Tryz.prog .neq 3 Ek Oa) U9) U9) λOb aaO=>af (aL tF (Value.bool true) Ob aaO) λGy aaP=>if(lC (ag iZ false) (ag iZ false) (pS (aq tD Ej) Ej) (pS (aq tD HU) HU) (pS (aq tD HV) HV)&&(lC (ag tF false) (ag tF false) (pS (aq xb El) El) (pS (aq xb HW) HW) (pS (aq xb HX) HX)&&true))=true then(λH=>aT Gy (mv (Value.bool false) H λOc H=>fin .ret [v0,v1,v2,v3,v4,v5,Oc,aV,bt,bW,cN,kj,eQ,du,rL,b9,cB,cV,v20,kY,kH,dT,qB,B8,Gy] H) (U1 C n [v0,v1,v2,v3,v4,v5,aY,aV,bt,bW,cN,kj,eQ,du,rL,b9,cB,cV,v20,kY,kH,dT,qB,B8,Gy] H)) aaP else none
def HY (C:ae)(n:Nat)(vs:List Value)(H:aa):bk:=Gn C n (cY vs 0) (cY vs 1) (cY vs 2) (cY vs 3) (cY vs 4) (cY vs 5) (cY vs 12) (cY vs 13) (cY vs 14) (cY vs 15) (cY vs 49) (cY vs 51) (cY vs 74) (cY vs 17) (cY vs 76) (cY vs 16) (cY vs 18) (cY vs 21) (cY vs 20) (cY vs 104) (cY vs 118) (cY vs 19) (cY vs 22) (cY vs 23) (cY vs 161) H
theorem RE (C:ae)(n:Nat)(v0 v1 v2 v3 v4 v5 aY aV bt bW cN kj eQ du rL b9 cB cV v20 kY kH dT fS gS kI:Value)(H:aa):HY C n [v0,v1,v2,v3,v4,v5,aY,aV,bt,bW,cN,kj,eQ,du,rL,b9,cB,cV,v20,kY,kH,dT,fS,gS,kI] H=Gn C n v0 v1 v2 v3 v4 v5 aY aV bt bW cN kj eQ du rL b9 cB cV v20 kY kH dT fS gS kI H:=by
 kernel_rfl
def Gz (C:ae)(n:Nat)(v0 v1 v2 v3 v4 v5 aY aV bt bW cN kj eQ du rL b9 cB cV v20 kY kH dT fS gS kI:Value)(H:aa):bk:= mv cV H λvt H=>af (pS (ai Tryz.prog .lss 3 vt (cv 40)) H) λpG H=>mv pG H λrM H=>af (gd (ag rM true) (some (v20,H)) H) λAf H=>af (gd (ag rM true) (au Af H) H) λAg H=>af (gd (ag rM true) (ak 23 Ag H) H) λfC H=>af (gd (ag rM true) (pS (aq fC H) H) H) λsP H=>af (gd (ag rM true) (pS (ik .not sP) H) H) λAV H=>af (aL rM AV (Value.bool false) H) λtG H=>aT tG (mv cV H λGA H=>mv v5 H λOd H=>af (pS (cD Od) H) λOe H=>af (pS (ai Tryz.prog .lss 3 GA Oe) H) λOf H=>mv Of H λxd H=>af (gd (ag xd true) (some (v5,H)) H) λAh H=>af (gd (ag xd true) (some (cV,H)) H) λOg H=>af (gd (ag xd true) (cH 1 Ah Og H) H) λOh H=>af (gd (ag xd true) (pS (aq Oh H) H) H) λOi H=>af (gd (ag xd true) (pS (ai Tryz.prog .rem 3 Oi (cv 3)) H) H) λOj H=>af (gd (ag xd true) (pS (ai Tryz.prog .eql 3 Oj (cv 0)) H) H) λOk H=>af (aL xd Ok (Value.bool false) H) λCb H=>aT Cb (mv aV H λOl H=>mv v5 H λRF H=>mv cV H λOm H=>af (cH 1 RF Om H) λOn H=>af (pS (aq On H) H) λOo H=>af (pS (ai Tryz.prog .quo 3 Oo (cv 3)) H) λOq H=>af (C 22 [Ol,Oq] H) λKs H=>HY C n [v0,v1,v2,v3,v4,v5,aY,aV,bt,bW,cN,kj,eQ,du,rL,b9,cB,cV,v20,tG,Cb,dT,fS,gS,kI] H) (HY C n [v0,v1,v2,v3,v4,v5,aY,aV,bt,bW,cN,kj,eQ,du,rL,b9,cB,cV,v20,tG,Cb,dT,fS,gS,kI] H)) (fin (.exit 0) [v0,v1,v2,v3,v4,v5,aY,aV,bt,bW,cN,kj,eQ,du,rL,b9,cB,cV,v20,tG,kH,dT,fS,gS,kI] H)
def Ot (C:ae)(n:Nat)(vs:List Value)(H:aa):bk:=Gz C n (cY vs 0) (cY vs 1) (cY vs 2) (cY vs 3) (cY vs 4) (cY vs 5) (cY vs 12) (cY vs 13) (cY vs 14) (cY vs 15) (cY vs 49) (cY vs 51) (cY vs 74) (cY vs 17) (cY vs 76) (cY vs 16) (cY vs 18) (cY vs 21) (cY vs 20) (cY vs 104) (cY vs 118) (cY vs 19) (cY vs 22) (cY vs 23) (cY vs 161) H
theorem RG (C:ae)(n:Nat)(v0 v1 v2 v3 v4 v5 aY aV bt bW cN kj eQ du rL b9 cB cV v20 kY kH dT fS gS kI:Value)(H:aa):Ot C n [v0,v1,v2,v3,v4,v5,aY,aV,bt,bW,cN,kj,eQ,du,rL,b9,cB,cV,v20,kY,kH,dT,fS,gS,kI] H=Gz C n v0 v1 v2 v3 v4 v5 aY aV bt bW cN kj eQ du rL b9 cB cV v20 kY kH dT fS gS kI H:=by
 kernel_rfl
def GB (C:ae)(n:Nat)(v0 v1 v2 v3 v4 v5 aY aV bt bW cN kj eQ du rL b9 cB cV v20 kY kH dT fS gS kI:Value)(H:aa):VH:= mv v20 H λOu aaQ=>af (au Ou aaQ) λOv aaR=>af (ak 23 Ov aaR) λOw Va=>af (pS (aq Ow Va) Va) λOx aaS=>af (some (Ox,aaS)) λqD Vb=>af (gd (ag qD true) (some (dT,Vb)) Vb) λRH HZ=>af (gd (ag qD true) (C 43 [RH] HZ) HZ) λOy Ia=>af (gd (ag qD true) (some (v20,Ia)) Ia) λRI Vc=>af (gd (ag qD true) (au RI Vc) Vc) λWM Vd=>af (gd (ag qD true) (ak 24 WM Vd) Vd) λWN Ve=>af (gd (ag qD true) (ak 2 WN Ve) Ve) λKt Em=>af (gd (ag qD true) (pS (aq Kt Em) Em) Em) λWO Vf=>af (gd (ag qD true) (pS (ai Tryz.prog .eql 3 Oy WO) Vf) Vf) λWQ aaT=>af (aL qD WQ (Value.bool false) aaT) λacK aaU=>af (some (acK,aaU)) λWT Vg=>af (gd (ag WT true) (some (aV,Vg)) Vg) λacL Vh=>af (gd (ag WT true) (C 15 [acL] Vh) Vh) λacM aaV=>af (aL WT acM (Value.bool false) aaV) λacN aaW=>af (some (acN,aaW)) λacO aaX=>if(lC (ag qD true) (ag qD true) (pS (aq Kt Em) Em) (pS (aq Kt HZ) HZ) (pS (aq Kt Ia) Ia)&&true)=true then(λH=>some (acO,H)) aaX else none
def Vi (C:ae)(n:Nat)(vs:List Value)(H:aa):VH:=GB C n (cY vs 0) (cY vs 1) (cY vs 2) (cY vs 3) (cY vs 4) (cY vs 5) (cY vs 12) (cY vs 13) (cY vs 14) (cY vs 15) (cY vs 49) (cY vs 51) (cY vs 74) (cY vs 17) (cY vs 76) (cY vs 16) (cY vs 18) (cY vs 21) (cY vs 20) (cY vs 104) (cY vs 118) (cY vs 19) (cY vs 22) (cY vs 23) (cY vs 161) H
theorem RJ (C:ae)(n:Nat)(v0 v1 v2 v3 v4 v5 aY aV bt bW cN kj eQ du rL b9 cB cV v20 kY kH dT fS gS kI:Value)(H:aa):Vi C n [v0,v1,v2,v3,v4,v5,aY,aV,bt,bW,cN,kj,eQ,du,rL,b9,cB,cV,v20,kY,kH,dT,fS,gS,kI] H=GB C n v0 v1 v2 v3 v4 v5 aY aV bt bW cN kj eQ du rL b9 cB cV v20 kY kH dT fS gS kI H:=by
 kernel_rfl
def GC (C:ae)(n:Nat)(v0 v1 v2 v3 v4 v5 aY aV bt bW cN kj eQ du rL b9 cB cV v20 kY kH dT fS gS kI:Value)(H:aa):VH:= mv aV H λcw qE=>af (au cw qE) λdF qF=>af (ak 1 dF qF) λbJ rN=>af (pS (aq bJ rN) rN) λcq Eo=>af (au cq Eo) λdR tH=>af (ak 3 dR tH) λdh pH=>af (pS (aq dh pH) pH) λcW nf=>af (C 36 [] nf) λcJ lf=>af (C 35 [cW,cJ] lf) λcP rO=>af (some (cP,rO)) λeU tJ=>af (cp 0 eU tJ) λdW mK=>af (cp 1 eU mK) λeD tK=>af (some (dW,tK)) λdX tL=>af (some (eD,tL)) λdv ng=>if(lC (some true) (some true) (pS (aq bJ rN) rN) (pS (aq bJ nf) nf) (pS (aq bJ lf) lf)&&(lC (some true) (some true) (pS (aq dh pH) pH) (pS (aq dh nf) nf) (pS (aq dh lf) lf)&&true))=true then(λH=>mv aV H λdL H=>af (C 37 [dL] H) λcZ H=>af (C 34 [] H) λcL H=>af (pS (ik .not cL) H) λeG H=>mv eG H λef H=>af (gd (ag ef false) (some (aV,H)) H) λdY H=>af (gd (ag ef false) (C 15 [dY] H) H) λdU H=>af (gd (ag ef false) (pS (ik .not dU) H) H) λeA H=>af (aL ef (Value.bool true) eA H) λfF H=>aT fF (mv (Value.bool false) H λdP H=>some (dP,H)) (mv dv H λiC H=>af (pS (ik .not iC) H) λeh H=>aT eh (mv (Value.bool true) H λgQ H=>some (gQ,H)) (mv dX H λja H=>af (C 38 [(cv 1),ja] H) λig H=>mv ig H λeX H=>af (ak 0 bt H) λjb H=>af (pS (aq jb H) H) λkl H=>af (pS (ai Tryz.prog .add 3 kl (cv 2)) H) λjk H=>af (ak 1 bt H) λfR H=>af (pS (aq fR H) H) λkO H=>mv bW H λfM H=>mv eX H λhZ H=>af (C 39 [jk,kO,fM,hZ] H) λlD H=>mv lD H λmA H=>af (ak 0 bt H) λnL H=>af (pS (aq nL H) H) λnV H=>af (pS (ai Tryz.prog .add 3 nV (cv 2)) H) λfN H=>af (ak 1 bt H) λqG H=>af (pS (aq qG H) H) λmL H=>mv bW H λlE H=>mv eX H λxe H=>af (pS (aE Tryz.prog 41 [(0,fN),(1,mL),(3,lE),(4,xe)]) H) λjd H=>af (C 17 [(cv 14),jd] H) λlT H=>mv lT H λxf H=>mv (cv 0) H λnM H=>cm (iter n (Ot C n) [v0,v1,v2,v3,v4,v5,aY,aV,bt,bW,cN,kj,fF,dv,eh,dX,eX,nM,xf,kY,kH,mA,fS,gS,kI] H) (dJ 0 (dQ (Vi C n) (ek Tryz.prog [.tmp 12] [0,1,2,3,4,5,12,13,14,15,49,51,74,17,76,16,18,21,20,104,118,19,22,23,161])))))) ng else none
def Ib (C:ae)(n:Nat)(vs:List Value)(H:aa):VH:=GC C n (cY vs 0) (cY vs 1) (cY vs 2) (cY vs 3) (cY vs 4) (cY vs 5) (cY vs 12) (cY vs 13) (cY vs 14) (cY vs 15) (cY vs 49) (cY vs 51) (cY vs 74) (cY vs 17) (cY vs 76) (cY vs 16) (cY vs 18) (cY vs 21) (cY vs 20) (cY vs 104) (cY vs 118) (cY vs 19) (cY vs 22) (cY vs 23) (cY vs 161) H
theorem RK (C:ae)(n:Nat)(v0 v1 v2 v3 v4 v5 aY aV bt bW cN kj eQ du rL b9 cB cV v20 kY kH dT fS gS kI:Value)(H:aa):Ib C n [v0,v1,v2,v3,v4,v5,aY,aV,bt,bW,cN,kj,eQ,du,rL,b9,cB,cV,v20,kY,kH,dT,fS,gS,kI] H=GC C n v0 v1 v2 v3 v4 v5 aY aV bt bW cN kj eQ du rL b9 cB cV v20 kY kH dT fS gS kI H:=by
 kernel_rfl
def F8 (C:ae)(n:Nat)(a0 a1 a2 a3 a4 a5:Value)(H:aa):VH:= mv (Value.bool false) H λx0 H=>mv a0 H λx1 H=>mv a1 H λx2 H=>mv a2 H λx3 H=>af (C 12 [x1,x2,x3] H) λx4 H=>mv x4 H λx5 H=>mv x5 H λx6 H=>af (au x6 H) λx7 H=>af (ak 1 x7 H) λx8 H=>af (pS (aq x8 H) H) λx9 H=>af (au x9 H) λaD H=>af (ak 3 aD H) λaN H=>af (pS (aq aN H) H) λaP H=>mv a3 H λaG H=>af (C 23 [aP,aG] H) λaM H=>af (some (aS H 69 1 [(cv 0),(cv 0)])) λaR H=>af (bD 2 aR aM H) λaX H=>mv x5 H λbf H=>af (au bf H) λaZ H=>af (ak 1 aZ H) λbB H=>af (pS (aq bB H) H) λbT H=>af (au bT H) λbq H=>af (ak 3 bq H) λbE H=>af (pS (aq bE H) H) λbN H=>af (ak 1 aR H) λbQ H=>af (pS (aq bQ H) H) λbX H=>af (C 33 [bN,bX] H) λcg H=>mv cg H λcM H=>mv cM H λcd H=>af (C 31 [cd] H) λbU H=>af (pS (ai Tryz.prog .eql 3 bU (cv 5)) H) λcr H=>aT cr (af (C 34 [] H) λcX H=>mv cX H λbR H=>some (bR,H)) (mv a4 H λWU H=>aT WU (mv cM H λacP H=>af (pS (ai Tryz.prog .add 2 acP (cv 8)) H) λacQ H=>mv acQ H λacR H=>Ib C n [a0,a1,a2,a3,a4,a5,x0,x5,aR,acR,cr,WU,undef,undef,undef,undef,undef,undef,undef,undef,undef,undef,undef,undef,undef] H) (Ib C n [a0,a1,a2,a3,a4,a5,x0,x5,aR,cM,cr,WU,undef,undef,undef,undef,undef,undef,undef,undef,undef,undef,undef,undef,undef] H))
theorem aaY (G:ae)(n:Nat)(a0 a1 a2 a3 a4 a5:Value)(H:aa):run G (n+1) 8 [a0,a1,a2,a3,a4,a5] H=F8 (run G n) n a0 a1 a2 a3 a4 a5 H:=by
 unfold run;rw[ao (fn:=Tryz.f8) (keep:=[0,1,2,3,4,5,12,13,14,15,49,51,74,17,76,16,18,21,20,104,118,19,22,23,161]) (av 8 rfl) (by kernel_rfl) (by kernel_rfl)]
 kernel_rfl
end Go.Proofs.YtgfgglponbmgmaaGreat.Fun
end
