/- Texts of the proof of helpPlays_holds, put together by a small program of ours (names shortened, spaces taken out). No condition beyond the given statement. -/
import Derived.Test.YtgfgglponbmgmaaGreatHPL8
import Derived.Test.YtgfgglponbmgmaaGreatProg
import Derived.KernelRfl
set_option linter.unusedVariables false
set_option linter.unusedSimpArgs false
set_option linter.unnecessarySimpa false
noncomputable section
section
namespace Go.Proofs.YtgfgglponbmgmaaGreatA.Am
variable {α:Type}
def af (x:Option (Value×aa))(k:Value→aa→Option α):Option α:=
 match x with
 |some (v,H)=>k v H
 |none=>none
@[simp] theorem cS (v:Value)(H:aa)(k:Value→aa→Option α):af (some (v,H)) k=k v H:=rfl
@[simp] theorem aav (k:Value→aa→Option α):af none k=none:=rfl
def pS (x:Option Value)(H:aa):Option (Value×aa):=x.map (·,H)
@[simp] theorem kM (v:Value)(H:aa):pS (some v) H=some (v,H):=rfl
@[simp] theorem acn (H:aa):pS none H=none:=rfl
abbrev cv (x:Int):Value:=.int .i64 x
abbrev mv (x:Value)(H:aa)(k:Value→aa→Option α):Option α:=af (some (x,H)) k
abbrev VH:Type:=Option (Value×aa)
def gd (w:Option Bool)(x:Option (Value×aa))(H:aa):Option (Value×aa):=
 match w with
 |some true=>x
 |some false=>some (undef,H)
 |none=>none
@[simp] theorem vy (x:Option (Value×aa))(H:aa):gd (some true) x H=x:=rfl
@[simp] theorem rO (x:Option (Value×aa))(H:aa):gd (some false) x H=some (undef,H):=rfl
def ag (v:Value)(want:Bool):Option Bool:=
 match v with
 | .bool b=>some (b==want)
 | .tuple vs=>if vs.isEmpty then some false else none
 |_=>none
@[simp] theorem Wf (b want:Bool):ag (.bool b) want=some (b==want):=rfl
@[simp] theorem UI (want:Bool):ag undef want=some false:=rfl
def aU (v:Value)(x y:Option α):Option α:=
 match v with
 | .bool true=>x
 | .bool false=>y
 |_=>none
@[simp] theorem aaw (x y:Option α):aU (.bool true) x y=x:=rfl
@[simp] theorem ZO (x y:Option α):aU (.bool false) x y=y:=rfl
def ad7 (c a b:Value):Option Value:=
 match c with
 | .bool t=>some (if t then a else b)
 |_=>none
def Gu (P:Program)(C:ae)(ops:Array Oper):List Oper→Env→aa→(Env→aa→Option α)→Option α
 | [],E,H,k=>k E H
 |o::r,E,H,k=>af (match o.guard with
   |none=>gA P C E H o
   |some _=>gd (dG ops o E) (gA P C E H o) H) λv H'=>Gu P C ops r (E.put o.dst v) H' k
theorem HZ (P:Program)(C:ae)(ops:Array Oper)(l:List Oper)(E:Env)(H:aa)(k:Env→aa→Option α):
  Gu P C ops l E H k=match eJ P C ops l E H with|some (E',H')=>k E' H'|none=>none:=by
 induction l generalizing E H with
 |nil=>rfl
 |cons o r ih=>
  rw[Gu,eJ];cases hg:o.guard with
  |none=>
   have:dG ops o E=some true:=by simp only[dG,hg]
   rw[this];cases gA P C E H o with
   |none=>rfl
   |some p=>obtain⟨v,H'⟩:=p;simp only[cS];exact ih _ _
  |some g=>
   simp only;cases dG ops o E with
   |none=>rfl
   |some b=>
    cases b with
    |true=>
     simp only[vy];cases gA P C E H o with
     |none=>rfl
     |some p=>obtain⟨v,H'⟩:=p;simp only[cS];exact ih _ _
    |false=>simp only[rO,cS];exact ih _ _
def AT (P:Program)(C:ae)(ops:Array Oper):List Oper→Env→aa→List (Env×aa)→(Env→aa→List (Env×aa)→Option α)→Option α
 | [],E,H,T,k=>k E H (T++[(E,H)])
 |o::r,E,H,T,k=>af (match o.guard with
   |none=>gA P C E H o
   |some _=>gd (dG ops o E) (gA P C E H o) H) λv H'=>AT P C ops r (E.put o.dst v) H' (T++[(E,H)]) k
theorem Of (P:Program)(C:ae)(ops:Array Oper)(l:List Oper)(E:Env)(H:aa)(T:List (Env×aa))(k:Env→aa→List (Env×aa)→Option α):
  AT P C ops l E H T k=match eJ P C ops l E H with|some (E',H')=>k E' H' (T++trace P C ops l E H)|none=>none:=by
 induction l generalizing E H T with
 |nil=>rfl
 |cons o r ih=>
  rw[AT,eJ,trace];cases hg:o.guard with
  |none=>
   have:dG ops o E=some true:=by simp only[dG,hg]
   rw[this];cases gA P C E H o with
   |none=>rfl
   |some p=>obtain⟨v,H'⟩:=p;simp only[cS,ih,List.append_assoc,List.singleton_append]
  |some g=>
   simp only;cases dG ops o E with
   |none=>rfl
   |some b=>
    cases b with
    |true=>
     simp only[vy];cases gA P C E H o with
     |none=>rfl
     |some p=>obtain⟨v,H'⟩:=p;simp only[cS,ih,List.append_assoc,List.singleton_append]
    |false=>simp only[rO,cS,ih,List.append_assoc,List.singleton_append]
def AU (P:Program)(C:ae)(F:List Nat)(base:Nat)(ops:Array Oper):List Oper→Nat→Env→aa→(Env→aa→Option α)→Option α
 | [],_,E,H,k=>k E H
 |o::r,j,E,H,k=>af (match o.guard with
   |none=>dA P C F base j E H o
   |some _=>gd (dG ops o E) (dA P C F base j E H o) H) λv H'=>AU P C F base ops r (j+1) (E.put o.dst v) H' k
def tC (P:Program)(C:ae)(F:List Nat)(base:Nat)(ops:Array Oper):List Oper→Nat→Env→aa→List (Env×aa)→(Env→aa→List (Env×aa)→Option α)→Option α
 | [],_,E,H,T,k=>k E H (T++[(E,H)])
 |o::r,j,E,H,T,k=>af (match o.guard with
   |none=>dA P C F base j E H o
   |some _=>gd (dG ops o E) (dA P C F base j E H o) H) λv H'=>tC P C F base ops r (j+1) (E.put o.dst v) H' (T++[(E,H)]) k
theorem Og (P:Program)(C:ae)(F:List Nat)(base:Nat)(ops:Array Oper)(l:List Oper)(j:Nat)(E:Env)(H:aa)(k:Env→aa→Option α):
  AU P C F base ops l j E H k=match c8 P C F base ops l j E H with|some (E',H')=>k E' H'|none=>none:=by
 induction l generalizing j E H with
 |nil=>rfl
 |cons o r ih=>
  rw[AU,c8];cases hg:o.guard with
  |none=>
   have:dG ops o E=some true:=by simp only[dG,hg]
   rw[this];cases dA P C F base j E H o with
   |none=>rfl
   |some p=>obtain⟨v,H'⟩:=p;simp only[cS];exact ih _ _ _
  |some g=>
   simp only;cases dG ops o E with
   |none=>rfl
   |some b=>
    cases b with
    |true=>
     simp only[vy];cases dA P C F base j E H o with
     |none=>rfl
     |some p=>obtain⟨v,H'⟩:=p;simp only[cS];exact ih _ _ _
    |false=>simp only[rO,cS];exact ih _ _ _
theorem Ky (P:Program)(C:ae)(F:List Nat)(base:Nat)(ops:Array Oper)(l:List Oper)(j:Nat)(E:Env)(H:aa)(T:List (Env×aa))(k:Env→aa→List (Env×aa)→Option α):
  tC P C F base ops l j E H T k=match c8 P C F base ops l j E H with|some (E',H')=>k E' H' (T++eB P C F base ops l j E H)|none=>none:=by
 induction l generalizing j E H T with
 |nil=>rfl
 |cons o r ih=>
  rw[tC,c8,eB];cases hg:o.guard with
  |none=>
   have:dG ops o E=some true:=by simp only[dG,hg]
   rw[this];cases dA P C F base j E H o with
   |none=>rfl
   |some p=>obtain⟨v,H'⟩:=p;simp only[cS,ih,List.append_assoc,List.singleton_append]
  |some g=>
   simp only;cases dG ops o E with
   |none=>rfl
   |some b=>
    cases b with
    |true=>
     simp only[vy];cases dA P C F base j E H o with
     |none=>rfl
     |some p=>obtain⟨v,H'⟩:=p;simp only[cS,ih,List.append_assoc,List.singleton_append]
    |false=>simp only[rO,cS,ih,List.append_assoc,List.singleton_append]
def tD (n:Nat)(H:aa)(k:Nat→aa→Option α):Option α:=k H.length (H.cF n)
def rP (P:Program)(C:ae)(ops:Array Oper)(draw:Bool)(E:Env)(H:aa)(k:Env→aa→Option α):Option α:=
 if draw then
  match lQ P ops with
  | []=>match mI P ops with
   | []=>Gu P C ops ops.toList E H k
   |cs=>AT P C ops ops.toList E H [] λE' H' T=>if cs.all (iV P ops T) then k E' H' else none
  |F=>tD F.length H λbase H=>match mI P ops with
   | []=>AU P C F base ops ops.toList 0 E H k
   |cs=>tC P C F base ops ops.toList 0 E H [] λE' H' T=>if cs.all (iV P ops T) then k E' H' else none
 else Gu P C ops ops.toList E H k
theorem Gv (P:Program)(C:ae)(ops:Array Oper)(draw:Bool)(E:Env)(H:aa)(k:Env→aa→Option α):
  rP P C ops draw E H k=match fh P C ops draw E H with|some (E',H')=>k E' H'|none=>none:=by
 unfold rP fh;cases draw with
 |false=>simp only[Bool.false_eq_true,if_false];exact HZ ..
 |true=>
  simp only[if_true];cases lQ P ops with
  |nil=>
   simp only;cases mI P ops with
   |nil=>exact HZ ..
   |cons c cs=>
    simp only[Of,List.nil_append];cases eJ P C ops ops.toList E H with
    |none=>by_cases hb:(c::cs).all (iV P ops (trace P C ops ops.toList E H))=true<;>simp only[hb,if_true,if_false,Bool.false_eq_true]
    |some q=>
     obtain⟨E',H'⟩:=q;by_cases hb:(c::cs).all (iV P ops (trace P C ops ops.toList E H))=true<;>simp only[hb,if_true,if_false,Bool.false_eq_true]
  |cons f F=>
   simp only[tD];cases mI P ops with
   |nil=>exact Og ..
   |cons c cs=>
    simp only[Ky,List.nil_append];cases c8 P C (f::F) H.length ops ops.toList 0 E (H.cF (f::F).length) with
    |none=>by_cases hb:(c::cs).all (iV P ops (eB P C (f::F) H.length ops ops.toList 0 E (H.cF (f::F).length)))=true<;>simp only[hb,if_true,if_false,Bool.false_eq_true]
    |some q=>
     obtain⟨E',H'⟩:=q;by_cases hb:(c::cs).all (iV P ops (eB P C (f::F) H.length ops ops.toList 0 E (H.cF (f::F).length)))=true<;>simp only[hb,if_true,if_false,Bool.false_eq_true]
def kS (wx wy:Option Bool)(u u1 u2:Option (Value×aa)):Bool:=
 match wx,wy with
 |some true,some true=>match u,u1,u2 with
  |some (u,_),some (u1,_),some (u2,_)=>ot u u1&&ot u u2
  |_,_,_=>false
 |some _,some _=>true
 |_,_=>false
@[simp] theorem aax (u u1 u2:Value)(H H1 H2:aa):kS (some true) (some true) (some (u,H)) (some (u1,H1)) (some (u2,H2))=(ot u u1&&ot u u2):=rfl
@[simp] theorem acD (w:Bool)(u u1 u2:Option (Value×aa)):kS (some false) (some w) u u1 u2=true:=by cases w<;>rfl
@[simp] theorem acE (w:Bool)(u u1 u2:Option (Value×aa)):kS (some w) (some false) u u1 u2=true:=by cases w<;>rfl
@[simp] theorem lW (k:IntKind)(a:Int):ot (.int k a) (.int k a)=true:=by simp[ot,zU]
@[simp] theorem Er (a:Bool):ot (.bool a) (.bool a)=true:=by simp[ot,zU]
@[simp] theorem j8 (a:Option Addr):ot (.pointer a) (.pointer a)=true:=by simp[ot,zU]
@[simp] theorem kU (a:Option Addr)(n c:Nat):ot (.slice a n c) (.slice a n c)=true:=by simp[ot,zU]
def fin:bA→List Value→aa→bd:=λe vs H=>some (e,vs,H)
def cl (x:bd)(k:bA→List Value→aa→Option α):Option α:=
 match x with
 |some (e,vs,H)=>k e vs H
 |none=>none
@[simp] theorem iY (e:bA)(vs:List Value)(H:aa)(k:bA→List Value→aa→Option α):cl (some (e,vs,H)) k=k e vs H:=rfl
def up {β:Type}(x:β):β:=(λ(_:Option Nat)=>x) (af (α:=Nat) none λ_ _=>none)
def dS (kb:List Value→aa→Option α)(k:bA→List Value→aa→Option α):bA→List Value→aa→Option α:=
 λe vs H=>up (match e with
  | .normal=>kb vs H
  |e=>k e vs H)
def dK (id:Nat)(k:bA→List Value→aa→Option α):bA→List Value→aa→Option α:=
 λe vs H=>up (match e with
  | .exit i=>if i=id then k .normal vs H else k (.exit i) vs H
  |e=>k e vs H)
@[simp] theorem Et (kb:List Value→aa→Option α)(k:bA→List Value→aa→Option α)(vs:List Value)(H:aa):dS kb k .normal vs H=kb vs H:=rfl
@[simp] theorem ZP (kb:List Value→aa→Option α)(k:bA→List Value→aa→Option α)(i:Nat)(vs:List Value)(H:aa):dS kb k (.exit i) vs H=k (.exit i) vs H:=rfl
@[simp] theorem aay (kb:List Value→aa→Option α)(k:bA→List Value→aa→Option α)(vs:List Value)(H:aa):dS kb k .ret vs H=k .ret vs H:=rfl
@[simp] theorem UJ (id:Nat)(k:bA→List Value→aa→Option α)(vs:List Value)(H:aa):dK id k .normal vs H=k .normal vs H:=rfl
@[simp] theorem aaz (id:Nat)(k:bA→List Value→aa→Option α)(vs:List Value)(H:aa):dK id k .ret vs H=k .ret vs H:=rfl
@[simp] theorem Kz (id i:Nat)(k:bA→List Value→aa→Option α)(vs:List Value)(H:aa):dK id k (.exit i) vs H=if i=id then k .normal vs H else k (.exit i) vs H:=rfl
def Wg (N:Nat)(C:ae)(g:Value)(L:Ut)(H:aa):Option (sX×aa):=
 match g with
 | .func (.func gf) first captured=>
  if gf<N then
   match C gf (first.toList++[.func (.yield H.length) #[] #[]]++captured.toList) (H.kt (.loop L .ready)) with
   |some (_,H')=>match H'.ef H.length with
    |some (.loop _ s)=>some (s,H'.kill H.length)
    |_=>none
   |none=>none
  else none
 |_=>none
def Eu (x:Option (sX×aa))(k:bA→aa→Option α):Option α:=
 match x with
 |some (.ready,H)=>k .normal H
 |some (.ret,H)=>k .ret H
 |some (.exit id,H)=>k (.exit id) H
 |_=>none
@[simp] theorem UK (H:aa)(k:bA→aa→Option α):Eu (some (.ready,H)) k=k .normal H:=rfl
@[simp] theorem ZQ (H:aa)(k:bA→aa→Option α):Eu (some (.ret,H)) k=k .ret H:=rfl
@[simp] theorem Wh (id:Nat)(H:aa)(k:bA→aa→Option α):Eu (some (.exit id,H)) k=k (.exit id) H:=rfl
def nV (P:Program)(C:ae)(keep:List Nat)(n:Nat):{α:Type}→Code→List Value→aa→(bA→List Value→aa→Option α)→Option α
 |_,.skip,vs,H,k=>k .normal vs H
 |_,.label _,vs,H,k=>k .normal vs H
 |_,.region _ ops draw,vs,H,k=>rP P C ops draw (keep.zip vs) H λE H'=>k .normal (keep.map E.get) H'
 |_,.seq a b,vs,H,k=>nV P C keep n a vs H (dS (λjf H'=>nV P C keep n b jf H' k) k)
 |_,.cond c a b,vs,H,k=>aU (eF (keep.zip vs) c) (nV P C keep n a vs H k) (nV P C keep n b vs H k)
 |_,.block id c,vs,H,k=>nV P C keep n c vs H (dK id k)
 |_,.loop c,vs,H,k=>cl (iter n (λvs H=>nV P C keep n c vs H fin) vs H) k
 |_,.exit id,vs,H,k=>k (.exit id) vs H
 |_,.scope c,vs,H,k=>nV P C keep n c vs H k
 |_,.ret,vs,H,k=>k .ret vs H
 |_,.goto _,_,_,_=>none
 |_,.rangeFunc g ps x y,vs,H,k=>Eu (Wg P.funcs.size C (eF (keep.zip vs) g) ⟨keep,vs,ps,x,y⟩ H) λe H'=>k e vs H'
 |_,.refuse _,_,_,_=>none
theorem Gw {n:Nat}{f g:List Value→aa→bd}(h: ∀vs H,f vs H=g vs H):iter n f=iter n g:=by
 have:f=g:=funext λvs=>funext λH=>h vs H
 rw[this]
theorem Wi (P:Program)(C:ae)(keep:List Nat)(n:Nat)(c:Code): ∀{α:Type} (vs:List Value) (H:aa) (k:bA→List Value→aa→Option α),
  nV P C keep n c vs H k=cl (ev P C keep n c vs H) k:=by
 induction c with
 |skip=>intros;simp only[nV,ev,iY]
 |label _=>intros;simp only[nV,ev,iY]
 |region p ops draw=>
  intro α vs H k;simp only[nV,ev,Gv];cases fh P C ops draw (keep.zip vs) H with
  |none=>rfl
  |some p=>rfl
 |seq a b KA KC=>
  intro α vs H k;simp only[nV,ev];rw[KA];cases ev P C keep n a vs H with
  |none=>rfl
  |some p=>
   obtain⟨e,jf,H'⟩:=p;cases e with
   |normal=>simp only[iY,Et];exact KC _ _ _
   |_=>rfl
 |cond c a b KA KC=>
  intro α vs H k;simp only[nV,ev,KA,KC];generalize eF (keep.zip vs) c=v
  cases v with
  |bool t=>cases t<;>rfl
  |_=>rfl
 |block id c ih=>
  intro α vs H k;simp only[nV,ev];rw[ih];cases ev P C keep n c vs H with
  |none=>rfl
  |some p=>
   obtain⟨e,jf,H'⟩:=p;cases e with
   |exit i=>
    simp only[iY,Kz];split<;>rfl
   |_=>rfl
 |loop c ih=>
  intro α vs H k;simp only[nV,ev];rw[Gw (g:=ev P C keep n c)];intro vs H;rw[ih];cases ev P C keep n c vs H with
  |none=>rfl
  |some p=>rfl
 |exit _=>intros;simp only[nV,ev,iY]
 |scope c ih=>intro α vs H k;simp only[nV,ev,ih]
 |ret=>intros;simp only[nV,ev,iY]
 |goto _=>intros;rfl
 |rangeFunc g ps x y _ _=>
  intro α vs H k;simp only[nV,ev,Wg];generalize eF (keep.zip vs) g=v
  cases v with
  |func fn first captured=>
   cases fn with
   |func gf=>
    by_cases gH:gf<P.funcs.size
    ·simp only[gH,if_true];cases C gf (first.toList++[.func (.yield H.length) #[] #[]]++captured.toList) (H.kt (.loop ⟨keep,vs,ps,x,y⟩ .ready)) with
     |none=>rfl
     |some q=>
      obtain⟨u,H'⟩:=q;simp only;cases H'.ef H.length with
      |none=>rfl
      |some o=>
       cases o with
       |FG _ _=>rfl
       |loop L s=>cases s<;>rfl
    ·simp only[gH,if_false];rfl
   |_=>rfl
  |_=>rfl
 |refuse _=>intros;rfl
def KD (P:Program)(E:Env)(H:aa):List ResultVar→(List Value→Option (Value×aa))→Option (Value×aa)
 | [],k=>k []
 | .tmp t::r,k=>KD P E H r λvs=>k (E.get t::vs)
 | .cell a t::r,k=>af (pS (jj P t (E.get a) H) H) λv _=>KD P E H r λvs=>k (v::vs)
def acF (H:aa):List Value→Option (Value×aa)
 | [v]=>some (v,H)
 |vs=>some (.tuple vs.toArray,H)
def KF (P:Program)(rs:List ResultVar)(E:Env)(H:aa):Option (Value×aa):=KD P E H rs (acF H)
theorem B9 (P:Program)(E:Env)(H:aa): ∀(rs:List ResultVar) (k:List Value→Option (Value×aa)),KD P E H rs k=(rs.mapM λ(r:ResultVar)=>match r with
  | .tmp t=>some (E.get t)
  | .cell a t=>jj P t (E.get a) H).bind k
 | [],k=>rfl
 | .tmp t::r,k=>by
  rw[KD,B9 P E H r,List.mapM_cons];simp only[Option.bind_eq_bind,Option.bind_some,Option.bind_assoc,Option.pure_def]
 | .cell a t::r,k=>by
  rw[KD,List.mapM_cons];simp only[Option.bind_eq_bind,Option.bind_assoc,Option.pure_def,Option.bind_some];cases jj P t (E.get a) H with
  |none=>rfl
  |some v=>simp only[kM,cS,Option.bind_some];exact B9 P E H r _
theorem Rz (P:Program)(fn:Func)(E:Env)(H:aa):KF P fn.results.toList E H=(BG P fn E H).map (·,H):=by
 unfold KF BG;rw[B9];generalize (fn.results.toList.mapM λ(r:ResultVar)=>match r with
  | .tmp t=>some (E.get t)
  | .cell a t=>jj P t (E.get a) H)=x
 cases x with
 |none=>rfl
 |some vs=>
  match vs with
  | []=>rfl
  | [v]=>rfl
  |_::_::_=>rfl
def eh (P:Program)(rs:List ResultVar)(keep:List Nat):bA→List Value→aa→Option (Value×aa):=
 λe vs H=>match e with
  | .normal| .ret=>KF P rs (keep.zip vs) H
  | .exit _=>none
@[simp] theorem UL (P:Program)(rs:List ResultVar)(keep:List Nat)(vs:List Value)(H:aa):eh P rs keep .normal vs H=KF P rs (keep.zip vs) H:=rfl
@[simp] theorem aaA (P:Program)(rs:List ResultVar)(keep:List Nat)(vs:List Value)(H:aa):eh P rs keep .ret vs H=KF P rs (keep.zip vs) H:=rfl
def Ia (P:Program)(C:ae)(n:Nat)(fn:Func)(keep:List Nat)(args:List Value)(H:aa):Option (Value×aa):=
 match fn.body with
 |some c=>nV P C keep n c (keep.map λt=>args.getD t undef) H (eh P fn.results.toList keep)
 |none=>none
theorem ao {P:Program}{bad:List FuncId}{G:ae}{n:Nat}{f:FuncId}{fn:Func}(hb:bad.contains f=false)(hf:P.funcs[f]? =some fn){keep:List Nat}(hk:mZ fn=keep)(args:List Value)(H:aa):
  gC P bad G (n+1) f args H=Ia P (gC P bad G n) n fn keep args H:=by
 subst hk;unfold Ia
 conv=>lhs;unfold gC
 rw[hb,hf];simp only[Bool.false_eq_true,if_false];cases fn.body with
 |none=>rfl
 |some c=>
  simp only;rw[Wi];generalize ev P (gC P bad G n) (mZ fn) n c ((mZ fn).map λt=>args.getD t undef) H=x
  cases x with
  |none=>rfl
  |some p=>
   obtain⟨e,vs,H'⟩:=p;cases e<;>simp only[iY,Rz,eh]
def aK (c a b:Value)(H:aa):Option (Value×aa):=
 match c with
 | .bool t=>some (if t then a else b,H)
 |_=>none
def aq (p:Value)(H:aa):Option Value:=
 match p with
 | .pointer (some ⟨i,off,none⟩)=>match H.get i with
  |some b=>b.cells[off]?
  |none=>none
 |_=>none
def dh (n:Nat)(p:Value)(H:aa):Option Value:=
 match p with
 | .pointer (some ⟨i,off,none⟩)=>match aR H i off n with
  |some vs=>some (.agg vs.toArray)
  |none=>none
 |_=>none
def bE (n:Nat)(p v:Value)(H:aa):Option (Value×aa):=
 (match p with
 | .pointer (some ⟨i,off,none⟩)=>if v.cells.size=n∧known v=true then bZ H i off v.cells.toList else none
 |_=>none:Option aa).map (undef,·)
def au (x:Value)(H:aa):Option (Value×aa):=
 match x with
 | .pointer (some a)=>some (.pointer (some a),H)
 | .func (.func g) f c=>some (.func (.func g) f c,H)
 |_=>none
def ak (off:Nat)(x:Value)(H:aa):Option (Value×aa):=
 match x with
 | .pointer (some ⟨i,o,none⟩)=>some (.pointer (some ⟨i,o+off,none⟩),H)
 |_=>none
def cK (es:Nat)(x i:Value)(H:aa):Option (Value×aa):=
 match x,i with
 | .slice (some ⟨b,off,none⟩) len _,.int _ n=>if 0≤n∧n<len then some (.pointer (some ⟨b,off+n.toNat*es,none⟩),H) else none
 |_,_=>none
def cE (x:Value):Option Value:=
 match x with
 | .slice _ n _=>some (.int .i64 n)
 |_=>none
def pM (es:Nat)(H:aa)(x:Value)(lo hi:Option Value):Option Value:=
 match x with
 | .slice a len cap=>
   match dj len hi,dj 0 lo with
   |some h,some l=>if 0≤h∧h≤cap∧0≤l∧l≤h then
     match a with
     |none=>some (.slice none 0 0)
     |some ⟨i,off,none⟩=>match H.get i with
      |some b=>if b.es=es then some (.slice (some ⟨i,off+l.toNat*es,none⟩) (h.toNat-l.toNat) (cap-l.toNat)) else if cap=0 then some (.slice (some ⟨i,off,none⟩) 0 0) else none
      |none=>if cap=0 then some (.slice (some ⟨i,off,none⟩) 0 0) else none
     |_=>none
    else none
   |_,_=>none
 |_=>none
def KI (i:Nat)(x:Option ((Nat→Value)×eW))(H:aa):Option (Value×aa):=
 match H[i]? with
 |some .hole=>match x with
  |some (mk,b)=>some (mk i,H.set i (.zL b))
  |none=>none
 |_=>none
theorem Ib {i:Nat}{mk:Nat→Value}{b:eW}{H:aa}(h:H[i]? =some .hole):KI i (some (mk,b)) H=some (mk i,H.set i (.zL b)):=by
 unfold KI;rw[h]
def bsB (P:Program)(t:TypeId)(n:Nat)(ps:List (Nat×Value)):Option ((Nat→Value)×eW):=
 match ay P t n ps [] with
 |some (_,[.zL b])=>some (λi=>.slice (some ⟨i,0,none⟩) n n,b)
 |_=>none
def cx (i:Nat)(x:Value)(H:aa):Option (Value×aa):=
 match x with
 | .tuple vs=>(vs[i]?).map (·,H)
 |_=>none
def AV (k:IntKind)(x:Value)(H:aa):Option (Value×aa):=
 match x with
 | .int _ n=>some (.int k (k.wrap n),H)
 |_=>none
def dL (t:TypeId)(x:Value)(H:aa):Option (Value×aa):=
 if x.cells.toList.all aD then some (aV H t 1 x.cells.toList) else none
def dk (elem:TypeId)(size bytes:Nat)(s x:Value)(H:aa):Option (Value×aa):=
 match s with
 | .slice base sLen sCap=>
    match (match x with
     | .slice _ n _=>(cJ H size n x).map λcs=>(n,cs)
     |_=>none:Option (Nat×List Value)) with
    |some (n,new)=>
     let need:=sLen+n
     if need≤sCap then
      match base with
      |none=>some (.slice none need sCap,H)
      |some ⟨i,off,none⟩=>if n=0 then some (.slice base need sCap,H) else
       match H.get i with
       |some b=>if b.es=size then(bZ H i (off+sLen*size) new).map λH'=>(.slice base need sCap,H') else none
       |none=>none
      |_=>none
     else if need≤4294967296&&bytes≤4096&&size≠0 then
      match base with
      |none=>if sLen=0 then some (.slice (some ⟨H.length,0,none⟩) need need,H.new ⟨new,elem,size,false⟩) else none
      |some ⟨i,off,none⟩=>
       match H.get i with
       |some b=>
        if !b.ro&&b.es==size&&off+sCap*size==b.cells.length then
         match aR H i off (sLen*size) with
         |some old=>some (.slice (some ⟨H.length,0,none⟩) need need,(H.kill i).new ⟨old++new,elem,size,false⟩)
         |none=>none
        else none
       |none=>none
      |_=>none
     else none
    |none=>none
 |_=>none
def Wj (elem:TypeId)(size bytes:Nat)(z:List Value)(len cap:Value)(H:aa):Option (Value×aa):=
 match len,cap with
 | .int _ l,.int _ c=>
   if 0≤l∧l≤c∧c≤4294967296∧bytes≤4096∧size≠0 then
    some (.slice (some ⟨H.length,0,none⟩) l.toNat c.toNat,H.new ⟨bK z c.toNat,elem,size,false⟩)
   else none
 |_,_=>none
def msB (elem:TypeId)(size bytes:Nat)(z:List Value)(len cap:Value):Option ((Nat→Value)×eW):=
 match Wj elem size bytes z len cap [] with
 |some (.slice _ n m,[.zL b])=>some (λi=>.slice (some ⟨i,0,none⟩) n m,b)
 |_=>none
def aaB (x y:Value)(H:aa):Option (Value×aa):=
 match x,y with
 | .int k a,.int k' b=>if k=k' then some (.int k (if b<a then b else a),H) else none
 |_,_=>none
def Oh (x y:Value)(H:aa):Option (Value×aa):=
 match x,y with
 | .int k a,.int k' b=>if k=k' then some (.int k (if b>a then b else a),H) else none
 |_,_=>none
abbrev sl (keep:List Nat)(vs:List Value)(t:Nat):Value:=Env.get (keep.zip vs) t
end Go.Proofs.YtgfgglponbmgmaaGreatA.Am
end
section
namespace Go.Proofs.YtgfgglponbmgmaaGreat.Fun
open Go.RowKit Go.Proofs.YtgfgglponbmgmaaGreatA.Am
set_option maxRecDepth 10000
abbrev ks:List FuncId:=[14,25,34,45]
theorem aaC:ov Tryz.prog=[]:=by kernel_rfl
theorem av (f:FuncId)(h:(ks++[]:List FuncId).contains f=false):(ks++ov Tryz.prog).contains f=false:=by rw[aaC];exact h
def run (G:ae)(n:Nat):ae:=gC Tryz.prog (ks++ov Tryz.prog) G n
end Go.Proofs.YtgfgglponbmgmaaGreat.Fun
end
