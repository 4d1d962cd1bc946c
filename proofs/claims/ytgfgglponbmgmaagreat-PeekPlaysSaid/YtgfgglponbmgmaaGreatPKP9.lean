/- Texts of the proof of peekPlays_holds, put together by a small program of ours (names shortened, spaces taken out). No condition beyond the given statement. -/
import Derived.Test.YtgfgglponbmgmaaGreatPKP8
import Derived.Test.YtgfgglponbmgmaaGreatProg
import Derived.KernelRfl
set_option linter.unusedVariables false
set_option linter.unusedSimpArgs false
set_option linter.unnecessarySimpa false
noncomputable section
section
namespace Go.Proofs.YtgfgglponbmgmaaGreatA.Am
variable {α:Type}
def af (x:Option (Value×aa))(k:Value→aa→Option α):Option α:=
 match x with
 |some (v,H)=>k v H
 |none=>none
@[simp] theorem cQ (v:Value)(H:aa)(k:Value→aa→Option α):af (some (v,H)) k=k v H:=rfl
@[simp] theorem aae (k:Value→aa→Option α):af none k=none:=rfl
def pS (x:Option Value)(H:aa):Option (Value×aa):=x.map (·,H)
@[simp] theorem kD (v:Value)(H:aa):pS (some v) H=some (v,H):=rfl
@[simp] theorem ab0 (H:aa):pS none H=none:=rfl
abbrev cv (x:Int):Value:=.int .i64 x
abbrev mv (x:Value)(H:aa)(k:Value→aa→Option α):Option α:=af (some (x,H)) k
abbrev VH:Type:=Option (Value×aa)
def gd (w:Option Bool)(x:Option (Value×aa))(H:aa):Option (Value×aa):=
 match w with
 |some true=>x
 |some false=>some (undef,H)
 |none=>none
@[simp] theorem vj (x:Option (Value×aa))(H:aa):gd (some true) x H=x:=rfl
@[simp] theorem rF (x:Option (Value×aa))(H:aa):gd (some false) x H=some (undef,H):=rfl
def ag (v:Value)(want:Bool):Option Bool:=
 match v with
 | .bool b=>some (b==want)
 | .tuple vs=>if vs.isEmpty then some false else none
 |_=>none
@[simp] theorem VM (b want:Bool):ag (.bool b) want=some (b==want):=rfl
@[simp] theorem T7 (want:Bool):ag undef want=some false:=rfl
def aX (v:Value)(x y:Option α):Option α:=
 match v with
 | .bool true=>x
 | .bool false=>y
 |_=>none
@[simp] theorem aaf (x y:Option α):aX (.bool true) x y=x:=rfl
@[simp] theorem Ze (x y:Option α):aX (.bool false) x y=y:=rfl
def aed (c a b:Value):Option Value:=
 match c with
 | .bool t=>some (if t then a else b)
 |_=>none
def FW (P:Program)(C:ae)(ops:Array Oper):List Oper→Env→aa→(Env→aa→Option α)→Option α
 | [],E,H,k=>k E H
 |o::r,E,H,k=>af (match o.guard with
   |none=>gz P C E H o
   |some _=>gd (dC ops o E) (gz P C E H o) H) λv H'=>FW P C ops r (E.put o.dst v) H' k
theorem Hj (P:Program)(C:ae)(ops:Array Oper)(l:List Oper)(E:Env)(H:aa)(k:Env→aa→Option α):
  FW P C ops l E H k=match eF P C ops l E H with|some (E',H')=>k E' H'|none=>none:=by
 induction l generalizing E H with
 |nil=>rfl
 |cons o r ih=>
  rw[FW,eF];cases hg:o.guard with
  |none=>
   have:dC ops o E=some true:=by simp only[dC,hg]
   rw[this];cases gz P C E H o with
   |none=>rfl
   |some p=>obtain⟨v,H'⟩:=p;simp only[cQ];exact ih _ _
  |some g=>
   simp only;cases dC ops o E with
   |none=>rfl
   |some b=>
    cases b with
    |true=>
     simp only[vj];cases gz P C E H o with
     |none=>rfl
     |some p=>obtain⟨v,H'⟩:=p;simp only[cQ];exact ih _ _
    |false=>simp only[rF,cQ];exact ih _ _
def AL (P:Program)(C:ae)(ops:Array Oper):List Oper→Env→aa→List (Env×aa)→(Env→aa→List (Env×aa)→Option α)→Option α
 | [],E,H,T,k=>k E H (T++[(E,H)])
 |o::r,E,H,T,k=>af (match o.guard with
   |none=>gz P C E H o
   |some _=>gd (dC ops o E) (gz P C E H o) H) λv H'=>AL P C ops r (E.put o.dst v) H' (T++[(E,H)]) k
theorem Ns (P:Program)(C:ae)(ops:Array Oper)(l:List Oper)(E:Env)(H:aa)(T:List (Env×aa))(k:Env→aa→List (Env×aa)→Option α):
  AL P C ops l E H T k=match eF P C ops l E H with|some (E',H')=>k E' H' (T++trace P C ops l E H)|none=>none:=by
 induction l generalizing E H T with
 |nil=>rfl
 |cons o r ih=>
  rw[AL,eF,trace];cases hg:o.guard with
  |none=>
   have:dC ops o E=some true:=by simp only[dC,hg]
   rw[this];cases gz P C E H o with
   |none=>rfl
   |some p=>obtain⟨v,H'⟩:=p;simp only[cQ,ih,List.append_assoc,List.singleton_append]
  |some g=>
   simp only;cases dC ops o E with
   |none=>rfl
   |some b=>
    cases b with
    |true=>
     simp only[vj];cases gz P C E H o with
     |none=>rfl
     |some p=>obtain⟨v,H'⟩:=p;simp only[cQ,ih,List.append_assoc,List.singleton_append]
    |false=>simp only[rF,cQ,ih,List.append_assoc,List.singleton_append]
def AM (P:Program)(C:ae)(F:List Nat)(base:Nat)(ops:Array Oper):List Oper→Nat→Env→aa→(Env→aa→Option α)→Option α
 | [],_,E,H,k=>k E H
 |o::r,j,E,H,k=>af (match o.guard with
   |none=>dw P C F base j E H o
   |some _=>gd (dC ops o E) (dw P C F base j E H o) H) λv H'=>AM P C F base ops r (j+1) (E.put o.dst v) H' k
def tq (P:Program)(C:ae)(F:List Nat)(base:Nat)(ops:Array Oper):List Oper→Nat→Env→aa→List (Env×aa)→(Env→aa→List (Env×aa)→Option α)→Option α
 | [],_,E,H,T,k=>k E H (T++[(E,H)])
 |o::r,j,E,H,T,k=>af (match o.guard with
   |none=>dw P C F base j E H o
   |some _=>gd (dC ops o E) (dw P C F base j E H o) H) λv H'=>tq P C F base ops r (j+1) (E.put o.dst v) H' (T++[(E,H)]) k
theorem Nt (P:Program)(C:ae)(F:List Nat)(base:Nat)(ops:Array Oper)(l:List Oper)(j:Nat)(E:Env)(H:aa)(k:Env→aa→Option α):
  AM P C F base ops l j E H k=match cX P C F base ops l j E H with|some (E',H')=>k E' H'|none=>none:=by
 induction l generalizing j E H with
 |nil=>rfl
 |cons o r ih=>
  rw[AM,cX];cases hg:o.guard with
  |none=>
   have:dC ops o E=some true:=by simp only[dC,hg]
   rw[this];cases dw P C F base j E H o with
   |none=>rfl
   |some p=>obtain⟨v,H'⟩:=p;simp only[cQ];exact ih _ _ _
  |some g=>
   simp only;cases dC ops o E with
   |none=>rfl
   |some b=>
    cases b with
    |true=>
     simp only[vj];cases dw P C F base j E H o with
     |none=>rfl
     |some p=>obtain⟨v,H'⟩:=p;simp only[cQ];exact ih _ _ _
    |false=>simp only[rF,cQ];exact ih _ _ _
theorem JD (P:Program)(C:ae)(F:List Nat)(base:Nat)(ops:Array Oper)(l:List Oper)(j:Nat)(E:Env)(H:aa)(T:List (Env×aa))(k:Env→aa→List (Env×aa)→Option α):
  tq P C F base ops l j E H T k=match cX P C F base ops l j E H with|some (E',H')=>k E' H' (T++eo P C F base ops l j E H)|none=>none:=by
 induction l generalizing j E H T with
 |nil=>rfl
 |cons o r ih=>
  rw[tq,cX,eo];cases hg:o.guard with
  |none=>
   have:dC ops o E=some true:=by simp only[dC,hg]
   rw[this];cases dw P C F base j E H o with
   |none=>rfl
   |some p=>obtain⟨v,H'⟩:=p;simp only[cQ,ih,List.append_assoc,List.singleton_append]
  |some g=>
   simp only;cases dC ops o E with
   |none=>rfl
   |some b=>
    cases b with
    |true=>
     simp only[vj];cases dw P C F base j E H o with
     |none=>rfl
     |some p=>obtain⟨v,H'⟩:=p;simp only[cQ,ih,List.append_assoc,List.singleton_append]
    |false=>simp only[rF,cQ,ih,List.append_assoc,List.singleton_append]
def tu (n:Nat)(H:aa)(k:Nat→aa→Option α):Option α:=k H.length (H.cE n)
def rG (P:Program)(C:ae)(ops:Array Oper)(draw:Bool)(E:Env)(H:aa)(k:Env→aa→Option α):Option α:=
 if draw then
  match lK P ops with
  | []=>match mB P ops with
   | []=>FW P C ops ops.toList E H k
   |cs=>AL P C ops ops.toList E H [] λE' H' T=>if cs.all (iO P ops T) then k E' H' else none
  |F=>tu F.length H λbase H=>match mB P ops with
   | []=>AM P C F base ops ops.toList 0 E H k
   |cs=>tq P C F base ops ops.toList 0 E H [] λE' H' T=>if cs.all (iO P ops T) then k E' H' else none
 else FW P C ops ops.toList E H k
theorem FX (P:Program)(C:ae)(ops:Array Oper)(draw:Bool)(E:Env)(H:aa)(k:Env→aa→Option α):
  rG P C ops draw E H k=match fe P C ops draw E H with|some (E',H')=>k E' H'|none=>none:=by
 unfold rG fe;cases draw with
 |false=>simp only[Bool.false_eq_true,if_false];exact Hj ..
 |true=>
  simp only[if_true];cases lK P ops with
  |nil=>
   simp only;cases mB P ops with
   |nil=>exact Hj ..
   |cons c cs=>
    simp only[Ns,List.nil_append];cases eF P C ops ops.toList E H with
    |none=>by_cases hb:(c::cs).all (iO P ops (trace P C ops ops.toList E H))=true<;>simp only[hb,if_true,if_false,Bool.false_eq_true]
    |some q=>
     obtain⟨E',H'⟩:=q;by_cases hb:(c::cs).all (iO P ops (trace P C ops ops.toList E H))=true<;>simp only[hb,if_true,if_false,Bool.false_eq_true]
  |cons f F=>
   simp only[tu];cases mB P ops with
   |nil=>exact Nt ..
   |cons c cs=>
    simp only[JD,List.nil_append];cases cX P C (f::F) H.length ops ops.toList 0 E (H.cE (f::F).length) with
    |none=>by_cases hb:(c::cs).all (iO P ops (eo P C (f::F) H.length ops ops.toList 0 E (H.cE (f::F).length)))=true<;>simp only[hb,if_true,if_false,Bool.false_eq_true]
    |some q=>
     obtain⟨E',H'⟩:=q;by_cases hb:(c::cs).all (iO P ops (eo P C (f::F) H.length ops ops.toList 0 E (H.cE (f::F).length)))=true<;>simp only[hb,if_true,if_false,Bool.false_eq_true]
def lA (wx wy:Option Bool)(u u1 u2:Option (Value×aa)):Bool:=
 match wx,wy with
 |some true,some true=>match u,u1,u2 with
  |some (u,_),some (u1,_),some (u2,_)=>oo u u1&&oo u u2
  |_,_,_=>false
 |some _,some _=>true
 |_,_=>false
@[simp] theorem aag (u u1 u2:Value)(H H1 H2:aa):lA (some true) (some true) (some (u,H)) (some (u1,H1)) (some (u2,H2))=(oo u u1&&oo u u2):=rfl
@[simp] theorem acf (w:Bool)(u u1 u2:Option (Value×aa)):lA (some false) (some w) u u1 u2=true:=by cases w<;>rfl
@[simp] theorem acg (w:Bool)(u u1 u2:Option (Value×aa)):lA (some w) (some false) u u1 u2=true:=by cases w<;>rfl
@[simp] theorem kE (k:IntKind)(a:Int):oo (.int k a) (.int k a)=true:=by simp[oo,zI]
@[simp] theorem Nu (a:Bool):oo (.bool a) (.bool a)=true:=by simp[oo,zI]
@[simp] theorem jS (a:Option Addr):oo (.pointer a) (.pointer a)=true:=by simp[oo,zI]
@[simp] theorem kK (a:Option Addr)(n c:Nat):oo (.slice a n c) (.slice a n c)=true:=by simp[oo,zI]
def fin:bD→List Value→aa→bh:=λe vs H=>some (e,vs,H)
def cl (x:bh)(k:bD→List Value→aa→Option α):Option α:=
 match x with
 |some (e,vs,H)=>k e vs H
 |none=>none
@[simp] theorem iR (e:bD)(vs:List Value)(H:aa)(k:bD→List Value→aa→Option α):cl (some (e,vs,H)) k=k e vs H:=rfl
def up {β:Type}(x:β):β:=(λ(_:Option Nat)=>x) (af (α:=Nat) none λ_ _=>none)
def dP (kb:List Value→aa→Option α)(k:bD→List Value→aa→Option α):bD→List Value→aa→Option α:=
 λe vs H=>up (match e with
  | .normal=>kb vs H
  |e=>k e vs H)
def dI (id:Nat)(k:bD→List Value→aa→Option α):bD→List Value→aa→Option α:=
 λe vs H=>up (match e with
  | .exit i=>if i=id then k .normal vs H else k (.exit i) vs H
  |e=>k e vs H)
@[simp] theorem DY (kb:List Value→aa→Option α)(k:bD→List Value→aa→Option α)(vs:List Value)(H:aa):dP kb k .normal vs H=kb vs H:=rfl
@[simp] theorem Zf (kb:List Value→aa→Option α)(k:bD→List Value→aa→Option α)(i:Nat)(vs:List Value)(H:aa):dP kb k (.exit i) vs H=k (.exit i) vs H:=rfl
@[simp] theorem aah (kb:List Value→aa→Option α)(k:bD→List Value→aa→Option α)(vs:List Value)(H:aa):dP kb k .ret vs H=k .ret vs H:=rfl
@[simp] theorem T8 (id:Nat)(k:bD→List Value→aa→Option α)(vs:List Value)(H:aa):dI id k .normal vs H=k .normal vs H:=rfl
@[simp] theorem aai (id:Nat)(k:bD→List Value→aa→Option α)(vs:List Value)(H:aa):dI id k .ret vs H=k .ret vs H:=rfl
@[simp] theorem JE (id i:Nat)(k:bD→List Value→aa→Option α)(vs:List Value)(H:aa):dI id k (.exit i) vs H=if i=id then k .normal vs H else k (.exit i) vs H:=rfl
def VN (N:Nat)(C:ae)(g:Value)(L:TS)(H:aa):Option (sP×aa):=
 match g with
 | .func (.func gf) first captured=>
  if gf<N then
   match C gf (first.toList++[.func (.yield H.length) #[] #[]]++captured.toList) (H.kg (.loop L .ready)) with
   |some (_,H')=>match H'.dW H.length with
    |some (.loop _ s)=>some (s,H'.kill H.length)
    |_=>none
   |none=>none
  else none
 |_=>none
def DZ (x:Option (sP×aa))(k:bD→aa→Option α):Option α:=
 match x with
 |some (.ready,H)=>k .normal H
 |some (.ret,H)=>k .ret H
 |some (.exit id,H)=>k (.exit id) H
 |_=>none
@[simp] theorem T9 (H:aa)(k:bD→aa→Option α):DZ (some (.ready,H)) k=k .normal H:=rfl
@[simp] theorem Zg (H:aa)(k:bD→aa→Option α):DZ (some (.ret,H)) k=k .ret H:=rfl
@[simp] theorem VO (id:Nat)(H:aa)(k:bD→aa→Option α):DZ (some (.exit id,H)) k=k (.exit id) H:=rfl
def nS (P:Program)(C:ae)(keep:List Nat)(n:Nat):{α:Type}→Code→List Value→aa→(bD→List Value→aa→Option α)→Option α
 |_,.skip,vs,H,k=>k .normal vs H
 |_,.label _,vs,H,k=>k .normal vs H
 |_,.region _ ops draw,vs,H,k=>rG P C ops draw (keep.zip vs) H λE H'=>k .normal (keep.map E.get) H'
 |_,.seq a b,vs,H,k=>nS P C keep n a vs H (dP (λja H'=>nS P C keep n b ja H' k) k)
 |_,.cond c a b,vs,H,k=>aX (eB (keep.zip vs) c) (nS P C keep n a vs H k) (nS P C keep n b vs H k)
 |_,.block id c,vs,H,k=>nS P C keep n c vs H (dI id k)
 |_,.loop c,vs,H,k=>cl (iter n (λvs H=>nS P C keep n c vs H fin) vs H) k
 |_,.exit id,vs,H,k=>k (.exit id) vs H
 |_,.scope c,vs,H,k=>nS P C keep n c vs H k
 |_,.ret,vs,H,k=>k .ret vs H
 |_,.goto _,_,_,_=>none
 |_,.rangeFunc g ps x y,vs,H,k=>DZ (VN P.funcs.size C (eB (keep.zip vs) g) ⟨keep,vs,ps,x,y⟩ H) λe H'=>k e vs H'
 |_,.refuse _,_,_,_=>none
theorem FY {n:Nat}{f g:List Value→aa→bh}(h: ∀vs H,f vs H=g vs H):iter n f=iter n g:=by
 have:f=g:=funext λvs=>funext λH=>h vs H
 rw[this]
theorem VP (P:Program)(C:ae)(keep:List Nat)(n:Nat)(c:Code): ∀{α:Type} (vs:List Value) (H:aa) (k:bD→List Value→aa→Option α),
  nS P C keep n c vs H k=cl (ev P C keep n c vs H) k:=by
 induction c with
 |skip=>intros;simp only[nS,ev,iR]
 |label _=>intros;simp only[nS,ev,iR]
 |region p ops draw=>
  intro α vs H k;simp only[nS,ev,FX];cases fe P C ops draw (keep.zip vs) H with
  |none=>rfl
  |some p=>rfl
 |seq a b JF JG=>
  intro α vs H k;simp only[nS,ev];rw[JF];cases ev P C keep n a vs H with
  |none=>rfl
  |some p=>
   obtain⟨e,ja,H'⟩:=p;cases e with
   |normal=>simp only[iR,DY];exact JG _ _ _
   |_=>rfl
 |cond c a b JF JG=>
  intro α vs H k;simp only[nS,ev,JF,JG];generalize eB (keep.zip vs) c=v
  cases v with
  |bool t=>cases t<;>rfl
  |_=>rfl
 |block id c ih=>
  intro α vs H k;simp only[nS,ev];rw[ih];cases ev P C keep n c vs H with
  |none=>rfl
  |some p=>
   obtain⟨e,ja,H'⟩:=p;cases e with
   |exit i=>
    simp only[iR,JE];split<;>rfl
   |_=>rfl
 |loop c ih=>
  intro α vs H k;simp only[nS,ev];rw[FY (g:=ev P C keep n c)];intro vs H;rw[ih];cases ev P C keep n c vs H with
  |none=>rfl
  |some p=>rfl
 |exit _=>intros;simp only[nS,ev,iR]
 |scope c ih=>intro α vs H k;simp only[nS,ev,ih]
 |ret=>intros;simp only[nS,ev,iR]
 |goto _=>intros;rfl
 |rangeFunc g ps x y _ _=>
  intro α vs H k;simp only[nS,ev,VN];generalize eB (keep.zip vs) g=v
  cases v with
  |func fn first captured=>
   cases fn with
   |func gf=>
    by_cases gG:gf<P.funcs.size
    ·simp only[gG,if_true];cases C gf (first.toList++[.func (.yield H.length) #[] #[]]++captured.toList) (H.kg (.loop ⟨keep,vs,ps,x,y⟩ .ready)) with
     |none=>rfl
     |some q=>
      obtain⟨u,H'⟩:=q;simp only;cases H'.dW H.length with
      |none=>rfl
      |some o=>
       cases o with
       |E8 _ _=>rfl
       |loop L s=>cases s<;>rfl
    ·simp only[gG,if_false];rfl
   |_=>rfl
  |_=>rfl
 |refuse _=>intros;rfl
def JH (P:Program)(E:Env)(H:aa):List ResultVar→(List Value→Option (Value×aa))→Option (Value×aa)
 | [],k=>k []
 | .tmp t::r,k=>JH P E H r λvs=>k (E.get t::vs)
 | .cell a t::r,k=>af (pS (jd P t (E.get a) H) H) λv _=>JH P E H r λvs=>k (v::vs)
def ach (H:aa):List Value→Option (Value×aa)
 | [v]=>some (v,H)
 |vs=>some (.tuple vs.toArray,H)
def JI (P:Program)(rs:List ResultVar)(E:Env)(H:aa):Option (Value×aa):=JH P E H rs (ach H)
theorem BY (P:Program)(E:Env)(H:aa): ∀(rs:List ResultVar) (k:List Value→Option (Value×aa)),JH P E H rs k=(rs.mapM λ(r:ResultVar)=>match r with
  | .tmp t=>some (E.get t)
  | .cell a t=>jd P t (E.get a) H).bind k
 | [],k=>rfl
 | .tmp t::r,k=>by
  rw[JH,BY P E H r,List.mapM_cons];simp only[Option.bind_eq_bind,Option.bind_some,Option.bind_assoc,Option.pure_def]
 | .cell a t::r,k=>by
  rw[JH,List.mapM_cons];simp only[Option.bind_eq_bind,Option.bind_assoc,Option.pure_def,Option.bind_some];cases jd P t (E.get a) H with
  |none=>rfl
  |some v=>simp only[kD,cQ,Option.bind_some];exact BY P E H r _
theorem QR (P:Program)(fn:Func)(E:Env)(H:aa):JI P fn.results.toList E H=(By P fn E H).map (·,H):=by
 unfold JI By;rw[BY];generalize (fn.results.toList.mapM λ(r:ResultVar)=>match r with
  | .tmp t=>some (E.get t)
  | .cell a t=>jd P t (E.get a) H)=x
 cases x with
 |none=>rfl
 |some vs=>
  match vs with
  | []=>rfl
  | [v]=>rfl
  |_::_::_=>rfl
def ef (P:Program)(rs:List ResultVar)(keep:List Nat):bD→List Value→aa→Option (Value×aa):=
 λe vs H=>match e with
  | .normal| .ret=>JI P rs (keep.zip vs) H
  | .exit _=>none
@[simp] theorem Ua (P:Program)(rs:List ResultVar)(keep:List Nat)(vs:List Value)(H:aa):ef P rs keep .normal vs H=JI P rs (keep.zip vs) H:=rfl
@[simp] theorem aaj (P:Program)(rs:List ResultVar)(keep:List Nat)(vs:List Value)(H:aa):ef P rs keep .ret vs H=JI P rs (keep.zip vs) H:=rfl
def Hl (P:Program)(C:ae)(n:Nat)(fn:Func)(keep:List Nat)(args:List Value)(H:aa):Option (Value×aa):=
 match fn.body with
 |some c=>nS P C keep n c (keep.map λt=>args.getD t undef) H (ef P fn.results.toList keep)
 |none=>none
theorem ao {P:Program}{bad:List FuncId}{G:ae}{n:Nat}{f:FuncId}{fn:Func}(hb:bad.contains f=false)(hf:P.funcs[f]? =some fn){keep:List Nat}(hk:mS fn=keep)(args:List Value)(H:aa):
  gB P bad G (n+1) f args H=Hl P (gB P bad G n) n fn keep args H:=by
 subst hk;unfold Hl
 conv=>lhs;unfold gB
 rw[hb,hf];simp only[Bool.false_eq_true,if_false];cases fn.body with
 |none=>rfl
 |some c=>
  simp only;rw[VP];generalize ev P (gB P bad G n) (mS fn) n c ((mS fn).map λt=>args.getD t undef) H=x
  cases x with
  |none=>rfl
  |some p=>
   obtain⟨e,vs,H'⟩:=p;cases e<;>simp only[iR,QR,ef]
def aK (c a b:Value)(H:aa):Option (Value×aa):=
 match c with
 | .bool t=>some (if t then a else b,H)
 |_=>none
def aq (p:Value)(H:aa):Option Value:=
 match p with
 | .pointer (some ⟨i,off,none⟩)=>match H.get i with
  |some b=>b.cells[off]?
  |none=>none
 |_=>none
def c8 (n:Nat)(p:Value)(H:aa):Option Value:=
 match p with
 | .pointer (some ⟨i,off,none⟩)=>match aR H i off n with
  |some vs=>some (.agg vs.toArray)
  |none=>none
 |_=>none
def bE (n:Nat)(p v:Value)(H:aa):Option (Value×aa):=
 (match p with
 | .pointer (some ⟨i,off,none⟩)=>if v.cells.size=n∧known v=true then bX H i off v.cells.toList else none
 |_=>none:Option aa).map (undef,·)
def au (x:Value)(H:aa):Option (Value×aa):=
 match x with
 | .pointer (some a)=>some (.pointer (some a),H)
 | .func (.func g) f c=>some (.func (.func g) f c,H)
 |_=>none
def ak (off:Nat)(x:Value)(H:aa):Option (Value×aa):=
 match x with
 | .pointer (some ⟨i,o,none⟩)=>some (.pointer (some ⟨i,o+off,none⟩),H)
 |_=>none
def aak (off:Nat)(x:Value)(H:aa):Option (Value×aa):=
 match x with
 | .agg cs=>(cs[off]?).map (·,H)
 |_=>none
def cG (es:Nat)(x i:Value)(H:aa):Option (Value×aa):=
 match x,i with
 | .slice (some ⟨b,off,none⟩) len _,.int _ n=>if 0≤n∧n<len then some (.pointer (some ⟨b,off+n.toNat*es,none⟩),H) else none
 |_,_=>none
def cC (x:Value):Option Value:=
 match x with
 | .slice _ n _=>some (.int .i64 n)
 |_=>none
def pI (es:Nat)(H:aa)(x:Value)(lo hi:Option Value):Option Value:=
 match x with
 | .slice a len cap=>
   match de len hi,de 0 lo with
   |some h,some l=>if 0≤h∧h≤cap∧0≤l∧l≤h then
     match a with
     |none=>some (.slice none 0 0)
     |some ⟨i,off,none⟩=>match H.get i with
      |some b=>if b.es=es then some (.slice (some ⟨i,off+l.toNat*es,none⟩) (h.toNat-l.toNat) (cap-l.toNat)) else if cap=0 then some (.slice (some ⟨i,off,none⟩) 0 0) else none
      |none=>if cap=0 then some (.slice (some ⟨i,off,none⟩) 0 0) else none
     |_=>none
    else none
   |_,_=>none
 |_=>none
def JJ (i:Nat)(x:Option ((Nat→Value)×eU))(H:aa):Option (Value×aa):=
 match H[i]? with
 |some .hole=>match x with
  |some (mk,b)=>some (mk i,H.set i (.zA b))
  |none=>none
 |_=>none
theorem Hm {i:Nat}{mk:Nat→Value}{b:eU}{H:aa}(h:H[i]? =some .hole):JJ i (some (mk,b)) H=some (mk i,H.set i (.zA b)):=by
 unfold JJ;rw[h]
def bsB (P:Program)(t:TypeId)(n:Nat)(ps:List (Nat×Value)):Option ((Nat→Value)×eU):=
 match ay P t n ps [] with
 |some (_,[.zA b])=>some (λi=>.slice (some ⟨i,0,none⟩) n n,b)
 |_=>none
def cm (i:Nat)(x:Value)(H:aa):Option (Value×aa):=
 match x with
 | .tuple vs=>(vs[i]?).map (·,H)
 |_=>none
def AN (k:IntKind)(x:Value)(H:aa):Option (Value×aa):=
 match x with
 | .int _ n=>some (.int k (k.wrap n),H)
 |_=>none
def dJ (t:TypeId)(x:Value)(H:aa):Option (Value×aa):=
 if x.cells.toList.all aD then some (aS H t 1 x.cells.toList) else none
def df (elem:TypeId)(size bytes:Nat)(s x:Value)(H:aa):Option (Value×aa):=
 match s with
 | .slice base sLen sCap=>
    match (match x with
     | .slice _ n _=>(cI H size n x).map λcs=>(n,cs)
     |_=>none:Option (Nat×List Value)) with
    |some (n,new)=>
     let need:=sLen+n
     if need≤sCap then
      match base with
      |none=>some (.slice none need sCap,H)
      |some ⟨i,off,none⟩=>if n=0 then some (.slice base need sCap,H) else
       match H.get i with
       |some b=>if b.es=size then(bX H i (off+sLen*size) new).map λH'=>(.slice base need sCap,H') else none
       |none=>none
      |_=>none
     else if need≤4294967296&&bytes≤4096&&size≠0 then
      match base with
      |none=>if sLen=0 then some (.slice (some ⟨H.length,0,none⟩) need need,H.new ⟨new,elem,size,false⟩) else none
      |some ⟨i,off,none⟩=>
       match H.get i with
       |some b=>
        if !b.ro&&b.es==size&&off+sCap*size==b.cells.length then
         match aR H i off (sLen*size) with
         |some old=>some (.slice (some ⟨H.length,0,none⟩) need need,(H.kill i).new ⟨old++new,elem,size,false⟩)
         |none=>none
        else none
       |none=>none
      |_=>none
     else none
    |none=>none
 |_=>none
def VQ (elem:TypeId)(size bytes:Nat)(z:List Value)(len cap:Value)(H:aa):Option (Value×aa):=
 match len,cap with
 | .int _ l,.int _ c=>
   if 0≤l∧l≤c∧c≤4294967296∧bytes≤4096∧size≠0 then
    some (.slice (some ⟨H.length,0,none⟩) l.toNat c.toNat,H.new ⟨bL z c.toNat,elem,size,false⟩)
   else none
 |_,_=>none
def msB (elem:TypeId)(size bytes:Nat)(z:List Value)(len cap:Value):Option ((Nat→Value)×eU):=
 match VQ elem size bytes z len cap [] with
 |some (.slice _ n m,[.zA b])=>some (λi=>.slice (some ⟨i,0,none⟩) n m,b)
 |_=>none
def aal (x y:Value)(H:aa):Option (Value×aa):=
 match x,y with
 | .int k a,.int k' b=>if k=k' then some (.int k (if b<a then b else a),H) else none
 |_,_=>none
def Nv (x y:Value)(H:aa):Option (Value×aa):=
 match x,y with
 | .int k a,.int k' b=>if k=k' then some (.int k (if b>a then b else a),H) else none
 |_,_=>none
abbrev sl (keep:List Nat)(vs:List Value)(t:Nat):Value:=Env.get (keep.zip vs) t
end Go.Proofs.YtgfgglponbmgmaaGreatA.Am
end
section
namespace Go.Proofs.YtgfgglponbmgmaaGreat.Fun
open Go.RowKit Go.Proofs.YtgfgglponbmgmaaGreatA.Am
set_option maxRecDepth 10000
abbrev ks:List FuncId:=[14,25,34,45]
theorem aam:ot Tryz.prog=[]:=by kernel_rfl
theorem av (f:FuncId)(h:(ks++[]:List FuncId).contains f=false):(ks++ot Tryz.prog).contains f=false:=by rw[aam];exact h
def run (G:ae)(n:Nat):ae:=gB Tryz.prog (ks++ot Tryz.prog) G n
abbrev eJ (vs:List Value)(i:Nat):Value:=sl [0,1,2,3,4,5,12,24,13,14,52,17,16,61,75,15,18,19,109] vs i
def FZ (C:ae)(n:Nat)(v0 v1 v2 v3 v4 v5 aY fH aT bq kL dt bZ kW vk bV cD dZ kF:Value)(H:aa):bh:= mv dt H λeE H=>af (pS (ai Tryz.prog .add 3 eE (cv 1)) H) λdE H=>mv dE H λeh H=>fin .normal [v0,v1,v2,v3,v4,v5,aY,fH,aT,bq,kL,eh,bZ,kW,vk,bV,cD,dZ,kF] H
def Ub (C:ae)(n:Nat)(vs:List Value)(H:aa):bh:=FZ C n (eJ vs 0) (eJ vs 1) (eJ vs 2) (eJ vs 3) (eJ vs 4) (eJ vs 5) (eJ vs 12) (eJ vs 24) (eJ vs 13) (eJ vs 14) (eJ vs 52) (eJ vs 17) (eJ vs 16) (eJ vs 61) (eJ vs 75) (eJ vs 15) (eJ vs 18) (eJ vs 19) (eJ vs 109) H
theorem QS (C:ae)(n:Nat)(v0 v1 v2 v3 v4 v5 aY fH aT bq kL dt bZ kW vk bV cD dZ kF:Value)(H:aa):Ub C n [v0,v1,v2,v3,v4,v5,aY,fH,aT,bq,kL,dt,bZ,kW,vk,bV,cD,dZ,kF] H=FZ C n v0 v1 v2 v3 v4 v5 aY fH aT bq kL dt bZ kW vk bV cD dZ kF H:=by
 kernel_rfl
def F0 (C:ae)(n:Nat)(v0 v1 v2 v3 v4 v5 aY fH aT bq kL dt bZ kW vk bV cD dZ kF:Value)(H:aa):bh:= mv bV H λdK H=>mv aT H λdq H=>af (au dq H) λdF H=>af (ak 0 dF H) λcT H=>af (pS (aq cT H) H) λcM H=>af (C 26 [dK,cM] H) λeC H=>mv eC H λdS H=>mv bZ H λdQ H=>mv aT H λdR H=>af (au dR H) λeK H=>af (ak 1 eK H) λeW H=>af (pS (aq eW H) H) λdA H=>af (au dA H) λir H=>af (ak 3 ir H) λdX H=>af (pS (aq dX H) H) λgC H=>af (C 20 [dQ,gC] H) λiS H=>mv iS H λgH H=>mv dS H λeQ nb=>af (some (gH,nb)) λiZ rH=>af (pS (ai Tryz.prog .neq 4 eQ iZ) rH) λjU qD=>af (some (jU,qD)) λia nc=>af (gd (ag ia false) (some (bV,nc)) nc) λfE lD=>af (gd (ag ia false) (C 27 [fE] lD) lD) λjV nT=>af (gd (ag ia false) (some (bZ,nT)) nT) λfI uU=>af (gd (ag ia false) (au fI uU) uU) λgR tv=>af (gd (ag ia false) (ak 23 gR tv) tv) λkM rI=>af (gd (ag ia false) (pS (aq kM rI) rI) rI) λmH uV=>af (gd (ag ia false) (pS (ai Tryz.prog .neq 4 jV mH) uV) uV) λnd BZ=>af (aK ia (Value.bool true) nd BZ) λmI JK=>if(lA (ag ia false) (ag ia false) (pS (aq kM rI) rI) (pS (aq kM lD) lD) (pS (aq kM nT) nT)&&true)=true then(λH=>aX mI (mv (Value.bool false) H λfT H=>fin .ret [v0,v1,v2,v3,v4,v5,fT,fH,aT,bq,kL,dt,bZ,kW,vk,bV,dS,gH,mI] H) (Ub C n [v0,v1,v2,v3,v4,v5,aY,fH,aT,bq,kL,dt,bZ,kW,vk,bV,dS,gH,mI] H)) JK else none
def Hn (C:ae)(n:Nat)(vs:List Value)(H:aa):bh:=F0 C n (eJ vs 0) (eJ vs 1) (eJ vs 2) (eJ vs 3) (eJ vs 4) (eJ vs 5) (eJ vs 12) (eJ vs 24) (eJ vs 13) (eJ vs 14) (eJ vs 52) (eJ vs 17) (eJ vs 16) (eJ vs 61) (eJ vs 75) (eJ vs 15) (eJ vs 18) (eJ vs 19) (eJ vs 109) H
theorem QT (C:ae)(n:Nat)(v0 v1 v2 v3 v4 v5 aY fH aT bq kL dt bZ kW vk bV cD dZ kF:Value)(H:aa):Hn C n [v0,v1,v2,v3,v4,v5,aY,fH,aT,bq,kL,dt,bZ,kW,vk,bV,cD,dZ,kF] H=F0 C n v0 v1 v2 v3 v4 v5 aY fH aT bq kL dt bZ kW vk bV cD dZ kF H:=by
 kernel_rfl
def F1 (C:ae)(n:Nat)(v0 v1 v2 v3 v4 v5 aY fH aT bq kL dt bZ kW vk bV cD dZ kF:Value)(H:aa):bh:= mv dt H λcr H=>af (pS (ai Tryz.prog .lss 3 cr (cv 40)) H) λdx H=>mv dx H λbG H=>af (gd (ag bG true) (some (bZ,H)) H) λcp H=>af (gd (ag bG true) (au cp H) H) λdL H=>af (gd (ag bG true) (ak 23 dL H) H) λdr H=>af (gd (ag bG true) (pS (aq dr H) H) H) λcS H=>af (gd (ag bG true) (pS (iC .not cS) H) H) λcw H=>af (aK bG cw (Value.bool false) H) λcJ H=>aX cJ (mv dt H λn8 H=>mv v5 H λml H=>af (pS (cC ml) H) λkX H=>af (pS (ai Tryz.prog .lss 3 n8 kX) H) λsL H=>mv sL H λij H=>af (gd (ag ij true) (some (v5,H)) H) λlB H=>af (gd (ag ij true) (some (dt,H)) H) λsM H=>af (gd (ag ij true) (cG 1 lB sM H) H) λmu H=>af (gd (ag ij true) (pS (aq mu H) H) H) λvl H=>af (gd (ag ij true) (pS (ai Tryz.prog .rem 3 vl (cv 3)) H) H) λpJ H=>af (gd (ag ij true) (pS (ai Tryz.prog .eql 3 pJ (cv 0)) H) H) λzY H=>af (aK ij zY (Value.bool false) H) λwW H=>aX wW (mv aT H λAO H=>mv v5 H λfJ H=>mv dt H λzZ H=>af (cG 1 fJ zZ H) λDj H=>af (pS (aq Dj H) H) λzF H=>af (pS (ai Tryz.prog .quo 3 zF (cv 3)) H) λF2 H=>af (C 22 [AO,F2] H) λvm H=>Hn C n [v0,v1,v2,v3,v4,v5,aY,fH,aT,bq,kL,dt,bZ,cJ,wW,bV,cD,dZ,kF] H) (Hn C n [v0,v1,v2,v3,v4,v5,aY,fH,aT,bq,kL,dt,bZ,cJ,wW,bV,cD,dZ,kF] H)) (fin (.exit 0) [v0,v1,v2,v3,v4,v5,aY,fH,aT,bq,kL,dt,bZ,cJ,vk,bV,cD,dZ,kF] H)
def Nw (C:ae)(n:Nat)(vs:List Value)(H:aa):bh:=F1 C n (eJ vs 0) (eJ vs 1) (eJ vs 2) (eJ vs 3) (eJ vs 4) (eJ vs 5) (eJ vs 12) (eJ vs 24) (eJ vs 13) (eJ vs 14) (eJ vs 52) (eJ vs 17) (eJ vs 16) (eJ vs 61) (eJ vs 75) (eJ vs 15) (eJ vs 18) (eJ vs 19) (eJ vs 109) H
theorem QU (C:ae)(n:Nat)(v0 v1 v2 v3 v4 v5 aY fH aT bq kL dt bZ kW vk bV cD dZ kF:Value)(H:aa):Nw C n [v0,v1,v2,v3,v4,v5,aY,fH,aT,bq,kL,dt,bZ,kW,vk,bV,cD,dZ,kF] H=F1 C n v0 v1 v2 v3 v4 v5 aY fH aT bq kL dt bZ kW vk bV cD dZ kF H:=by
 kernel_rfl
def F3 (C:ae)(n:Nat)(v0 v1 v2 v3 v4 v5 aY fH aT bq kL dt bZ kW vk bV cD dZ kF:Value)(H:aa):VH:= mv bZ H λF5 aci=>af (au F5 aci) λD0 acj=>af (ak 23 D0 acj) λz5 aan=>af (pS (aq z5 aan) aan) λJL ack=>af (some (JL,ack)) λvn aao=>af (gd (ag vn true) (some (bV,aao)) aao) λAP QV=>af (gd (ag vn true) (C 28 [AP] QV) QV) λwX Ho=>af (gd (ag vn true) (some (bZ,Ho)) Ho) λwY Uc=>af (gd (ag vn true) (au wY Uc) Uc) λmn Ud=>af (gd (ag vn true) (ak 24 mn Ud) Ud) λfR Ue=>af (gd (ag vn true) (ak 0 fR Ue) Ue) λB0 D1=>af (gd (ag vn true) (pS (aq B0 D1) D1) D1) λz8 Uf=>af (gd (ag vn true) (pS (ai Tryz.prog .eql 2 wX z8) Uf) Uf) λuW aap=>af (aK vn uW (Value.bool false) aap) λF6 aaq=>af (some (F6,aaq)) λF7 Ug=>af (gd (ag F7 true) (some (aT,Ug)) Ug) λD2 Uh=>af (gd (ag F7 true) (C 15 [D2] Uh) Uh) λD3 aar=>af (aK F7 D3 (Value.bool false) aar) λNx aas=>af (some (Nx,aas)) λfN aat=>if(lA (ag vn true) (ag vn true) (pS (aq B0 D1) D1) (pS (aq B0 QV) QV) (pS (aq B0 Ho) Ho)&&true)=true then(λH=>some (fN,H)) aat else none
def Ui (C:ae)(n:Nat)(vs:List Value)(H:aa):VH:=F3 C n (eJ vs 0) (eJ vs 1) (eJ vs 2) (eJ vs 3) (eJ vs 4) (eJ vs 5) (eJ vs 12) (eJ vs 24) (eJ vs 13) (eJ vs 14) (eJ vs 52) (eJ vs 17) (eJ vs 16) (eJ vs 61) (eJ vs 75) (eJ vs 15) (eJ vs 18) (eJ vs 19) (eJ vs 109) H
theorem QW (C:ae)(n:Nat)(v0 v1 v2 v3 v4 v5 aY fH aT bq kL dt bZ kW vk bV cD dZ kF:Value)(H:aa):Ui C n [v0,v1,v2,v3,v4,v5,aY,fH,aT,bq,kL,dt,bZ,kW,vk,bV,cD,dZ,kF] H=F3 C n v0 v1 v2 v3 v4 v5 aY fH aT bq kL dt bZ kW vk bV cD dZ kF H:=by
 kernel_rfl
def F8 (C:ae)(n:Nat)(v0 v1 v2 v3 v4 v5 aY fH aT bq kL dt bZ kW vk bV cD dZ kF:Value)(H:aa):VH:= mv aT H λx6 H=>af (au x6 H) λx7 H=>af (ak 1 x7 H) λx8 H=>af (pS (aq x8 H) H) λx9 H=>af (au x9 H) λaC H=>af (ak 3 aC H) λaO H=>af (pS (aq aO H) H) λaN H=>mv v3 H λaI H=>af (C 23 [aN,aI] H) λaM H=>af (aak 1 aM H) λaW H=>mv aW H λaU H=>mv aU H λbf H=>af (C 24 [bf] H) λaV H=>mv aV H λbt H=>mv aU H λbR H=>af (pS (aE Tryz.prog 41 [(0,bR)]) H) λbn H=>af (C 17 [(cv 11),bn] H) λbA H=>mv bA H λbJ H=>af (C 25 [] H) λbM H=>af (pS (iC .not bM) H) λbU H=>mv bU H λb9 H=>af (gd (ag b9 false) (some (aT,H)) H) λcH H=>af (gd (ag b9 false) (C 15 [cH] H) H) λcd H=>af (gd (ag b9 false) (pS (iC .not cd) H) H) λbS H=>af (aK b9 (Value.bool true) bS H) λct H=>aX ct (mv (Value.bool false) H λcP H=>some (cP,H)) (mv (cv 0) H λbP H=>cl (iter n (Nw C n) [v0,v1,v2,v3,v4,v5,aY,fH,aT,aU,ct,bP,bJ,kW,vk,bt,cD,dZ,kF] H) (dI 0 (dP (Ui C n) (ef Tryz.prog [.tmp 12] [0,1,2,3,4,5,12,24,13,14,52,17,16,61,75,15,18,19,109]))))
def Hp (C:ae)(n:Nat)(vs:List Value)(H:aa):VH:=F8 C n (eJ vs 0) (eJ vs 1) (eJ vs 2) (eJ vs 3) (eJ vs 4) (eJ vs 5) (eJ vs 12) (eJ vs 24) (eJ vs 13) (eJ vs 14) (eJ vs 52) (eJ vs 17) (eJ vs 16) (eJ vs 61) (eJ vs 75) (eJ vs 15) (eJ vs 18) (eJ vs 19) (eJ vs 109) H
theorem QX (C:ae)(n:Nat)(v0 v1 v2 v3 v4 v5 aY fH aT bq kL dt bZ kW vk bV cD dZ kF:Value)(H:aa):Hp C n [v0,v1,v2,v3,v4,v5,aY,fH,aT,bq,kL,dt,bZ,kW,vk,bV,cD,dZ,kF] H=F8 C n v0 v1 v2 v3 v4 v5 aY fH aT bq kL dt bZ kW vk bV cD dZ kF H:=by
 kernel_rfl
def F4 (C:ae)(n:Nat)(a0 a1 a2 a3 a4 a5:Value)(H:aa):VH:= mv (Value.bool false) H λx0 H=>mv a0 H λx1 H=>mv a1 H λx2 H=>mv a2 H λx3 H=>af (C 12 [x1,x2,x3] H) λx4 H=>mv x4 H λx5 H=>mv a4 H λF9 H=>aX F9 (mv x5 H λGb H=>mv a3 H λnf H=>mv a3 H λNy H=>af (pS (ai Tryz.prog .rem 3 Ny (cv 2)) H) λNz H=>af (pS (ai Tryz.prog .eql 3 Nz (cv 0)) H) λNA H=>af (C 13 [Gb,nf,NA] H) λJN H=>Hp C n [a0,a1,a2,a3,a4,a5,x0,F9,x5,undef,undef,undef,undef,undef,undef,undef,undef,undef,undef] H) (Hp C n [a0,a1,a2,a3,a4,a5,x0,F9,x5,undef,undef,undef,undef,undef,undef,undef,undef,undef,undef] H)
theorem aau (G:ae)(n:Nat)(a0 a1 a2 a3 a4 a5:Value)(H:aa):run G (n+1) 4 [a0,a1,a2,a3,a4,a5] H=F4 (run G n) n a0 a1 a2 a3 a4 a5 H:=by
 unfold run;rw[ao (fn:=Tryz.f4) (keep:=[0,1,2,3,4,5,12,24,13,14,52,17,16,61,75,15,18,19,109]) (av 4 rfl) (by kernel_rfl) (by kernel_rfl)]
 kernel_rfl
end Go.Proofs.YtgfgglponbmgmaaGreat.Fun
end
