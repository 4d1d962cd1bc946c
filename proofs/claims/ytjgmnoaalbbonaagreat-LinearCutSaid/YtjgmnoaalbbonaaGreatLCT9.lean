/- Texts of the proof of linearCut_holds, put together by a small program of ours (names shortened, spaces taken out). No condition beyond the given statement. -/
import Derived.Test.YtjgmnoaalbbonaaGreatLCT8
set_option linter.unusedVariables false
set_option linter.unusedSimpArgs false
set_option linter.unnecessarySimpa false
noncomputable section
section
namespace Go.Proofs.YtjgmnoaalbbonaaGreatA.Am
variable {α:Type}
def af (x:Option (Value×aa))(k:Value→aa→Option α):Option α:=
 match x with
 |some (v,H)=>k v H
 |none=>none
@[simp] theorem dH (v:Value)(H:aa)(k:Value→aa→Option α):af (some (v,H)) k=k v H:=rfl
@[simp] theorem Z7 (k:Value→aa→Option α):af none k=none:=rfl
def pS (x:Option Value)(H:aa):Option (Value×aa):=x.map (·,H)
@[simp] theorem l6 (v:Value)(H:aa):pS (some v) H=some (v,H):=rfl
@[simp] theorem abY (H:aa):pS none H=none:=rfl
abbrev cv (x:Int):Value:=.int .i64 x
abbrev mv (x:Value)(H:aa)(k:Value→aa→Option α):Option α:=af (some (x,H)) k
abbrev VH:Type:=Option (Value×aa)
def gd (w:Option Bool)(x:Option (Value×aa))(H:aa):Option (Value×aa):=
 match w with
 |some true=>x
 |some false=>some (undef,H)
 |none=>none
@[simp] theorem vN (x:Option (Value×aa))(H:aa):gd (some true) x H=x:=rfl
@[simp] theorem sL (x:Option (Value×aa))(H:aa):gd (some false) x H=some (undef,H):=rfl
def ag (v:Value)(want:Bool):Option Bool:=
 match v with
 | .bool b=>some (b==want)
 | .tuple vs=>if vs.isEmpty then some false else none
 |_=>none
@[simp] theorem UN (b want:Bool):ag (.bool b) want=some (b==want):=rfl
@[simp] theorem Tv (want:Bool):ag undef want=some false:=rfl
def aR (v:Value)(x y:Option α):Option α:=
 match v with
 | .bool true=>x
 | .bool false=>y
 |_=>none
@[simp] theorem Z8 (x y:Option α):aR (.bool true) x y=x:=rfl
@[simp] theorem Zb (x y:Option α):aR (.bool false) x y=y:=rfl
def Gm (P:Program)(C:ae)(ops:Array Oper):List Oper→Env→aa→(Env→aa→Option α)→Option α
 | [],E,H,k=>k E H
 |o::r,E,H,k=>af (match o.guard with
   |none=>gV P C E H o
   |some _=>gd (ee ops o E) (gV P C E H o) H) λv H'=>Gm P C ops r (E.put o.dst v) H' k
theorem HI (P:Program)(C:ae)(ops:Array Oper)(l:List Oper)(E:Env)(H:aa)(k:Env→aa→Option α):
  Gm P C ops l E H k=match fg P C ops l E H with|some (E',H')=>k E' H'|none=>none:=by
 induction l generalizing E H with
 |nil=>rfl
 |cons o r ih=>
  rw[Gm,fg];cases hg:o.guard with
  |none=>
   have:ee ops o E=some true:=by simp only[ee,hg]
   rw[this];cases gV P C E H o with
   |none=>rfl
   |some p=>obtain⟨v,H'⟩:=p;simp only[dH];exact ih _ _
  |some g=>
   simp only;cases ee ops o E with
   |none=>rfl
   |some b=>
    cases b with
    |true=>
     simp only[vN];cases gV P C E H o with
     |none=>rfl
     |some p=>obtain⟨v,H'⟩:=p;simp only[dH];exact ih _ _
    |false=>simp only[sL,dH];exact ih _ _
def Bj (P:Program)(C:ae)(ops:Array Oper):List Oper→Env→aa→List (Env×aa)→(Env→aa→List (Env×aa)→Option α)→Option α
 | [],E,H,T,k=>k E H (T++[(E,H)])
 |o::r,E,H,T,k=>af (match o.guard with
   |none=>gV P C E H o
   |some _=>gd (ee ops o E) (gV P C E H o) H) λv H'=>Bj P C ops r (E.put o.dst v) H' (T++[(E,H)]) k
theorem Nb (P:Program)(C:ae)(ops:Array Oper)(l:List Oper)(E:Env)(H:aa)(T:List (Env×aa))(k:Env→aa→List (Env×aa)→Option α):
  Bj P C ops l E H T k=match fg P C ops l E H with|some (E',H')=>k E' H' (T++trace P C ops l E H)|none=>none:=by
 induction l generalizing E H T with
 |nil=>rfl
 |cons o r ih=>
  rw[Bj,fg,trace];cases hg:o.guard with
  |none=>
   have:ee ops o E=some true:=by simp only[ee,hg]
   rw[this];cases gV P C E H o with
   |none=>rfl
   |some p=>obtain⟨v,H'⟩:=p;simp only[dH,ih,List.append_assoc,List.singleton_append]
  |some g=>
   simp only;cases ee ops o E with
   |none=>rfl
   |some b=>
    cases b with
    |true=>
     simp only[vN];cases gV P C E H o with
     |none=>rfl
     |some p=>obtain⟨v,H'⟩:=p;simp only[dH,ih,List.append_assoc,List.singleton_append]
    |false=>simp only[sL,dH,ih,List.append_assoc,List.singleton_append]
def Bk (P:Program)(C:ae)(F:List Nat)(base:Nat)(ops:Array Oper):List Oper→Nat→Env→aa→(Env→aa→Option α)→Option α
 | [],_,E,H,k=>k E H
 |o::r,j,E,H,k=>af (match o.guard with
   |none=>dV P C F base j E H o
   |some _=>gd (ee ops o E) (dV P C F base j E H o) H) λv H'=>Bk P C F base ops r (j+1) (E.put o.dst v) H' k
def uh (P:Program)(C:ae)(F:List Nat)(base:Nat)(ops:Array Oper):List Oper→Nat→Env→aa→List (Env×aa)→(Env→aa→List (Env×aa)→Option α)→Option α
 | [],_,E,H,T,k=>k E H (T++[(E,H)])
 |o::r,j,E,H,T,k=>af (match o.guard with
   |none=>dV P C F base j E H o
   |some _=>gd (ee ops o E) (dV P C F base j E H o) H) λv H'=>uh P C F base ops r (j+1) (E.put o.dst v) H' (T++[(E,H)]) k
theorem Nc (P:Program)(C:ae)(F:List Nat)(base:Nat)(ops:Array Oper)(l:List Oper)(j:Nat)(E:Env)(H:aa)(k:Env→aa→Option α):
  Bk P C F base ops l j E H k=match dI P C F base ops l j E H with|some (E',H')=>k E' H'|none=>none:=by
 induction l generalizing j E H with
 |nil=>rfl
 |cons o r ih=>
  rw[Bk,dI];cases hg:o.guard with
  |none=>
   have:ee ops o E=some true:=by simp only[ee,hg]
   rw[this];cases dV P C F base j E H o with
   |none=>rfl
   |some p=>obtain⟨v,H'⟩:=p;simp only[dH];exact ih _ _ _
  |some g=>
   simp only;cases ee ops o E with
   |none=>rfl
   |some b=>
    cases b with
    |true=>
     simp only[vN];cases dV P C F base j E H o with
     |none=>rfl
     |some p=>obtain⟨v,H'⟩:=p;simp only[dH];exact ih _ _ _
    |false=>simp only[sL,dH];exact ih _ _ _
theorem Jq (P:Program)(C:ae)(F:List Nat)(base:Nat)(ops:Array Oper)(l:List Oper)(j:Nat)(E:Env)(H:aa)(T:List (Env×aa))(k:Env→aa→List (Env×aa)→Option α):
  uh P C F base ops l j E H T k=match dI P C F base ops l j E H with|some (E',H')=>k E' H' (T++eW P C F base ops l j E H)|none=>none:=by
 induction l generalizing j E H T with
 |nil=>rfl
 |cons o r ih=>
  rw[uh,dI,eW];cases hg:o.guard with
  |none=>
   have:ee ops o E=some true:=by simp only[ee,hg]
   rw[this];cases dV P C F base j E H o with
   |none=>rfl
   |some p=>obtain⟨v,H'⟩:=p;simp only[dH,ih,List.append_assoc,List.singleton_append]
  |some g=>
   simp only;cases ee ops o E with
   |none=>rfl
   |some b=>
    cases b with
    |true=>
     simp only[vN];cases dV P C F base j E H o with
     |none=>rfl
     |some p=>obtain⟨v,H'⟩:=p;simp only[dH,ih,List.append_assoc,List.singleton_append]
    |false=>simp only[sL,dH,ih,List.append_assoc,List.singleton_append]
def pB (n:Nat)(H:aa)(k:Nat→aa→Option α):Option α:=k H.length (H.dr n)
def sM (P:Program)(C:ae)(ops:Array Oper)(draw:Bool)(E:Env)(H:aa)(k:Env→aa→Option α):Option α:=
 if draw then
  match lS P ops with
  | []=>match mK P ops with
   | []=>Gm P C ops ops.toList E H k
   |cs=>Bj P C ops ops.toList E H [] λE' H' T=>if cs.all (je P ops T) then k E' H' else none
  |F=>pB F.length H λbase H=>match mK P ops with
   | []=>Bk P C F base ops ops.toList 0 E H k
   |cs=>uh P C F base ops ops.toList 0 E H [] λE' H' T=>if cs.all (je P ops T) then k E' H' else none
 else Gm P C ops ops.toList E H k
theorem Gn (P:Program)(C:ae)(ops:Array Oper)(draw:Bool)(E:Env)(H:aa)(k:Env→aa→Option α):
  sM P C ops draw E H k=match fF P C ops draw E H with|some (E',H')=>k E' H'|none=>none:=by
 unfold sM fF;cases draw with
 |false=>simp only[Bool.false_eq_true,if_false];exact HI ..
 |true=>
  simp only[if_true];cases lS P ops with
  |nil=>
   simp only;cases mK P ops with
   |nil=>exact HI ..
   |cons c cs=>
    simp only[Nb,List.nil_append];cases fg P C ops ops.toList E H with
    |none=>by_cases hb:(c::cs).all (je P ops (trace P C ops ops.toList E H))=true<;>simp only[hb,if_true,if_false,Bool.false_eq_true]
    |some q=>
     obtain⟨E',H'⟩:=q;by_cases hb:(c::cs).all (je P ops (trace P C ops ops.toList E H))=true<;>simp only[hb,if_true,if_false,Bool.false_eq_true]
  |cons f F=>
   simp only[pB];cases mK P ops with
   |nil=>exact Nc ..
   |cons c cs=>
    simp only[Jq,List.nil_append];cases dI P C (f::F) H.length ops ops.toList 0 E (H.dr (f::F).length) with
    |none=>by_cases hb:(c::cs).all (je P ops (eW P C (f::F) H.length ops ops.toList 0 E (H.dr (f::F).length)))=true<;>simp only[hb,if_true,if_false,Bool.false_eq_true]
    |some q=>
     obtain⟨E',H'⟩:=q;by_cases hb:(c::cs).all (je P ops (eW P C (f::F) H.length ops ops.toList 0 E (H.dr (f::F).length)))=true<;>simp only[hb,if_true,if_false,Bool.false_eq_true]
def kD (wx wy:Option Bool)(u u1 u2:Option (Value×aa)):Bool:=
 match wx,wy with
 |some true,some true=>match u,u1,u2 with
  |some (u,_),some (u1,_),some (u2,_)=>jE u u1&&jE u u2
  |_,_,_=>false
 |some _,some _=>true
 |_,_=>false
@[simp] theorem Z9 (u u1 u2:Value)(H H1 H2:aa):kD (some true) (some true) (some (u,H)) (some (u1,H1)) (some (u2,H2))=(jE u u1&&jE u u2):=rfl
@[simp] theorem ab8 (w:Bool)(u u1 u2:Option (Value×aa)):kD (some false) (some w) u u1 u2=true:=by cases w<;>rfl
@[simp] theorem ab9 (w:Bool)(u u1 u2:Option (Value×aa)):kD (some w) (some false) u u1 u2=true:=by cases w<;>rfl
@[simp] theorem HJ (k:IntKind)(a:Int):jE (.int k a) (.int k a)=true:=by simp[jE,pa]
@[simp] theorem aaa (a:Bool):jE (.bool a) (.bool a)=true:=by simp[jE,pa]
@[simp] theorem pC (a:Option Addr):jE (.pointer a) (.pointer a)=true:=by simp[jE,pa]
@[simp] theorem jm (a:Option Addr)(n c:Nat):jE (.slice a n c) (.slice a n c)=true:=by simp[jE,pa]
def fin:bJ→List Value→aa→aV:=λe vs H=>some (e,vs,H)
def cN (x:aV)(k:bJ→List Value→aa→Option α):Option α:=
 match x with
 |some (e,vs,H)=>k e vs H
 |none=>none
@[simp] theorem iu (e:bJ)(vs:List Value)(H:aa)(k:bJ→List Value→aa→Option α):cN (some (e,vs,H)) k=k e vs H:=rfl
def up {β:Type}(x:β):β:=(λ(_:Option Nat)=>x) (af (α:=Nat) none λ_ _=>none)
def dT (kb:List Value→aa→Option α)(k:bJ→List Value→aa→Option α):bJ→List Value→aa→Option α:=
 λe vs H=>up (match e with
  | .normal=>kb vs H
  |e=>k e vs H)
def dK (id:Nat)(k:bJ→List Value→aa→Option α):bJ→List Value→aa→Option α:=
 λe vs H=>up (match e with
  | .exit i=>if i=id then k .normal vs H else k (.exit i) vs H
  |e=>k e vs H)
@[simp] theorem Er (kb:List Value→aa→Option α)(k:bJ→List Value→aa→Option α)(vs:List Value)(H:aa):dT kb k .normal vs H=kb vs H:=rfl
@[simp] theorem Zc (kb:List Value→aa→Option α)(k:bJ→List Value→aa→Option α)(i:Nat)(vs:List Value)(H:aa):dT kb k (.exit i) vs H=k (.exit i) vs H:=rfl
@[simp] theorem aab (kb:List Value→aa→Option α)(k:bJ→List Value→aa→Option α)(vs:List Value)(H:aa):dT kb k .ret vs H=k .ret vs H:=rfl
@[simp] theorem Tw (id:Nat)(k:bJ→List Value→aa→Option α)(vs:List Value)(H:aa):dK id k .normal vs H=k .normal vs H:=rfl
@[simp] theorem aac (id:Nat)(k:bJ→List Value→aa→Option α)(vs:List Value)(H:aa):dK id k .ret vs H=k .ret vs H:=rfl
@[simp] theorem Jr (id i:Nat)(k:bJ→List Value→aa→Option α)(vs:List Value)(H:aa):dK id k (.exit i) vs H=if i=id then k .normal vs H else k (.exit i) vs H:=rfl
def Cg (N:Nat)(C:ae)(g:Value)(L:mI)(H:aa):Option (oX×aa):=
 match g with
 | .func (.func gf) first captured=>
  if gf<N then
   match C gf (first.toList++[.func (.yield H.length) #[] #[]]++captured.toList) (H.gj (.loop L .ready)) with
   |some (_,H')=>match H'.cT H.length with
    |some (.loop _ s)=>some (s,H'.kill H.length)
    |_=>none
   |none=>none
  else none
 |_=>none
def Bl (x:Option (oX×aa))(k:bJ→aa→Option α):Option α:=
 match x with
 |some (.ready,H)=>k .normal H
 |some (.ret,H)=>k .ret H
 |some (.exit id,H)=>k (.exit id) H
 |_=>none
@[simp] theorem Tx (H:aa)(k:bJ→aa→Option α):Bl (some (.ready,H)) k=k .normal H:=rfl
@[simp] theorem Zd (H:aa)(k:bJ→aa→Option α):Bl (some (.ret,H)) k=k .ret H:=rfl
@[simp] theorem UO (id:Nat)(H:aa)(k:bJ→aa→Option α):Bl (some (.exit id,H)) k=k (.exit id) H:=rfl
theorem HK {N gf:Nat}{C:ae}{first captured:Array Value}{L L':mI}{H H':aa}{v:Value}{s:oX}(h1:gf<N)(h2:C gf (first.toList++[.func (.yield H.length) #[] #[]]++captured.toList) (H.gj (.loop L .ready))=some (v,H'))(h3:H'.cT H.length=some (.loop L' s)):
  Cg N C (.func (.func gf) first captured) L H=some (s,H'.kill H.length):=by
 simp only[Cg,h1,if_true,h2,h3]
def nm (P:Program)(C:ae)(keep:List Nat)(n:Nat):{α:Type}→Code→List Value→aa→(bJ→List Value→aa→Option α)→Option α
 |_,.skip,vs,H,k=>k .normal vs H
 |_,.label _,vs,H,k=>k .normal vs H
 |_,.region _ ops draw,vs,H,k=>sM P C ops draw (keep.zip vs) H λE H'=>k .normal (keep.map E.get) H'
 |_,.seq a b,vs,H,k=>nm P C keep n a vs H (dT (λiM H'=>nm P C keep n b iM H' k) k)
 |_,.cond c a b,vs,H,k=>aR (fa (keep.zip vs) c) (nm P C keep n a vs H k) (nm P C keep n b vs H k)
 |_,.block id c,vs,H,k=>nm P C keep n c vs H (dK id k)
 |_,.loop c,vs,H,k=>cN (iter n (λvs H=>nm P C keep n c vs H fin) vs H) k
 |_,.exit id,vs,H,k=>k (.exit id) vs H
 |_,.scope c,vs,H,k=>nm P C keep n c vs H k
 |_,.ret,vs,H,k=>k .ret vs H
 |_,.goto _,_,_,_=>none
 |_,.rangeFunc g ps x y,vs,H,k=>Bl (Cg P.funcs.size C (fa (keep.zip vs) g) ⟨keep,vs,ps,x,y⟩ H) λe H'=>k e vs H'
 |_,.refuse _,_,_,_=>none
theorem Gp {n:Nat}{f g:List Value→aa→aV}(h: ∀vs H,f vs H=g vs H):iter n f=iter n g:=by
 have:f=g:=funext λvs=>funext λH=>h vs H
 rw[this]
theorem Gq (P:Program)(C:ae)(keep:List Nat)(n:Nat)(c:Code): ∀{α:Type} (vs:List Value) (H:aa) (k:bJ→List Value→aa→Option α),
  nm P C keep n c vs H k=cN (ev P C keep n c vs H) k:=by
 induction c with
 |skip=>intros;simp only[nm,ev,iu]
 |label _=>intros;simp only[nm,ev,iu]
 |region p ops draw=>
  intro α vs H k;simp only[nm,ev,Gn];cases fF P C ops draw (keep.zip vs) H with
  |none=>rfl
  |some p=>rfl
 |seq a b Js Jt=>
  intro α vs H k;simp only[nm,ev];rw[Js];cases ev P C keep n a vs H with
  |none=>rfl
  |some p=>
   obtain⟨e,iM,H'⟩:=p;cases e with
   |normal=>simp only[iu,Er];exact Jt _ _ _
   |_=>rfl
 |cond c a b Js Jt=>
  intro α vs H k;simp only[nm,ev,Js,Jt];generalize fa (keep.zip vs) c=v
  cases v with
  |bool t=>cases t<;>rfl
  |_=>rfl
 |block id c ih=>
  intro α vs H k;simp only[nm,ev];rw[ih];cases ev P C keep n c vs H with
  |none=>rfl
  |some p=>
   obtain⟨e,iM,H'⟩:=p;cases e with
   |exit i=>
    simp only[iu,Jr];split<;>rfl
   |_=>rfl
 |loop c ih=>
  intro α vs H k;simp only[nm,ev];rw[Gp (g:=ev P C keep n c)];intro vs H;rw[ih];cases ev P C keep n c vs H with
  |none=>rfl
  |some p=>rfl
 |exit _=>intros;simp only[nm,ev,iu]
 |scope c ih=>intro α vs H k;simp only[nm,ev,ih]
 |ret=>intros;simp only[nm,ev,iu]
 |goto _=>intros;rfl
 |rangeFunc g ps x y _ _=>
  intro α vs H k;simp only[nm,ev,Cg];generalize fa (keep.zip vs) g=v
  cases v with
  |func fn first captured=>
   cases fn with
   |func gf=>
    by_cases eR:gf<P.funcs.size
    ·simp only[eR,if_true];cases C gf (first.toList++[.func (.yield H.length) #[] #[]]++captured.toList) (H.gj (.loop ⟨keep,vs,ps,x,y⟩ .ready)) with
     |none=>rfl
     |some q=>
      obtain⟨u,H'⟩:=q;simp only;cases H'.cT H.length with
      |none=>rfl
      |some o=>
       cases o with
       |jC _ _=>rfl
       |loop L s=>cases s<;>rfl
    ·simp only[eR,if_false];rfl
   |_=>rfl
  |_=>rfl
 |refuse _=>intros;rfl
def vi (P:Program)(E:Env)(H:aa):List ResultVar→(List Value→Option (Value×aa))→Option (Value×aa)
 | [],k=>k []
 | .tmp t::r,k=>vi P E H r λvs=>k (E.get t::vs)
 | .cell a t::r,k=>af (pS (ju P t (E.get a) H) H) λv _=>vi P E H r λvs=>k (v::vs)
def Gr (H:aa):List Value→Option (Value×aa)
 | [v]=>some (v,H)
 |vs=>some (.tuple vs.toArray,H)
def vj (P:Program)(rs:List ResultVar)(E:Env)(H:aa):Option (Value×aa):=vi P E H rs (Gr H)
theorem Ch (P:Program)(E:Env)(H:aa): ∀(rs:List ResultVar) (k:List Value→Option (Value×aa)),vi P E H rs k=(rs.mapM λ(r:ResultVar)=>match r with
  | .tmp t=>some (E.get t)
  | .cell a t=>ju P t (E.get a) H).bind k
 | [],k=>rfl
 | .tmp t::r,k=>by
  rw[vi,Ch P E H r,List.mapM_cons];simp only[Option.bind_eq_bind,Option.bind_some,Option.bind_assoc,Option.pure_def]
 | .cell a t::r,k=>by
  rw[vi,List.mapM_cons];simp only[Option.bind_eq_bind,Option.bind_assoc,Option.pure_def,Option.bind_some];cases ju P t (E.get a) H with
  |none=>rfl
  |some v=>simp only[l6,dH,Option.bind_some];exact Ch P E H r _
theorem QA (P:Program)(fn:Func)(E:Env)(H:aa):vj P fn.results.toList E H=(BL P fn E H).map (·,H):=by
 unfold vj BL;rw[Ch];generalize (fn.results.toList.mapM λ(r:ResultVar)=>match r with
  | .tmp t=>some (E.get t)
  | .cell a t=>ju P t (E.get a) H)=x
 cases x with
 |none=>rfl
 |some vs=>
  match vs with
  | []=>rfl
  | [v]=>rfl
  |_::_::_=>rfl
def eG (P:Program)(rs:List ResultVar)(keep:List Nat):bJ→List Value→aa→Option (Value×aa):=
 λe vs H=>match e with
  | .normal| .ret=>vj P rs (keep.zip vs) H
  | .exit _=>none
@[simp] theorem Ty (P:Program)(rs:List ResultVar)(keep:List Nat)(vs:List Value)(H:aa):eG P rs keep .normal vs H=vj P rs (keep.zip vs) H:=rfl
@[simp] theorem aad (P:Program)(rs:List ResultVar)(keep:List Nat)(vs:List Value)(H:aa):eG P rs keep .ret vs H=vj P rs (keep.zip vs) H:=rfl
def HL (P:Program)(C:ae)(n:Nat)(fn:Func)(keep:List Nat)(args:List Value)(H:aa):Option (Value×aa):=
 match fn.body with
 |some c=>nm P C keep n c (keep.map λt=>args.getD t undef) H (eG P fn.results.toList keep)
 |none=>none
theorem ao {P:Program}{bad:List FuncId}{G:ae}{n:Nat}{f:FuncId}{fn:Func}(hb:bad.contains f=false)(hf:P.funcs[f]? =some fn){keep:List Nat}(hk:ns fn=keep)(args:List Value)(H:aa):
  fh P bad G (n+1) f args H=HL P (fh P bad G n) n fn keep args H:=by
 subst hk;unfold HL
 conv=>lhs;unfold fh
 rw[hb,hf];simp only[Bool.false_eq_true,if_false];cases fn.body with
 |none=>rfl
 |some c=>
  simp only;rw[Gq];generalize ev P (fh P bad G n) (ns fn) n c ((ns fn).map λt=>args.getD t undef) H=x
  cases x with
  |none=>rfl
  |some p=>
   obtain⟨e,vs,H'⟩:=p;cases e<;>simp only[iu,QA,eG]
def Ju (i:Nat)(H:aa)(k:aa→Option α):Option α:=
 match H.cT i with
 |some (.loop L .ready)=>k (H.eQ i (.loop L .busy))
 |_=>none
theorem QB {i:Nat}{H:aa}{L:mI}(h:H.cT i=some (.loop L .ready))(k:aa→Option α):Ju i H k=k (H.eQ i (.loop L .busy)):=by
 unfold Ju;rw[h]
theorem QC {i:Nat}{e:bJ}{H:aa}{L:mI}(h:H.cT i=some (.loop L .busy)):BK i e H=some (.bool e.on,H.eQ i (.loop L (.of e))):=by
 unfold BK;rw[h]
def HM (P:Program)(C:ae)(n i:Nat)(L:mI)(args:List Value)(H:aa):Option (Value×aa):=
 nm P C L.keep n L.assign (L.keep.map (AU (L.keep.zip L.vs) (L.ps.toList.zip args)).get) H λe vs H1=>match e with
  | .normal=>Ju i H1 λH2=>nm P C L.keep n L.body vs H2 λe _ H3=>BK i e H3
  |_=>none
theorem QD {P:Program}{bad:List FuncId}{G:ae}{n i:Nat}{L:mI}{args:List Value}{H:aa}(hb:(bad.all λf=>decide (f<P.funcs.size))=true)(h:H.cT i=some (.loop L .ready))(hl:args.length=L.ps.size):fh P bad G (n+1) (P.funcs.size+i) args H=HM P (fh P bad G n) n i L args H:=by
 have z7:bad.contains (P.funcs.size+i)=false:=by
  cases hc:bad.contains (P.funcs.size+i) with
  |false=>rfl
  |true=>
   have:=List.all_eq_true.1 hb (P.funcs.size+i) (by simpa using hc)
   exact absurd (of_decide_eq_true this) (Nat.not_lt.2 (Nat.le_add_right _ _))
 have hf:P.funcs[P.funcs.size+i]? =none:=by simp
 conv=>lhs;unfold fh
 rw[z7,hf];simp only[Bool.false_eq_true,if_false,show P.funcs.size+i-P.funcs.size=i by omega]
 unfold pb HM;rw[h];simp only[hl,if_true,Gq];cases ev P (fh P bad G n) L.keep n L.assign (L.keep.map (AU (L.keep.zip L.vs) (L.ps.toList.zip args)).get) H with
 |none=>rfl
 |some q=>
  obtain⟨e,vs,H1⟩:=q;cases e with
  |ret=>rfl
  |exit id=>rfl
  |normal=>
   simp only[iu,Ju];generalize H1.cT i=o
   cases o with
   |none=>rfl
   |some o=>
    cases o with
    |jC _ _=>rfl
    |loop L1 s=>
     cases s with
     |ready=>
      simp only;cases ev P (fh P bad G n) L.keep n L.body vs (H1.eQ i (.loop L1 .busy)) with
      |none=>rfl
      |some q2=>rfl
     |_=>rfl
def Bm:Code→List (Array Tmp×Code×Code)
 | .rangeFunc _ ps a b=>(ps,a,b)::Bm a++Bm b
 | .seq a b| .cond _ a b=>Bm a++Bm b
 | .block _ c| .loop c| .scope c=>Bm c
 |_=>[]
def UP (P:Program)(f k:Nat):Array Tmp×Code×Code:=
 match P.funcs[f]? with
 |some fn=>match fn.body with
  |some c=>(Bm c).getD k (#[],.skip,.skip)
  |none=>(#[],.skip,.skip)
 |none=>(#[],.skip,.skip)
def iS (P:Program)(f:Nat):Code:=match P.funcs[f]? with
 |some fn=>match fn.body with
  |some c=>c
  |none=>.skip
 |none=>.skip
def nH:List Nat→Code→Code
 |0::p,.seq a _|0::p,.cond _ a _=>nH p a
 |_::p,.seq _ b|_::p,.cond _ _ b=>nH p b
 |_::p,.block _ c|_::p,.loop c|_::p,.scope c=>nH p c
 |_,c=>c
theorem p9 (P:Program)(C:ae)(keep:List Nat)(n:Nat)(c:Code)(vs:List Value)(H:aa):ev P C keep n c vs H=nm P C keep n c vs H fin:=by
 rw[Gq];cases ev P C keep n c vs H with
 |none=>rfl
 |some p=>rfl
def aI (c a b:Value)(H:aa):Option (Value×aa):=
 match c with
 | .bool t=>some (if t then a else b,H)
 |_=>none
def aq (p:Value)(H:aa):Option Value:=
 match p with
 | .pointer (some ⟨i,off,none⟩)=>match H.get i with
  |some b=>b.cells[off]?
  |none=>none
 |_=>none
def cK (n:Nat)(p:Value)(H:aa):Option Value:=
 match p with
 | .pointer (some ⟨i,off,none⟩)=>match aw H i off n with
  |some vs=>some (.agg vs.toArray)
  |none=>none
 |_=>none
def bS (n:Nat)(p v:Value)(H:aa):Option (Value×aa):=
 (match p with
 | .pointer (some ⟨i,off,none⟩)=>if v.cells.size=n∧known v=true then bl H i off v.cells.toList else none
 |_=>none:Option aa).map (undef,·)
def aA (x:Value)(H:aa):Option (Value×aa):=
 match x with
 | .pointer (some a)=>some (.pointer (some a),H)
 | .func (.func g) f c=>some (.func (.func g) f c,H)
 |_=>none
def al (off:Nat)(x:Value)(H:aa):Option (Value×aa):=
 match x with
 | .pointer (some ⟨i,o,none⟩)=>some (.pointer (some ⟨i,o+off,none⟩),H)
 |_=>none
def cq (es:Nat)(x i:Value)(H:aa):Option (Value×aa):=
 match x,i with
 | .slice (some ⟨b,off,none⟩) len _,.int _ n=>if 0≤n∧n<len then some (.pointer (some ⟨b,off+n.toNat*es,none⟩),H) else none
 |_,_=>none
def cw (x:Value):Option Value:=
 match x with
 | .slice _ n _=>some (.int .i64 n)
 |_=>none
def eo (es:Nat)(H:aa)(x:Value)(lo hi:Option Value):Option Value:=
 match x with
 | .slice a len cap=>
   match cV len hi,cV 0 lo with
   |some h,some l=>if 0≤h∧h≤cap∧0≤l∧l≤h then
     match a with
     |none=>some (.slice none 0 0)
     |some ⟨i,off,none⟩=>match H.get i with
      |some b=>if b.es=es then some (.slice (some ⟨i,off+l.toNat*es,none⟩) (h.toNat-l.toNat) (cap-l.toNat)) else if cap=0 then some (.slice (some ⟨i,off,none⟩) 0 0) else none
      |none=>if cap=0 then some (.slice (some ⟨i,off,none⟩) 0 0) else none
     |_=>none
    else none
   |_,_=>none
 |_=>none
def Tz (es:Nat)(H:aa)(x:Value)(lo hi:Option Value)(mx:Value):Option Value:=
 match x,hi,mx with
 | .slice a _ cap,some _,.int _ m=>if 0≤m∧m≤cap then eo es H (.slice a 0 m.toNat) lo hi else none
 |_,_,_=>none
def Et (i:Nat)(x:Option ((Nat→Value)×eu))(H:aa):Option (Value×aa):=
 match H[i]? with
 |some .hole=>match x with
  |some (mk,b)=>some (mk i,H.set i (.jD b))
  |none=>none
 |_=>none
theorem Ci {i:Nat}{mk:Nat→Value}{b:eu}{H:aa}(h:H[i]? =some .hole):Et i (some (mk,b)) H=some (mk i,H.set i (.jD b)):=by
 unfold Et;rw[h]
def bsB (P:Program)(t:TypeId)(n:Nat)(ps:List (Nat×Value)):Option ((Nat→Value)×eu):=
 match au P t n ps [] with
 |some (_,[.jD b])=>some (λi=>.slice (some ⟨i,0,none⟩) n n,b)
 |_=>none
def UQ (z:List Value)(x:Value)(H:aa):Option (Value×aa):=
 match x with
 | .slice base n _=>
  match base with
  |none=>some (undef,H)
  |some ⟨i,off,none⟩=>if n=0 then some (undef,H) else(bl H i off (bR z n)).map λH'=>(undef,H')
  |_=>none
 |_=>none
def bP (i:Nat)(x:Value)(H:aa):Option (Value×aa):=
 match x with
 | .tuple vs=>(vs[i]?).map (·,H)
 |_=>none
def qS (k:IntKind)(x:Value)(H:aa):Option (Value×aa):=
 match x with
 | .int _ n=>some (.int k (k.wrap n),H)
 |_=>none
def cO (t:TypeId)(x:Value)(H:aa):Option (Value×aa):=
 if x.cells.toList.all av then some (aO H t 1 x.cells.toList) else none
def cg (elem:TypeId)(size bytes:Nat)(s x:Value)(H:aa):Option (Value×aa):=
 match s with
 | .slice base sLen sCap=>
    match (match x with
     | .slice _ n _=>(bq H size n x).map λcs=>(n,cs)
     |_=>none:Option (Nat×List Value)) with
    |some (n,new)=>
     let need:=sLen+n
     if need≤sCap then
      match base with
      |none=>some (.slice none need sCap,H)
      |some ⟨i,off,none⟩=>if n=0 then some (.slice base need sCap,H) else
       match H.get i with
       |some b=>if b.es=size then(bl H i (off+sLen*size) new).map λH'=>(.slice base need sCap,H') else none
       |none=>none
      |_=>none
     else if need≤4294967296&&bytes≤4096&&size≠0 then
      match base with
      |none=>if sLen=0 then some (.slice (some ⟨H.length,0,none⟩) need need,H.new ⟨new,elem,size,false⟩) else none
      |some ⟨i,off,none⟩=>
       match H.get i with
       |some b=>
        if !b.ro&&b.es==size&&off+sCap*size==b.cells.length then
         match aw H i off (sLen*size) with
         |some old=>some (.slice (some ⟨H.length,0,none⟩) need need,(H.kill i).new ⟨old++new,elem,size,false⟩)
         |none=>none
        else none
       |none=>none
      |_=>none
     else none
    |none=>none
 |_=>none
def UR (elem:TypeId)(size bytes:Nat)(z:List Value)(len cap:Value)(H:aa):Option (Value×aa):=
 match len,cap with
 | .int _ l,.int _ c=>
   if 0≤l∧l≤c∧c≤4294967296∧bytes≤4096∧size≠0 then
    some (.slice (some ⟨H.length,0,none⟩) l.toNat c.toNat,H.new ⟨bR z c.toNat,elem,size,false⟩)
   else none
 |_,_=>none
def msB (elem:TypeId)(size bytes:Nat)(z:List Value)(len cap:Value):Option ((Nat→Value)×eu):=
 match UR elem size bytes z len cap [] with
 |some (.slice _ n m,[.jD b])=>some (λi=>.slice (some ⟨i,0,none⟩) n m,b)
 |_=>none
def aae (x y:Value)(H:aa):Option (Value×aa):=
 match x,y with
 | .int k a,.int k' b=>if k=k' then some (.int k (if b<a then b else a),H) else none
 |_,_=>none
def Nd (x y:Value)(H:aa):Option (Value×aa):=
 match x,y with
 | .int k a,.int k' b=>if k=k' then some (.int k (if b>a then b else a),H) else none
 |_,_=>none
def Al (N:Nat)(C:ae)(f:Value)(args:List Value)(H:aa):Option (Value×aa):=
 match f with
 | .func (.func g) first captured=>if g<N then C g (first.toList++args++captured.toList) H else none
 | .func (.yield i) _ _=>C (N+i) args H
 |_=>none
abbrev sl (keep:List Nat)(vs:List Value)(t:Nat):Value:=Env.get (keep.zip vs) t
end Go.Proofs.YtjgmnoaalbbonaaGreatA.Am
end
