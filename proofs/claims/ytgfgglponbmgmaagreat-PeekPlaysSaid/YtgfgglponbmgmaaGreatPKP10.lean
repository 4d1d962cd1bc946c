/- Texts of the proof of peekPlays_holds, put together by a small program of ours (names shortened, spaces taken out). No condition beyond the given statement. -/
import Derived.Test.YtgfgglponbmgmaaGreatPKP9
set_option linter.unusedVariables false
set_option linter.unusedSimpArgs false
set_option linter.unnecessarySimpa false
noncomputable section
section
namespace Go.Proofs.YtgfgglponbmgmaaGreatA.Am
abbrev AQ {α:Type}(kb:List Value→aa→Option α)(k:bD→List Value→aa→Option α):bD→List Value→aa→Option α:=
 λe vs H=>match e with
  | .normal=>kb vs H
  |e=>k e vs H
abbrev Hq {α:Type}(id:Nat)(k:bD→List Value→aa→Option α):bD→List Value→aa→Option α:=
 λe vs H=>match e with
  | .exit i=>if i=id then k .normal vs H else k (.exit i) vs H
  |e=>k e vs H
theorem wZ {α:Type}(kb:List Value→aa→Option α)(k:bD→List Value→aa→Option α):AQ kb k=dP kb k:=rfl
theorem D4 {α:Type}(id:Nat)(k:bD→List Value→aa→Option α):Hq id k=dI id k:=rfl
abbrev D5 {α:Type}(P:Program)(C:ae)(ops:Array Oper):List Oper→Env→aa→(Env→aa→Option α)→Option α
 | [],E,H,k=>k E H
 |o::r,E,H,k=>af (match o.guard with
   |none=>gz P C E H o
   |some _=>gd (dC ops o E) (gz P C E H o) H) λv H'=>D5 P C ops r (E.put o.dst v) H' k
theorem NB {α:Type}(P:Program)(C:ae)(ops:Array Oper)(l:List Oper)(E:Env)(H:aa)(k:Env→aa→Option α):D5 P C ops l E H k=FW P C ops l E H k:=by
 induction l generalizing E H with
 |nil=>rfl
 |cons o r ih=>simp only[D5,FW,ih];rfl
abbrev B4 {α:Type}(P:Program)(C:ae)(ops:Array Oper):List Oper→Env→aa→List (Env×aa)→(Env→aa→List (Env×aa)→Option α)→Option α
 | [],E,H,T,k=>k E H (T++[(E,H)])
 |o::r,E,H,T,k=>af (match o.guard with
   |none=>gz P C E H o
   |some _=>gd (dC ops o E) (gz P C E H o) H) λv H'=>B4 P C ops r (E.put o.dst v) H' (T++[(E,H)]) k
theorem JO {α:Type}(P:Program)(C:ae)(ops:Array Oper)(l:List Oper)(E:Env)(H:aa)(T:List (Env×aa))(k:Env→aa→List (Env×aa)→Option α):B4 P C ops l E H T k=AL P C ops l E H T k:=by
 induction l generalizing E H T with
 |nil=>rfl
 |cons o r ih=>simp only[B4,AL,ih];rfl
abbrev B5 {α:Type}(P:Program)(C:ae)(F:List Nat)(base:Nat)(ops:Array Oper):List Oper→Nat→Env→aa→(Env→aa→Option α)→Option α
 | [],_,E,H,k=>k E H
 |o::r,j,E,H,k=>af (match o.guard with
   |none=>dw P C F base j E H o
   |some _=>gd (dC ops o E) (dw P C F base j E H o) H) λv H'=>B5 P C F base ops r (j+1) (E.put o.dst v) H' k
theorem JQ {α:Type}(P:Program)(C:ae)(F:List Nat)(base:Nat)(ops:Array Oper)(l:List Oper)(j:Nat)(E:Env)(H:aa)(k:Env→aa→Option α):B5 P C F base ops l j E H k=AM P C F base ops l j E H k:=by
 induction l generalizing j E H with
 |nil=>rfl
 |cons o r ih=>simp only[B5,AM,ih];rfl
abbrev vo {α:Type}(P:Program)(C:ae)(F:List Nat)(base:Nat)(ops:Array Oper):List Oper→Nat→Env→aa→List (Env×aa)→(Env→aa→List (Env×aa)→Option α)→Option α
 | [],_,E,H,T,k=>k E H (T++[(E,H)])
 |o::r,j,E,H,T,k=>af (match o.guard with
   |none=>dw P C F base j E H o
   |some _=>gd (dC ops o E) (dw P C F base j E H o) H) λv H'=>vo P C F base ops r (j+1) (E.put o.dst v) H' (T++[(E,H)]) k
theorem Gc {α:Type}(P:Program)(C:ae)(F:List Nat)(base:Nat)(ops:Array Oper)(l:List Oper)(j:Nat)(E:Env)(H:aa)(T:List (Env×aa))(k:Env→aa→List (Env×aa)→Option α):vo P C F base ops l j E H T k=tq P C F base ops l j E H T k:=by
 induction l generalizing j E H T with
 |nil=>rfl
 |cons o r ih=>simp only[vo,tq,ih];rfl
abbrev w5 {α:Type}(P:Program)(C:ae)(ops:Array Oper)(draw:Bool)(E:Env)(H:aa)(k:Env→aa→Option α):Option α:=
 if draw then
  match lK P ops with
  | []=>match mB P ops with
   | []=>D5 P C ops ops.toList E H k
   |cs=>B4 P C ops ops.toList E H [] λE' H' T=>if cs.all (iO P ops T) then k E' H' else none
  |F=>tu F.length H λbase H=>match mB P ops with
   | []=>B5 P C F base ops ops.toList 0 E H k
   |cs=>vo P C F base ops ops.toList 0 E H [] λE' H' T=>if cs.all (iO P ops T) then k E' H' else none
 else D5 P C ops ops.toList E H k
theorem D6 {α:Type}(P:Program)(C:ae)(ops:Array Oper)(draw:Bool)(E:Env)(H:aa)(k:Env→aa→Option α):w5 P C ops draw E H k=rG P C ops draw E H k:=by
 simp only[w5,rG,NB,JO,JQ,Gc];rfl
inductive Mk:Type→Type 1 where
 |leaf {α:Type}:Mk α
 |seq {α:Type} (a b:Mk α):Mk α
 |uX {α:Type} (a:Mk α) (J:List Value→aa→Option α) (b:Mk α):Mk α
 |cond {α:Type} (a b:Mk α):Mk α
 |block {α:Type} (a:Mk α):Mk α
 |scope {α:Type} (a:Mk α):Mk α
 |loop {α:Type} (f:List Value→aa→bh) (a:Mk (bD×List Value×aa)):Mk α
abbrev JR (P:Program)(C:ae)(keep:List Nat)(n:Nat):{α:Type}→Code→List Value→aa→(bD→List Value→aa→Option α)→Option α
 |_,.skip,vs,H,k=>k .normal vs H
 |_,.label _,vs,H,k=>k .normal vs H
 |_,.region _ ops draw,vs,H,k=>w5 P C ops draw (keep.zip vs) H λE H'=>k .normal (keep.map E.get) H'
 |_,.seq a b,vs,H,k=>JR P C keep n a vs H (AQ (λja H'=>JR P C keep n b ja H' k) k)
 |_,.cond c a b,vs,H,k=>aX (eB (keep.zip vs) c) (JR P C keep n a vs H k) (JR P C keep n b vs H k)
 |_,.block id c,vs,H,k=>JR P C keep n c vs H (Hq id k)
 |_,.loop c,vs,H,k=>cl (iter n (λvs H=>nS P C keep n c vs H fin) vs H) k
 |_,.exit id,vs,H,k=>k (.exit id) vs H
 |_,.scope c,vs,H,k=>JR P C keep n c vs H k
 |_,.ret,vs,H,k=>k .ret vs H
 |_,.goto _,_,_,_=>none
 |_,.rangeFunc g ps x y,vs,H,k=>DZ (VN P.funcs.size C (eB (keep.zip vs) g) ⟨keep,vs,ps,x,y⟩ H) λe H'=>k e vs H'
 |_,.refuse _,_,_,_=>none
theorem VS (P:Program)(C:ae)(keep:List Nat)(n:Nat)(c:Code): ∀{α:Type} (vs:List Value) (H:aa) (k:bD→List Value→aa→Option α),
  JR P C keep n c vs H k=nS P C keep n c vs H k:=by
 induction c with
 |region p ops draw=>intros;simp only[JR,nS,D6]
 |seq a b JF JG=>intros;simp only[JR,nS,JF,JG,wZ]
 |cond c a b JF JG=>intros;simp only[JR,nS,JF,JG]
 |block id c ih=>intros;simp only[JR,nS,ih,D4]
 |scope c ih=>intros;simp only[JR,nS,ih]
 |_=>intros;rfl
abbrev B6 (P:Program)(C:ae)(keep:List Nat)(n:Nat):{α:Type}→Mk α→Code→List Value→aa→(bD→List Value→aa→Option α)→Option α
 |_,.seq ma mb,.seq a b,vs,H,k=>B6 P C keep n ma a vs H (AQ (λja H'=>B6 P C keep n mb b ja H' k) k)
 |_,.uX ma J _,.seq a _,vs,H,k=>B6 P C keep n ma a vs H (AQ J k)
 |_,.cond ma mb,.cond c a b,vs,H,k=>aX (eB (keep.zip vs) c) (B6 P C keep n ma a vs H k) (B6 P C keep n mb b vs H k)
 |_,.block ma,.block id c,vs,H,k=>B6 P C keep n ma c vs H (Hq id k)
 |_,.scope ma,.scope c,vs,H,k=>B6 P C keep n ma c vs H k
 |_,.loop f _,.loop _,vs,H,k=>cl (iter n f vs H) k
 |_,_,c,vs,H,k=>JR P C keep n c vs H k
def tx (P:Program)(C:ae)(keep:List Nat)(n:Nat):{α:Type}→Mk α→Code→(bD→List Value→aa→Option α)→Prop
 |_,.seq ma mb,.seq a b,k=>tx P C keep n ma a (AQ (λja H'=>B6 P C keep n mb b ja H' k) k)∧tx P C keep n mb b k
 |_,.uX ma J mb,.seq a b,k=>tx P C keep n ma a (AQ J k)∧tx P C keep n mb b k∧∀vs H,B6 P C keep n mb b vs H k=J vs H
 |_,.cond ma mb,.cond _ a b,k=>tx P C keep n ma a k∧tx P C keep n mb b k
 |_,.block ma,.block id c,k=>tx P C keep n ma c (Hq id k)
 |_,.scope ma,.scope c,k=>tx P C keep n ma c k
 |_,.loop f ma,.loop c,_=>tx P C keep n ma c fin∧∀vs H,B6 P C keep n ma c vs H fin=f vs H
 |_,.leaf,_,_=>True
 |_,_,_,_=>False
theorem VT (P:Program)(C:ae)(keep:List Nat)(n:Nat){α:Type}(m:Mk α): ∀(c:Code) (vs:List Value) (H:aa) (k:bD→List Value→aa→Option α),
  tx P C keep n m c k→B6 P C keep n m c vs H k=nS P C keep n c vs H k:=by
 induction m with
 |leaf=>intro c vs H k _;cases c<;>exact VS ..
 |seq ma mb JF JG=>
  intro c vs H k h;cases c with
  |seq a b=>
   obtain⟨h1,h2⟩:=h;simp only[B6,nS];rw[JF a vs H _ h1];have:(λja H'=>B6 P C keep n mb b ja H' k)=λja H'=>nS P C keep n b ja H' k:=by funext ja H';exact JG b ja H' k h2
   rw[this,wZ]
  |_=>exact h.elim
 |uX ma J mb JF JG=>
  intro c vs H k h;cases c with
  |seq a b=>
   obtain⟨h1,h2,h3⟩:=h;simp only[B6,nS];rw[JF a vs H _ h1];have:J=λja H'=>nS P C keep n b ja H' k:=by funext ja H';rw[←h3];exact JG b ja H' k h2
   rw[←this,wZ]
  |_=>exact h.elim
 |cond ma mb JF JG=>
  intro c vs H k h;cases c with
  |cond c a b=>obtain⟨h1,h2⟩:=h;simp only[B6,nS];rw[JF a vs H k h1,JG b vs H k h2]
  |_=>exact h.elim
 |block ma ih=>
  intro c vs H k h;cases c with
  |block id c=>simp only[B6,nS];rw[ih c vs H _ h,D4]
  |_=>exact h.elim
 |scope ma ih=>
  intro c vs H k h;cases c with
  |scope c=>simp only[B6,nS];exact ih c vs H k h
  |_=>exact h.elim
 |loop f ma ih=>
  intro c vs H k h;cases c with
  |loop c=>
   obtain⟨h1,h2⟩:=h;simp only[B6,nS];have:f=λvs H=>nS P C keep n c vs H fin:=by funext vs H;rw[←h2];exact ih c vs H fin h1
   rw[←this]
  |_=>exact h.elim
theorem Hr {P:Program}{C:ae}{n:Nat}{fn:Func}{keep:List Nat}{c:Code}(hc:fn.body=some c)(m:Mk (Value×aa))(h:tx P C keep n m c (ef P fn.results.toList keep))(args:List Value)(H:aa):
  Hl P C n fn keep args H=B6 P C keep n m c (keep.map λt=>args.getD t undef) H (ef P fn.results.toList keep):=by
 unfold Hl;rw[hc];exact(VT P C keep n m c _ H _ h).symm
end Go.Proofs.YtgfgglponbmgmaaGreatA.Am
end
section
namespace Go.Proofs.YtgfgglponbmgmaaGreat.Fun
open Go.RowKit Go.Proofs.YtgfgglponbmgmaaGreatA.Am
set_option maxRecDepth 10000
def F20 (C:ae)(n:Nat)(a0 a1:Value)(H:aa):VH:= mv (Value.bool false) H λx0 H=>mv a0 H λx1 H=>af (au x1 H) λx2 H=>af (ak 23 x2 H) λx3 H=>af (pS (aq x3 H) H) λx4 H=>aX x4 (mv (Value.bool true) H λx5 H=>some (x5,H)) (mv a0 H λx6 H=>af (C 70 [x6] H) λx7 H=>mv x7 H λx8 H=>af (cm 0 x8 H) λx9 H=>af (cm 1 x8 H) λaC H=>af (some (aS H 49 1 [(cv 0),(Value.bool false),(cv 0),(cv 0),(cv 0),(Value.slice none 0 0),(Value.slice none 0 0),(cv 0),(Value.bool false),(cv 0),(cv 0),(cv 0),(Value.slice none 0 0)])) λaO H=>mv x9 H λaN H=>af (bE 13 aO aC H) λaI H=>mv a0 H λaM B7=>af (some (a0,B7)) λaW uY=>af (au aW uY) λaU D7=>af (ak 22 aU D7) λbf rJ=>af (pS (aq bf rJ) rJ) λaV w6=>af (some (a1,w6)) λbt rK=>af (some (aN,rK)) λbR rL=>af (au bR rL) λbn rM=>af (ak 3 bn rM) λbA w7=>af (pS (c8 5 bA w7) w7) λbJ ng=>af (C 71 [bt,bJ] ng) λbM nU=>af (ay Tryz.prog 42 1 [(0,bM)] nU) λbU uZ=>af (df 2 1 8 aV bU uZ) λb9 u3=>af (au aM u3) λcH D8=>af (ak 22 cH D8) λcd tz=>af (bE 1 cd b9 tz) λbS tA=>if(lA (some true) (some true) (pS (aq bf rJ) rJ) (pS (aq bf ng) ng) (pS (aq bf nU) nU)&&(lA (some true) (some true) (pS (aq bf rJ) rJ) (pS (aq bf nU) nU) (pS (aq bf uZ) uZ)&&true))=true then(λH=>mv a0 H λct H=>af (C 69 [ct] H) λcP H=>mv a0 H λbP H=>af (au bP H) λcr H=>af (ak 23 cr H) λdx H=>af (pS (aq dx H) H) λbG H=>mv bG H λcp H=>some (cp,H)) tA else none)
theorem VU (G:ae)(n:Nat)(a0 a1:Value)(H:aa):run G (n+1) 20 [a0,a1] H=F20 (run G n) n a0 a1 H:=by
 unfold run;rw[ao (fn:=Tryz.f20) (keep:=[0,1,4,10,5]) (av 20 rfl) (by kernel_rfl) (by kernel_rfl)]
 kernel_rfl
abbrev z9 (vs:List Value)(i:Nat):Value:=sl [0,1,4,9,10,5,20,40,51,68] vs i
def B8 (C:ae)(n:Nat)(v0 v1 v4 v9 v10 v5 v20 gD rN pg:Value)(H:aa):VH:= mv v0 H λx1 H=>af (C 27 [x1] H) λx2 H=>mv x2 H λx3 H=>some (x3,H)
def oJ (C:ae)(n:Nat)(vs:List Value)(H:aa):VH:=B8 C n (z9 vs 0) (z9 vs 1) (z9 vs 4) (z9 vs 9) (z9 vs 10) (z9 vs 5) (z9 vs 20) (z9 vs 40) (z9 vs 51) (z9 vs 68) H
theorem NC (C:ae)(n:Nat)(v0 v1 v4 v9 v10 v5 v20 gD rN pg:Value)(H:aa):oJ C n [v0,v1,v4,v9,v10,v5,v20,gD,rN,pg] H=B8 C n v0 v1 v4 v9 v10 v5 v20 gD rN pg H:=by
 kernel_rfl
def F26 (C:ae)(n:Nat)(a0 a1:Value)(H:aa):VH:= mv (Value.bool false) H λx0 H=>mv a0 H λx4 H=>af (au x4 H) λx5 H=>af (ak 0 x5 H) λx6 H=>af (pS (aq x6 H) H) λx7 H=>af (pS (ai Tryz.prog .eql 3 x7 (cv 0)) H) λx8 H=>mv x8 H λx9 H=>aX x9 (mv a1 H λaC H=>mv a0 H λaO H=>af (au aO H) λaN H=>af (ak 1 aN H) λaI H=>af (pS (aq aI H) H) λaM H=>af (C 67 [aC,aM] H) λaW H=>mv aW H λaU H=>mv aU H λbf H=>af (C 31 [bf] H) λaV H=>af (pS (ai Tryz.prog .neq 3 aV (cv 5)) H) λbt H=>aX bt (mv a0 H λbR H=>mv aU H λbn H=>af (C 75 [bR,bn] H) λbA H=>oJ C n [a0,a1,x0,x7,x9,aU,bt,undef,undef,undef] H) (mv a0 H λbJ H=>mv aU H λbM H=>af (C 76 [bM] H) λbU H=>af (au bJ H) λb9 H=>af (ak 2 b9 H) λcH H=>af (bE 1 cH bU H) λcd H=>mv a0 H λbS H=>mv a0 H λct H=>mv a0 H λcP H=>af (au cP H) λbP H=>af (ak 2 bP H) λcr H=>af (pS (aq cr H) H) λdx H=>af (pS (ai Tryz.prog .add 3 dx (cv 4)) H) λbG H=>af (au bS H) λcp H=>af (ak 0 cp H) λdL H=>af (bE 1 dL (cv 1) H) λdr H=>af (au ct H) λcS H=>af (ak 1 cS H) λcw H=>af (bE 1 cw bG H) λcJ H=>oJ C n [a0,a1,x0,x7,x9,aU,bt,undef,undef,undef] H)) (af (pS (ai Tryz.prog .eql 3 x7 (cv 1)) H) λeE H=>mv eE H λdE H=>aX dE (mv a0 H λeh H=>af (au eh H) λdK H=>af (ak 0 dK H) λdq H=>af (bE 1 dq (cv 2) H) λdF H=>mv a1 H λcT H=>mv a0 H λcM H=>af (au cM H) λeC H=>af (ak 1 eC H) λdS H=>af (pS (aq dS H) H) λdQ H=>af (C 67 [cT,dQ] H) λdR H=>af (pS (ai Tryz.prog .eql 2 dR (cv 1)) H) λeK H=>aX eK (mv a0 H λeW H=>mv a0 H λdA H=>af (au dA H) λir H=>af (ak 2 ir H) λdX H=>af (pS (aq dX H) H) λgC H=>af (pS (ai Tryz.prog .add 3 gC (cv 3)) H) λiS H=>af (au eW H) λgH H=>af (ak 1 gH H) λeQ H=>af (bE 1 eQ iS H) λiZ H=>oJ C n [a0,a1,x0,x7,x9,undef,undef,dE,eK,undef] H) (mv a0 H λjU H=>mv a0 H λia H=>af (au ia H) λfE H=>af (ak 2 fE H) λjV H=>af (pS (aq jV H) H) λfI H=>af (pS (ai Tryz.prog .add 3 fI (cv 2)) H) λgR H=>af (au jU H) λkM H=>af (ak 1 kM H) λmH H=>af (bE 1 mH gR H) λnd H=>oJ C n [a0,a1,x0,x7,x9,undef,undef,dE,eK,undef] H)) (af (pS (ai Tryz.prog .eql 3 x7 (cv 2)) H) λmI H=>mv mI H λfT H=>aX fT (mv a0 H λn8 H=>mv a1 H λml H=>mv a0 H λkX H=>af (au kX H) λsL H=>af (ak 1 sL H) λij H=>af (pS (aq ij H) H) λlB H=>af (C 67 [ml,lB] H) λsM H=>af (C 75 [n8,sM] H) λmu H=>oJ C n [a0,a1,x0,x7,x9,undef,undef,dE,undef,fT] H) (oJ C n [a0,a1,x0,x7,x9,undef,undef,dE,undef,fT] H)))
theorem VV (G:ae)(n:Nat)(a0 a1:Value)(H:aa):run G (n+1) 26 [a0,a1] H=F26 (run G n) n a0 a1 H:=by
 unfold run;rw[ao (fn:=Tryz.f26) (keep:=[0,1,4,9,10,5,20,40,51,68]) (av 26 rfl) (by kernel_rfl) (by kernel_rfl)]
 kernel_rfl
def F51 (C:ae)(n:Nat)(a0:Value)(H:aa):VH:= mv (Value.slice none 0 0) H λx0 H=>mv a0 H λx1 H=>af (au x1 H) λx2 H=>af (ak 0 x2 H) λx3 H=>af (pS (aq x3 H) H) λx4 H=>af (C 82 [x4] H) λx5 H=>mv x5 H λx6 H=>some (x6,H)
theorem VW (G:ae)(n:Nat)(a0:Value)(H:aa):run G (n+1) 51 [a0] H=F51 (run G n) n a0 H:=by
 unfold run;rw[ao (fn:=Tryz.f51) (keep:=[0,2]) (av 51 rfl) (by kernel_rfl) (by kernel_rfl)]
 kernel_rfl
def F59 (C:ae)(n:Nat)(a0 a1:Value)(H:aa):VH:= mv (cv 0) H λx0 H=>mv a0 H λx1 H=>af (pS (ai Tryz.prog .lss 3 x1 (cv 1)) H) λx2 H=>mv x2 H λx3 H=>af (gd (ag x3 false) (some (a0,H)) H) λx4 H=>af (gd (ag x3 false) (pS (ai Tryz.prog .gtr 3 x4 (cv 5)) H) H) λx5 H=>af (aK x3 (Value.bool true) x5 H) λx6 H=>mv x6 H λx7 H=>af (gd (ag x7 false) (some (a1,H)) H) λx8 H=>af (gd (ag x7 false) (pS (ai Tryz.prog .lss 3 x8 (cv 1)) H) H) λx9 H=>af (aK x7 (Value.bool true) x9 H) λaC H=>mv aC H λaO H=>af (gd (ag aO false) (some (a1,H)) H) λaN H=>af (gd (ag aO false) (pS (ai Tryz.prog .gtr 3 aN (cv 65536)) H) H) λaI H=>af (aK aO (Value.bool true) aI H) λaM H=>aX aM (mv (cv 0) H λaW H=>some (aW,H)) (mv a1 H λaU H=>af (pS (ai Tryz.prog .mul 3 (cv 8) aU) H) λbf H=>mv a0 H λaV H=>af (pS (ai Tryz.prog .add 3 bf aV) H) λbt H=>mv bt H λbR H=>some (bR,H))
theorem VX (G:ae)(n:Nat)(a0 a1:Value)(H:aa):run G (n+1) 59 [a0,a1] H=F59 (run G n) n a0 a1 H:=by
 unfold run;rw[ao (fn:=Tryz.f59) (keep:=[0,1,4,18]) (av 59 rfl) (by kernel_rfl) (by kernel_rfl)]
 kernel_rfl
abbrev QY (vs:List Value)(i:Nat):Value:=sl [0,2,3,8] vs i
def B9 (C:ae)(n:Nat)(v0 v2 v3 v8:Value)(H:aa):VH:= mv v0 H λx5 H=>af (pS (ai Tryz.prog .quo 3 x5 (cv 14)) H) λx6 H=>mv x6 H λx7 H=>mv v3 H λx8 H=>mv x7 H λx9 H=>af (C 18 [x9,(cv 41)] H) λaC H=>af (pS (ai Tryz.prog .sub 3 aC (cv 10)) H) λaO H=>mv x7 H λaN H=>af (pS (ai Tryz.prog .quo 3 aN (cv 41)) H) λaI H=>af (C 18 [aI,(cv 50)] H) λaM H=>af (pS (aE Tryz.prog 39 [(0,x8),(1,aO),(2,aM)]) H) λaW H=>af (bE 3 v2 aW H) λaU H=>af (pS (c8 3 v2 H) H) λr0 _=>some (r0,H)
def Ca (C:ae)(n:Nat)(vs:List Value)(H:aa):VH:=B9 C n (QY vs 0) (QY vs 2) (QY vs 3) (QY vs 8) H
theorem ND (C:ae)(n:Nat)(v0 v2 v3 v8:Value)(H:aa):Ca C n [v0,v2,v3,v8] H=B9 C n v0 v2 v3 v8 H:=by
 kernel_rfl
def F73 (C:ae)(n:Nat)(a0:Value)(H:aa):VH:= af (some (aS H 39 1 [(cv 0),(cv 0),(cv 0)])) λx0 H=>mv a0 H λx1 H=>af (C 18 [x1,(cv 14)] H) λx2 H=>af (pS (ai Tryz.prog .add 3 (cv 1) x2) H) λx3 H=>mv x3 H λx4 H=>mv x4 H λbf H=>af (pS (ai Tryz.prog .gtr 3 bf (cv 10)) H) λaV H=>aX aV (mv x4 H λbt H=>af (C 18 [bt,(cv 3)] H) λbR H=>af (pS (ai Tryz.prog .add 3 (cv 1) bR) H) λbn H=>mv bn H λbA H=>Ca C n [a0,x0,bA,aV] H) (Ca C n [a0,x0,x4,aV] H)
theorem VY (G:ae)(n:Nat)(a0:Value)(H:aa):run G (n+1) 73 [a0] H=F73 (run G n) n a0 H:=by
 unfold run;rw[ao (fn:=Tryz.f73) (keep:=[0,2,3,8]) (av 73 rfl) (by kernel_rfl) (by kernel_rfl)]
 kernel_rfl
def F78 (C:ae)(n:Nat)(a0 a1 a2:Value)(H:aa):VH:= mv a0 H λx0 H=>mv a1 H λx1 H=>af (C 94 [x0,x1] H) λx2 H=>mv x2 H λx3 H=>mv x3 H λx4 H=>af (pS (ai Tryz.prog .neq 149 x4 (Value.pointer none)) H) λx5 H=>aX x5 (mv x3 H λx6 H=>mv a2 H λx7 H=>af (au x6 H) λx8 H=>af (bE 1 x8 x7 H) λx9 H=>some (Value.tuple #[],H)) (some (Value.tuple #[],H))
theorem VZ (G:ae)(n:Nat)(a0 a1 a2:Value)(H:aa):run G (n+1) 78 [a0,a1,a2] H=F78 (run G n) n a0 a1 a2 H:=by
 unfold run;rw[ao (fn:=Tryz.f78) (keep:=[0,1,2,6,11]) (av 78 rfl) (by kernel_rfl) (by kernel_rfl)]
 kernel_rfl
def F82 (C:ae)(n:Nat)(a0:Value)(H:aa):VH:= mv (Value.slice none 0 0) H λx0 H=>mv a0 H λx1 H=>af (pS (ai Tryz.prog .eql 42 x1 (Value.slice none 0 0)) H) λx2 H=>aX x2 (mv (Value.slice none 0 0) H λx3 H=>some (x3,H)) (af (ay Tryz.prog 42 0 [] H) λx4 H=>mv a0 H λx5 H=>af (df 2 1 8 x4 x5 H) λx6 H=>mv x6 H λx7 H=>some (x7,H))
theorem V0 (G:ae)(n:Nat)(a0:Value)(H:aa):run G (n+1) 82 [a0] H=F82 (run G n) n a0 H:=by
 unfold run;rw[ao (fn:=Tryz.f82) (keep:=[0,2,4]) (av 82 rfl) (by kernel_rfl) (by kernel_rfl)]
 kernel_rfl
abbrev nV (vs:List Value)(i:Nat):Value:=sl [0,2,3,1,35,4,7,51,6] vs i
def Cb (C:ae)(n:Nat)(v0 v2 v3 v1 gS v4 v7 rN v6:Value)(H:aa):bh:= mv v7 H λcM H=>af (ak 1 v1 H) λeC H=>af (pS (aq eC H) H) λdS H=>af (pS (ai Tryz.prog .lss 3 cM dS) H) λdQ H=>aX dQ (mv v6 H λdR mo=>af (some (v6,mo)) λeK qE=>af (au eK qE) λeW Cc=>af (ak 4 eW Cc) λdA pK=>af (pS (aq dA pK) pK) λir Cd=>af (ak 2 v1 Cd) λdX tB=>af (pS (aq dX tB) tB) λgC D9=>af (pS (aE Tryz.prog 116 [(0,gC)]) D9) λiS Aa=>af (dJ 116 iS Aa) λgH qF=>af (ay Tryz.prog 62 1 [(0,gH)] qF) λeQ nb=>af (df 117 1 8 ir eQ nb) λiZ rH=>af (au dR rH) λjU qD=>af (ak 4 jU qD) λia nc=>af (bE 1 ia iZ nc) λfE lD=>if(lA (some true) (some true) (pS (aq dA pK) pK) (pS (aq dA Aa) Aa) (pS (aq dA qF) qF)&&(lA (some true) (some true) (pS (aq dA pK) pK) (pS (aq dA qF) qF) (pS (aq dA nb) nb)&&true))=true then(λH=>mv v7 H λjV H=>af (pS (ai Tryz.prog .add 3 jV (cv 1)) H) λfI H=>mv fI H λgR H=>fin .normal [v0,v2,v3,v1,gS,v4,gR,dQ,v6] H) lD else none) (fin (.exit 0) [v0,v2,v3,v1,gS,v4,v7,dQ,v6] H)
def NF (C:ae)(n:Nat)(vs:List Value)(H:aa):bh:=Cb C n (nV vs 0) (nV vs 2) (nV vs 3) (nV vs 1) (nV vs 35) (nV vs 4) (nV vs 7) (nV vs 51) (nV vs 6) H
theorem NG (C:ae)(n:Nat)(v0 v2 v3 v1 gS v4 v7 rN v6:Value)(H:aa):NF C n [v0,v2,v3,v1,gS,v4,v7,rN,v6] H=Cb C n v0 v2 v3 v1 gS v4 v7 rN v6 H:=by
 kernel_rfl
def Ce (C:ae)(n:Nat)(v0 v2 v3 v1 gS v4 v7 rN v6:Value)(H:aa):VH:= mv v6 H λkM H=>mv kM H λmH H=>mv (cv 0) H λnd H=>some (Value.tuple #[mH,nd],H)
def NH (C:ae)(n:Nat)(vs:List Value)(H:aa):VH:=Ce C n (nV vs 0) (nV vs 2) (nV vs 3) (nV vs 1) (nV vs 35) (nV vs 4) (nV vs 7) (nV vs 51) (nV vs 6) H
theorem NJ (C:ae)(n:Nat)(v0 v2 v3 v1 gS v4 v7 rN v6:Value)(H:aa):NH C n [v0,v2,v3,v1,gS,v4,v7,rN,v6] H=Ce C n v0 v2 v3 v1 gS v4 v7 rN v6 H:=by
 kernel_rfl
def F84 (C:ae)(n:Nat)(a0:Value)(H:aa):VH:= af (dJ 60 a0 H) λx0 H=>mv (Value.pointer none) H λx1 H=>mv (cv 0) H λx2 H=>af (ak 0 x0 H) λx3 H=>af (pS (aq x3 H) H) λx4 H=>af (pS (ai Tryz.prog .lss 3 x4 (cv 7)) H) λx5 H=>mv x5 H λx6 H=>af (gd (ag x6 false) (ak 0 x0 H) H) λx7 H=>af (gd (ag x6 false) (pS (aq x7 H) H) H) λx8 H=>af (gd (ag x6 false) (pS (ai Tryz.prog .gtr 3 x8 (cv 65536)) H) H) λx9 H=>af (aK x6 (Value.bool true) x9 H) λaC H=>mv aC H λaO H=>af (gd (ag aO false) (ak 1 x0 H) H) λaN H=>af (gd (ag aO false) (pS (aq aN H) H) H) λaI H=>af (gd (ag aO false) (pS (ai Tryz.prog .lss 3 aI (cv 1)) H) H) λaM H=>af (aK aO (Value.bool true) aM H) λaW H=>mv aW H λaU H=>af (gd (ag aU false) (ak 1 x0 H) H) λbf H=>af (gd (ag aU false) (pS (aq bf H) H) H) λaV H=>af (gd (ag aU false) (pS (ai Tryz.prog .gtr 3 aV (cv 64)) H) H) λbt H=>af (aK aU (Value.bool true) bt H) λbR H=>mv bR H λbn H=>af (gd (ag bn false) (ak 2 x0 H) H) λbA H=>af (gd (ag bn false) (pS (aq bA H) H) H) λbJ H=>af (gd (ag bn false) (pS (ai Tryz.prog .lss 3 bJ (cv 1)) H) H) λbM H=>af (aK bn (Value.bool true) bM H) λbU H=>mv bU H λb9 H=>af (gd (ag b9 false) (ak 2 x0 H) H) λcH H=>af (gd (ag b9 false) (pS (aq cH H) H) H) λcd H=>af (gd (ag b9 false) (pS (ai Tryz.prog .gtr 3 cd (cv 64)) H) H) λbS H=>af (aK b9 (Value.bool true) bS H) λct H=>aX ct (mv (Value.pointer none) H λcP H=>mv (cv 2) H λbP H=>some (Value.tuple #[cP,bP],H)) (af (ak 0 x0 H) λcr H=>af (pS (aq cr H) H) λdx H=>af (C 104 [dx] H) λbG H=>mv bG H λcp H=>af (cm 0 cp H) λdL H=>af (cm 1 cp H) λdr H=>mv dL H λcS H=>mv dr H λcw H=>mv cS H λcJ H=>af (C 105 [cJ] H) λeE H=>af (pS (c8 3 x0 H) H) λdE H=>mv cS H λeh H=>af (pS (aE Tryz.prog 65 [(0,dE),(1,eh)]) H) λdK H=>af (dJ 65 dK H) λdq H=>mv dq H λdF H=>mv (cv 0) H λcT H=>cl (iter n (NF C n) [a0,x1,x2,x0,ct,cS,cT,undef,dF] H) (dI 0 (dP (NH C n) (ef Tryz.prog [.tmp 2,.tmp 3] [0,2,3,1,35,4,7,51,6]))))
theorem V1 (G:ae)(n:Nat)(a0:Value)(H:aa):run G (n+1) 84 [a0] H=F84 (run G n) n a0 H:=by
 unfold run;rw[ao (fn:=Tryz.f84) (keep:=[0,2,3,1,35,4,7,51,6]) (av 84 rfl) (by kernel_rfl) (by kernel_rfl)]
 kernel_rfl
abbrev pZ (vs:List Value)(i:Nat):Value:=sl [0,2,3,10,22] vs i
def w9 (C:ae)(n:Nat)(v0 v2 v3 v10 jw:Value)(H:aa):bh:= mv v3 H λx2 H=>mv v0 H λx3 H=>af (au x3 H) λx4 H=>af (ak 4 x4 H) λx5 H=>af (pS (aq x5 H) H) λx6 H=>af (pS (cC x6) H) λx7 H=>af (pS (ai Tryz.prog .lss 3 x2 x7) H) λx8 H=>aX x8 (mv v0 H λx9 H=>af (au x9 H) λaC H=>af (ak 4 aC H) λaO H=>af (pS (aq aO H) H) λaN H=>mv v3 H λaI H=>af (cG 1 aN aI H) λaM H=>af (pS (aq aM H) H) λaW H=>af (au aW H) λaU H=>af (ak 1 aU H) λbf H=>af (pS (aq bf H) H) λaV H=>aX aV (mv (Value.bool false) H λbt H=>fin .ret [v0,bt,v3,x8,aV] H) (mv v3 H λbR H=>af (pS (ai Tryz.prog .add 3 bR (cv 1)) H) λbn H=>mv bn H λbA H=>fin .normal [v0,v2,bA,x8,aV] H)) (fin (.exit 0) [v0,v2,v3,x8,jw] H)
def Hs (C:ae)(n:Nat)(vs:List Value)(H:aa):bh:=w9 C n (pZ vs 0) (pZ vs 2) (pZ vs 3) (pZ vs 10) (pZ vs 22) H
theorem JS (C:ae)(n:Nat)(v0 v2 v3 v10 jw:Value)(H:aa):Hs C n [v0,v2,v3,v10,jw] H=w9 C n v0 v2 v3 v10 jw H:=by
 kernel_rfl
def xb (C:ae)(n:Nat)(v0 v2 v3 v10 jw:Value)(H:aa):VH:= mv (Value.bool true) H λbJ H=>some (bJ,H)
def Ht (C:ae)(n:Nat)(vs:List Value)(H:aa):VH:=xb C n (pZ vs 0) (pZ vs 2) (pZ vs 3) (pZ vs 10) (pZ vs 22) H
theorem JT (C:ae)(n:Nat)(v0 v2 v3 v10 jw:Value)(H:aa):Ht C n [v0,v2,v3,v10,jw] H=xb C n v0 v2 v3 v10 jw H:=by
 kernel_rfl
def V2 (C:ae)(n:Nat)(a0:Value)(H:aa):VH:= mv (Value.bool false) H λx0 H=>mv (cv 0) H λx1 H=>cl (iter n (Hs C n) [a0,x0,x1,undef,undef] H) (dI 0 (dP (Ht C n) (ef Tryz.prog [.tmp 2] [0,2,3,10,22])))
theorem QZ (G:ae)(n:Nat)(a0:Value)(H:aa):run G (n+1) 106 [a0] H=V2 (run G n) n a0 H:=by
 unfold run;rw[ao (fn:=Tryz.f106) (keep:=[0,2,3,10,22]) (av 106 rfl) (by kernel_rfl) (by kernel_rfl)]
 kernel_rfl
def NK (C:ae)(n:Nat)(a0 a1 a2:Value)(H:aa):VH:= mv (cv 0) H λx0 H=>mv a0 H λx1 H=>mv a1 H λx2 H=>mv a2 H λx3 H=>af (C 117 [x1,x2,x3] H) λx4 H=>mv x4 H λx5 H=>af (cm 0 x5 H) λx6 H=>af (cm 1 x5 H) λx7 H=>mv x6 H λx8 H=>mv x7 H λx9 H=>mv a1 H λaC H=>mv x8 H λaO H=>mv x9 H λaN H=>af (C 103 [aC,aO,aN] H) λaI H=>mv aI H λaM H=>some (aM,H)
theorem Hu (G:ae)(n:Nat)(a0 a1 a2:Value)(H:aa):run G (n+1) 144 [a0,a1,a2] H=NK (run G n) n a0 a1 a2 H:=by
 unfold run;rw[ao (fn:=Tryz.f144) (keep:=[0,1,2,6,7,8]) (av 144 rfl) (by kernel_rfl) (by kernel_rfl)]
 kernel_rfl
abbrev lQ (vs:List Value)(i:Nat):Value:=sl [0,1,4,14,6,17,5] vs i
def xd (C:ae)(n:Nat)(v0 v1 v4 bq v6 dt v5:Value)(H:aa):bh:= mv v6 H λaN H=>mv v1 H λaI H=>af (pS (ai Tryz.prog .lss 3 aN aI) H) λaM H=>aX aM (mv v5 H λaW H=>mv v0 H λaU H=>mv v6 H λbf H=>af (C 150 [aU,bf] H) λaV H=>af (pS (ai Tryz.prog .add 3 aW aV) H) λbt H=>mv bt H λbR H=>mv v6 H λbn H=>af (pS (ai Tryz.prog .add 3 bn (cv 1)) H) λbA H=>mv bA H λbJ H=>fin .normal [v0,v1,v4,bq,bJ,aM,bR] H) (fin (.exit 0) [v0,v1,v4,bq,v6,aM,v5] H)
def Hv (C:ae)(n:Nat)(vs:List Value)(H:aa):bh:=xd C n (lQ vs 0) (lQ vs 1) (lQ vs 4) (lQ vs 14) (lQ vs 6) (lQ vs 17) (lQ vs 5) H
theorem JU (C:ae)(n:Nat)(v0 v1 v4 bq v6 dt v5:Value)(H:aa):Hv C n [v0,v1,v4,bq,v6,dt,v5] H=xd C n v0 v1 v4 bq v6 dt v5 H:=by
 kernel_rfl
def xe (C:ae)(n:Nat)(v0 v1 v4 bq v6 dt v5:Value)(H:aa):VH:= mv v5 H λbM H=>mv bM H λbU H=>some (bU,H)
def Hw (C:ae)(n:Nat)(vs:List Value)(H:aa):VH:=xe C n (lQ vs 0) (lQ vs 1) (lQ vs 4) (lQ vs 14) (lQ vs 6) (lQ vs 17) (lQ vs 5) H
theorem JV (C:ae)(n:Nat)(v0 v1 v4 bq v6 dt v5:Value)(H:aa):Hw C n [v0,v1,v4,bq,v6,dt,v5] H=xe C n v0 v1 v4 bq v6 dt v5 H:=by
 kernel_rfl
def V3 (C:ae)(n:Nat)(a0 a1:Value)(H:aa):VH:= mv (cv 0) H λx0 H=>mv a1 H λx1 H=>af (pS (ai Tryz.prog .lss 3 x1 (cv 0)) H) λx2 H=>mv x2 H λx3 H=>af (gd (ag x3 false) (some (a1,H)) H) λx4 H=>af (gd (ag x3 false) (some (a0,H)) H) λx5 H=>af (gd (ag x3 false) (C 148 [x5] H) H) λx6 H=>af (gd (ag x3 false) (pS (ai Tryz.prog .geq 3 x4 x6) H) H) λx7 H=>af (aK x3 (Value.bool true) x7 H) λx8 H=>aX x8 (mv (cv 0) H λx9 H=>some (x9,H)) (mv (cv 0) H λaC H=>mv (cv 0) H λaO H=>cl (iter n (Hv C n) [a0,a1,x0,x8,aO,undef,aC] H) (dI 0 (dP (Hw C n) (ef Tryz.prog [.tmp 4] [0,1,4,14,6,17,5]))))
theorem Q0 (G:ae)(n:Nat)(a0 a1:Value)(H:aa):run G (n+1) 149 [a0,a1] H=V3 (run G n) n a0 a1 H:=by
 unfold run;rw[ao (fn:=Tryz.f149) (keep:=[0,1,4,14,6,17,5]) (av 149 rfl) (by kernel_rfl) (by kernel_rfl)]
 kernel_rfl
abbrev uq (vs:List Value)(i:Nat):Value:=sl [0,1,2,6,7,25,29,8] vs i
def xf (C:ae)(n:Nat)(v0 v1 v2 v6 v7 zG iU v8:Value)(H:aa):VH:= mv v0 H λbn H=>mv v0 H λbA H=>af (au bA H) λbJ H=>af (ak 5 bJ H) λbM H=>af (pS (aq bM H) H) λbU H=>mv v7 H λb9 H=>mv v8 H λcH H=>af (pS (aE Tryz.prog 45 [(0,b9),(1,cH)]) H) λcd H=>af (ay Tryz.prog 31 1 [(0,cd)] H) λbS H=>af (df 45 2 16 bU bS H) λct H=>af (au bn H) λcP H=>af (ak 5 cP H) λbP H=>af (bE 1 bP ct H) λcr H=>mv v0 H λdx H=>af (au dx H) λbG H=>af (ak 3 bG H) λcp H=>af (pS (aq cp H) H) λdL H=>af (pS (ai Tryz.prog .gtr 3 dL (cv 0)) H) λdr H=>mv dr H λcS H=>af (gd (ag cS true) (some (v0,H)) H) λcw H=>af (gd (ag cS true) (au cw H) H) λcJ H=>af (gd (ag cS true) (ak 5 cJ H) H) λeE H=>af (gd (ag cS true) (pS (aq eE H) H) H) λdE H=>af (gd (ag cS true) (pS (cC dE) H) H) λeh H=>af (gd (ag cS true) (some (v0,H)) H) λdK H=>af (gd (ag cS true) (au dK H) H) λdq H=>af (gd (ag cS true) (ak 3 dq H) H) λdF H=>af (gd (ag cS true) (pS (aq dF H) H) H) λcT H=>af (gd (ag cS true) (pS (ai Tryz.prog .geq 3 eh cT) H) H) λcM H=>af (aK cS cM (Value.bool false) H) λeC H=>mv eC H λdS H=>some (dS,H)
def vp (C:ae)(n:Nat)(vs:List Value)(H:aa):VH:=xf C n (uq vs 0) (uq vs 1) (uq vs 2) (uq vs 6) (uq vs 7) (uq vs 25) (uq vs 29) (uq vs 8) H
theorem JY (C:ae)(n:Nat)(v0 v1 v2 v6 v7 zG iU v8:Value)(H:aa):vp C n [v0,v1,v2,v6,v7,zG,iU,v8] H=xf C n v0 v1 v2 v6 v7 zG iU v8 H:=by
 kernel_rfl
def V4 (C:ae)(n:Nat)(a0 a1 a2:Value)(H:aa):VH:= mv (Value.bool false) H λx0 H=>mv a1 H λx1 H=>mv a2 H λx2 H=>af (C 139 [x1,x2] H) λx3 H=>mv x3 H λx4 H=>mv x4 H λx5 H=>mv a0 H λx6 H=>af (au x6 H) λx7 H=>af (ak 0 x7 H) λx8 H=>af (pS (aq x8 H) H) λx9 H=>af (pS (ai Tryz.prog .lss 2 x5 x9) H) λaC H=>mv aC H λaO H=>af (gd (ag aO false) (some (x4,H)) H) λaN H=>af (gd (ag aO false) (some (a0,H)) H) λaI H=>af (gd (ag aO false) (au aI H) H) λaM H=>af (gd (ag aO false) (ak 1 aM H) H) λaW H=>af (gd (ag aO false) (pS (aq aW H) H) H) λaU H=>af (gd (ag aO false) (pS (ai Tryz.prog .gtr 2 aN aU) H) H) λbf H=>af (aK aO (Value.bool true) bf H) λaV H=>aX aV (mv (Value.bool false) H λbt H=>some (bt,H)) (mv (cv 0) H λbR H=>mv a0 H λdQ H=>af (au dQ H) λdR H=>af (ak 4 dR H) λeK H=>af (pS (aq eK H) H) λeW H=>aX eW (mv a1 H λdA H=>mv a2 H λir H=>af (pS (ai Tryz.prog .add 3 ir (cv 1)) H) λdX H=>af (C 139 [dA,dX] H) λgC H=>mv gC H λiS H=>vp C n [a0,a1,a2,x0,x4,aV,eW,iS] H) (vp C n [a0,a1,a2,x0,x4,aV,eW,bR] H))
theorem Q2 (G:ae)(n:Nat)(a0 a1 a2:Value)(H:aa):run G (n+1) 163 [a0,a1,a2] H=V4 (run G n) n a0 a1 a2 H:=by
 unfold run;rw[ao (fn:=Tryz.f163) (keep:=[0,1,2,6,7,25,29,8]) (av 163 rfl) (by kernel_rfl) (by kernel_rfl)]
 kernel_rfl
abbrev bF (vs:List Value)(i:Nat):Value:=sl [0,1,2,3,4,5,12,13,16,24,14,7,32,15,63,18,77,17,93,19,102,115] vs i
def xg (C:ae)(n:Nat)(v0 v1 v2 v3 v4 v5 aY aT bZ fH bq v7 fX bV JZ cD J4 dt J5 dZ tC tD:Value)(H:aa):VH:= af (pS (c8 6 bV H) H) λnd H=>mv dZ H λmI H=>af (pS (ai Tryz.prog .eql 3 mI (cv 1)) H) λfT H=>af (bE 6 aY nd H) λn8 H=>mv fT H λml H=>af (pS (c8 6 aY H) H) λr0 _=>some (Value.tuple #[r0,ml],H)
def ph (C:ae)(n:Nat)(vs:List Value)(H:aa):VH:=xg C n (bF vs 0) (bF vs 1) (bF vs 2) (bF vs 3) (bF vs 4) (bF vs 5) (bF vs 12) (bF vs 13) (bF vs 16) (bF vs 24) (bF vs 14) (bF vs 7) (bF vs 32) (bF vs 15) (bF vs 63) (bF vs 18) (bF vs 77) (bF vs 17) (bF vs 93) (bF vs 19) (bF vs 102) (bF vs 115) H
theorem J6 (C:ae)(n:Nat)(v0 v1 v2 v3 v4 v5 aY aT bZ fH bq v7 fX bV JZ cD J4 dt J5 dZ tC tD:Value)(H:aa):ph C n [v0,v1,v2,v3,v4,v5,aY,aT,bZ,fH,bq,v7,fX,bV,JZ,cD,J4,dt,J5,dZ,tC,tD] H=xg C n v0 v1 v2 v3 v4 v5 aY aT bZ fH bq v7 fX bV JZ cD J4 dt J5 dZ tC tD H:=by
 kernel_rfl
def xh (C:ae)(n:Nat)(v0 v1 v2 v3 v4 v5 aY aT bZ fH bq v7 fX bV JZ cD J4 dt J5 dZ tC tD:Value)(H:aa):VH:= mv dZ H λjV H=>af (pS (ai Tryz.prog .eql 3 jV (cv 3)) H) λfI H=>aX fI (af (C 166 [] H) λgR H=>af (bE 6 aY gR H) λkM H=>mv (Value.bool true) H λmH H=>af (pS (c8 6 aY H) H) λr0 _=>some (Value.tuple #[r0,mH],H)) (mv dZ H λkX H=>af (pS (ai Tryz.prog .eql 3 kX (cv 1)) H) λsL H=>mv sL H λij H=>af (gd (ag ij true) (ak 0 v7 H) H) λlB H=>af (gd (ag ij true) (pS (aq lB H) H) H) λsM H=>af (gd (ag ij true) (pS (ai Tryz.prog .neq 3 sM (cv 2)) H) H) λmu H=>af (gd (ag ij true) (some (mu,H)) H) λvl H=>af (gd (ag vl false) (ak 1 bV H) H) λpJ H=>af (gd (ag vl false) (pS (aq pJ H) H) H) λzY H=>af (gd (ag vl false) (pS (iC .not zY) H) H) λwW H=>af (gd (ag ij true) (aK vl (Value.bool true) wW H) H) λAO H=>af (aK ij AO (Value.bool false) H) λfJ H=>aX fJ (mv v0 H λzZ H=>mv v5 H λDj H=>af (C 126 [zZ,Dj] H) λzF H=>ph C n [v0,v1,v2,v3,v4,v5,aY,aT,bZ,fH,bq,v7,fX,bV,JZ,cD,J4,dt,J5,dZ,fI,fJ] H) (ph C n [v0,v1,v2,v3,v4,v5,aY,aT,bZ,fH,bq,v7,fX,bV,JZ,cD,J4,dt,J5,dZ,fI,fJ] H))
def nh (C:ae)(n:Nat)(vs:List Value)(H:aa):VH:=xh C n (bF vs 0) (bF vs 1) (bF vs 2) (bF vs 3) (bF vs 4) (bF vs 5) (bF vs 12) (bF vs 13) (bF vs 16) (bF vs 24) (bF vs 14) (bF vs 7) (bF vs 32) (bF vs 15) (bF vs 63) (bF vs 18) (bF vs 77) (bF vs 17) (bF vs 93) (bF vs 19) (bF vs 102) (bF vs 115) H
theorem J7 (C:ae)(n:Nat)(v0 v1 v2 v3 v4 v5 aY aT bZ fH bq v7 fX bV JZ cD J4 dt J5 dZ tC tD:Value)(H:aa):nh C n [v0,v1,v2,v3,v4,v5,aY,aT,bZ,fH,bq,v7,fX,bV,JZ,cD,J4,dt,J5,dZ,tC,tD] H=xh C n v0 v1 v2 v3 v4 v5 aY aT bZ fH bq v7 fX bV JZ cD J4 dt J5 dZ tC tD H:=by
 kernel_rfl
def xi (C:ae)(n:Nat)(v0 v1 v2 v3 v4 v5 aY aT bZ fH bq v7 fX bV JZ cD J4 dt J5 dZ tC tD:Value)(H:aa):VH:= mv v0 H λaO H=>af (au aO H) λaN H=>af (ak 2 aN H) λaI H=>af (pS (aq aI H) H) λaM H=>mv aM H λaW H=>af (gd (ag aW false) (ak 0 v7 H) H) λaU H=>af (gd (ag aW false) (pS (aq aU H) H) H) λbf H=>af (gd (ag aW false) (pS (ai Tryz.prog .eql 3 bf (cv 1)) H) H) λaV H=>af (gd (ag aW false) (some (aV,H)) H) λbt H=>af (gd (ag bt true) (ak 1 bV H) H) λbR H=>af (gd (ag bt true) (pS (aq bR H) H) H) λbn H=>af (gd (ag aW false) (aK bt bn (Value.bool false) H) H) λbA H=>af (aK aW (Value.bool true) bA H) λbJ H=>mv bJ H λbM H=>af (gd (ag bM false) (ak 0 v7 H) H) λbU H=>af (gd (ag bM false) (pS (aq bU H) H) H) λb9 H=>af (gd (ag bM false) (pS (ai Tryz.prog .eql 3 b9 (cv 3)) H) H) λcH H=>af (gd (ag bM false) (some (cH,H)) H) λcd H=>af (gd (ag cd true) (ak 1 bV H) H) λbS H=>af (gd (ag cd true) (pS (aq bS H) H) H) λct H=>af (gd (ag cd true) (pS (iC .not ct) H) H) λcP H=>af (gd (ag bM false) (aK cd cP (Value.bool false) H) H) λbP H=>af (aK bM (Value.bool true) bP H) λcr H=>aX cr (af (pS (c8 6 bV H) H) λdx H=>af (bE 6 aY dx H) λbG H=>mv (Value.bool true) H λcp H=>af (pS (c8 6 aY H) H) λr0 _=>some (Value.tuple #[r0,cp],H)) (mv v0 H λdL H=>af (pS (c8 3 v7 H) H) λdr H=>mv v4 H λcS H=>mv bq H λcw H=>mv bZ H λcJ H=>af (ak 1 bV H) λeE H=>af (pS (aq eE H) H) λdE H=>af (C 169 [dL,dr,cS,cw,cJ,dE] H) λeh H=>mv eh H λdK H=>af (cm 0 dK H) λdq H=>af (cm 1 dK H) λdF H=>mv dq H λcT H=>mv dF H λcM H=>mv cM H λeC H=>af (pS (iC .not eC) H) λdS H=>aX dS (af (C 166 [] H) λdQ H=>af (bE 6 aY dQ H) λdR H=>mv (Value.bool true) H λeK H=>af (pS (c8 6 aY H) H) λr0 _=>some (Value.tuple #[r0,eK],H)) (mv v0 H λeW H=>af (au eW H) λdA H=>af (ak 8 dA H) λir H=>af (bE 1 ir (cv 0) H) λdX H=>mv v0 H λgC H=>mv v2 H λiS H=>af (pS (ai Tryz.prog .add 3 iS (cv 2)) H) λgH H=>mv v3 H λeQ H=>mv v4 H λiZ H=>mv cT H λjU H=>af (C 116 [gC,gH,eQ,iZ,jU] H) λia H=>mv ia H λfE H=>mv v0 H λF2 H=>af (au F2 H) λvm H=>af (ak 8 vm H) λF5 H=>af (pS (aq F5 H) H) λD0 H=>af (pS (ai Tryz.prog .gtr 3 D0 (cv 0)) H) λz5 H=>aX z5 (mv v0 H λJL H=>mv v0 H λvn H=>af (au vn H) λAP H=>af (ak 8 AP H) λwX H=>af (pS (aq wX H) H) λwY H=>af (au JL H) λmn H=>af (ak 9 mn H) λfR H=>af (bE 1 fR wY H) λB0 H=>nh C n [v0,v1,v2,v3,v4,v5,aY,aT,bZ,fH,bq,v7,fX,bV,cr,cM,dS,cT,z5,fE,tC,tD] H) (nh C n [v0,v1,v2,v3,v4,v5,aY,aT,bZ,fH,bq,v7,fX,bV,cr,cM,dS,cT,z5,fE,tC,tD] H)))
def pn (C:ae)(n:Nat)(vs:List Value)(H:aa):VH:=xi C n (bF vs 0) (bF vs 1) (bF vs 2) (bF vs 3) (bF vs 4) (bF vs 5) (bF vs 12) (bF vs 13) (bF vs 16) (bF vs 24) (bF vs 14) (bF vs 7) (bF vs 32) (bF vs 15) (bF vs 63) (bF vs 18) (bF vs 77) (bF vs 17) (bF vs 93) (bF vs 19) (bF vs 102) (bF vs 115) H
theorem J8 (C:ae)(n:Nat)(v0 v1 v2 v3 v4 v5 aY aT bZ fH bq v7 fX bV JZ cD J4 dt J5 dZ tC tD:Value)(H:aa):pn C n [v0,v1,v2,v3,v4,v5,aY,aT,bZ,fH,bq,v7,fX,bV,JZ,cD,J4,dt,J5,dZ,tC,tD] H=xi C n v0 v1 v2 v3 v4 v5 aY aT bZ fH bq v7 fX bV JZ cD J4 dt J5 dZ tC tD H:=by
 kernel_rfl
def HA (C:ae)(n:Nat):Mk (Value×aa):= (.seq .leaf (.seq .leaf (.seq .leaf (.seq .leaf (.uX (.seq .leaf (.cond (.seq .leaf (.seq .leaf (.cond .leaf .leaf))) .leaf)) (pn C n) (.seq (.seq .leaf (.cond (.seq .leaf .leaf) .leaf)) (.seq .leaf (.seq (.seq .leaf (.cond (.seq .leaf .leaf) .leaf)) (.seq .leaf (.seq .leaf (.uX (.seq .leaf (.cond .leaf .leaf)) (nh C n) (.seq (.seq .leaf (.cond (.seq .leaf .leaf) .leaf)) (.uX (.seq .leaf (.cond .leaf .leaf)) (ph C n) (.seq .leaf .leaf))))))))))))))
theorem Q3 (C:ae)(n:Nat){c:Code}(hc:Tryz.f167.body=some c):tx Tryz.prog C [0,1,2,3,4,5,12,13,16,24,14,7,32,15,63,18,77,17,93,19,102,115] n (HA C n) c (ef Tryz.prog Tryz.f167.results.toList [0,1,2,3,4,5,12,13,16,24,14,7,32,15,63,18,77,17,93,19,102,115]):=by
 cases hc;exact(And.intro True.intro (And.intro True.intro (And.intro True.intro (And.intro True.intro (And.intro (And.intro True.intro (And.intro (And.intro True.intro (And.intro True.intro (And.intro True.intro True.intro))) True.intro)) (And.intro (And.intro (And.intro True.intro (And.intro (And.intro True.intro True.intro) True.intro)) (And.intro True.intro (And.intro (And.intro True.intro (And.intro (And.intro True.intro True.intro) True.intro)) (And.intro True.intro (And.intro True.intro (And.intro (And.intro True.intro (And.intro True.intro True.intro)) (And.intro (And.intro (And.intro True.intro (And.intro (And.intro True.intro True.intro) True.intro)) (And.intro (And.intro True.intro (And.intro True.intro True.intro)) (And.intro (And.intro True.intro True.intro) (λvs H=>by kernel_rfl)))) (λvs H=>by kernel_rfl)))))))) (λvs H=>by kernel_rfl)))))))
def V5 (C:ae)(n:Nat)(a0 a1 a2 a3 a4 a5:Value)(H:aa):VH:= af (dJ 39 a1 H) λx0 H=>af (some (aS H 47 1 [(cv 0),(Value.bool false),(cv 0),(cv 0),(cv 0),(Value.slice none 0 0)])) λx1 H=>mv (Value.bool false) H λx2 H=>mv (cv 0) H λx3 H=>af (pS (aE Tryz.prog 47 []) H) λx4 H=>af (some (aS H 47 1 [(cv 0),(Value.bool false),(cv 0),(cv 0),(cv 0),(Value.slice none 0 0)])) λx5 H=>af (bE 6 x5 x4 H) λx6 H=>mv a4 H λx7 H=>af (C 57 [x7] H) λx8 H=>af (pS (ai Tryz.prog .eql 3 x8 (cv 2)) H) λx9 H=>mv x9 H λaC H=>mv aC H λz8 H=>aX z8 (mv a0 H λuW H=>mv a4 H λF6 H=>af (C 83 [F6] H) λF7 H=>af (C 139 [uW,F7] H) λD2 H=>mv D2 H λD3 H=>mv D3 H λNx H=>af (ak 1 x0 H) λfN H=>af (pS (aq fN H) H) λF9 H=>af (pS (ai Tryz.prog .eql 2 Nx F9) H) λGb H=>aX Gb (mv D3 H λnf H=>mv a0 H λNy H=>mv a4 H λNz H=>af (C 83 [Nz] H) λNA H=>af (pS (ai Tryz.prog .add 3 NA (cv 1)) H) λJN H=>af (C 139 [Ny,JN] H) λV6 H=>af (pS (aE Tryz.prog 45 [(0,nf),(1,V6)]) H) λV7 H=>af (pS (aE Tryz.prog 47 [(1,(Value.bool true)),(2,V7)]) H) λV8 H=>af (bE 6 x5 V8 H) λaav H=>pn C n [a0,a1,a2,a3,a4,a5,x1,x2,aC,z8,D3,x0,Gb,x5,undef,undef,undef,undef,undef,undef,undef,undef] H) (pn C n [a0,a1,a2,a3,a4,a5,x1,x2,aC,z8,D3,x0,Gb,x5,undef,undef,undef,undef,undef,undef,undef,undef] H)) (pn C n [a0,a1,a2,a3,a4,a5,x1,x2,aC,z8,x3,x0,undef,x5,undef,undef,undef,undef,undef,undef,undef,undef] H)
theorem Q4 (G:ae)(n:Nat)(a0 a1 a2 a3 a4 a5:Value)(H:aa):run G (n+1) 167 [a0,a1,a2,a3,a4,a5] H=V5 (run G n) n a0 a1 a2 a3 a4 a5 H:=by
 unfold run;rw[ao (fn:=Tryz.f167) (keep:=[0,1,2,3,4,5,12,13,16,24,14,7,32,15,63,18,77,17,93,19,102,115]) (av 167 rfl) (by kernel_rfl) (by kernel_rfl)]
 rw[Hr rfl (HA _ n) (Q3 _ n rfl)];kernel_rfl
def V9 (C:ae)(n:Nat)(a0 a1 a2 a3 a4:Value)(H:aa):VH:= mv (Value.bool false) H λx0 H=>mv a1 H λx1 H=>af (C 83 [x1] H) λx2 H=>mv x2 H λx3 H=>mv a1 H λx4 H=>af (C 57 [x4] H) λx5 H=>af (pS (ai Tryz.prog .eql 3 x5 (cv 1)) H) λx6 H=>mv x6 H λx7 H=>aX x7 (mv a0 H λx8 H=>mv x3 H λx9 H=>mv a4 H λaC H=>af (C 170 [x8,x9,(cv 1),aC] H) λaO H=>mv aO H λaN H=>some (aN,H)) (af (pS (ai Tryz.prog .eql 3 x5 (cv 2)) H) λaI H=>mv aI H λaM H=>aX aM (mv a0 H λaW H=>mv x3 H λaU H=>mv a4 H λbf H=>af (C 170 [aW,aU,(cv 2),bf] H) λaV H=>mv aV H λbt H=>af (gd (ag bt true) (some (a0,H)) H) λbR H=>af (gd (ag bt true) (some (x3,H)) H) λbn H=>af (gd (ag bt true) (C 33 [bR,bn] H) H) λbA H=>af (gd (ag bt true) (some (a2,H)) H) λbJ H=>af (gd (ag bt true) (pS (ai Tryz.prog .geq 2 bA bJ) H) H) λbM H=>af (aK bt bM (Value.bool false) H) λbU H=>mv bU H λb9 H=>af (gd (ag b9 true) (some (a0,H)) H) λcH H=>af (gd (ag b9 true) (some (x3,H)) H) λcd H=>af (gd (ag b9 true) (C 33 [cH,cd] H) H) λbS H=>af (gd (ag b9 true) (some (a3,H)) H) λct H=>af (gd (ag b9 true) (pS (ai Tryz.prog .leq 2 bS ct) H) H) λcP H=>af (aK b9 cP (Value.bool false) H) λbP H=>mv bP H λcr H=>some (cr,H)) (af (pS (ai Tryz.prog .eql 3 x5 (cv 3)) H) λdx H=>mv dx H λbG H=>aX bG (mv a0 H λcp H=>mv x3 H λdL H=>mv a2 H λdr H=>mv a3 H λcS H=>mv a4 H λcw H=>af (C 171 [cp,dL,dr,cS,cw] H) λcJ H=>mv cJ H λeE H=>some (eE,H)) (af (pS (ai Tryz.prog .eql 3 x5 (cv 4)) H) λdE H=>mv dE H λeh H=>aX eh (mv a0 H λdK H=>mv x3 H λdq H=>af (C 33 [dK,dq] H) λdF H=>mv dF H λcT H=>mv a0 H λcM H=>mv x3 H λeC H=>mv a4 H λdS H=>af (C 170 [cM,eC,(cv 5),dS] H) λdQ H=>mv dQ H λdR H=>af (gd (ag dR true) (some (cT,H)) H) λeK H=>af (gd (ag dR true) (C 57 [eK] H) H) λeW H=>af (gd (ag dR true) (pS (ai Tryz.prog .eql 3 eW (cv 3)) H) H) λdA H=>af (aK dR dA (Value.bool false) H) λir H=>mv ir H λdX H=>af (gd (ag dX true) (some (a0,H)) H) λgC H=>af (gd (ag dX true) (some (cT,H)) H) λiS H=>af (gd (ag dX true) (some (a2,H)) H) λgH H=>af (gd (ag dX true) (some (a3,H)) H) λeQ H=>af (gd (ag dX true) (some (a4,H)) H) λiZ H=>af (gd (ag dX true) (C 168 [gC,iS,gH,eQ,iZ] H) H) λjU H=>af (aK dX jU (Value.bool false) H) λia H=>mv ia H λfE H=>some (fE,H)) (mv (Value.bool false) H λjV H=>some (jV,H)))))
theorem Q5 (G:ae)(n:Nat)(a0 a1 a2 a3 a4:Value)(H:aa):run G (n+1) 168 [a0,a1,a2,a3,a4] H=V9 (run G n) n a0 a1 a2 a3 a4 H:=by
 unfold run;rw[ao (fn:=Tryz.f168) (keep:=[0,1,2,3,4,10,16,17,11,23,43,51,12]) (av 168 rfl) (by kernel_rfl) (by kernel_rfl)]
 kernel_rfl
end Go.Proofs.YtgfgglponbmgmaaGreat.Fun
end
