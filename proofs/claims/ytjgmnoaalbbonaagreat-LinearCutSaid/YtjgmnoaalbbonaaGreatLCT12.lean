/- Texts of the proof of linearCut_holds, put together by a small program of ours (names shortened, spaces taken out). No condition beyond the given statement. -/
import Derived.Test.YtjgmnoaalbbonaaGreatLCT10
import Derived.Test.YtjgmnoaalbbonaaGreatLCT9
import Derived.Lib.Overlaps
set_option linter.unusedVariables false
set_option linter.unusedSimpArgs false
set_option linter.unnecessarySimpa false
noncomputable section
section
namespace Go.Proofs.YtjgmnoaalbbonaaGreatA.Am
open Go.RowKit (Below)
variable {P:Program} {μ:Mu} {H H':aa} {w:World} {B:Nat}
section
variable {ro:Option Nat} {n:Nat} {o:Oper} {a:Act} {K:Act→World→Prop} {Q:Exit→Act→World→Prop}
theorem pE {v:Value}{w':World}(Tr: ∀c,o.op≠ .defer c)(hr:(execOp a.eval o).run P w= .ok (.value v) w')(hK:K (a.put o.dst v) w'):o.wpIn (FR ro) n P a w K Q:=by
 refine⟨λ_ _=>trivial,?_⟩
 rw[Oper.semAt_eq _ _ _ Tr,hr];exact hK
theorem wp_move {x:Operand}(ho:o.op= .move x)(hK:K (a.put o.dst (a.eval x)) w):o.wpIn (FR ro) n P a w K Q:=
 pE (λc e=>by rw[ho] at e;cases e) (by unfold execOp;rw[ho];rfl) hK
theorem wp_assign {x:Operand}(ho:o.op= .assign x)(hK:K (a.put o.dst (a.eval x)) w):o.wpIn (FR ro) n P a w K Q:=
 pE (λc e=>by rw[ho] at e;cases e) (by unfold execOp;rw[ho];rfl) hK
theorem xm {op:BinOp}{t yt:TypeId}{x y:Operand}{k:IntKind}{m m':Int}{v:Value}(ho:o.op= .binOp op t x y yt)(hx:a.eval x= .int k m)(hy:a.eval y= .int k m')(hv:ai P op t (.int k m) (.int k m')=some v)(hK:K (a.put o.dst v) w):o.wpIn (FR ro) n P a w K Q:=by
 obtain⟨hr,_⟩:=wG (P:=P) (μ:=λ_=>none) (.plain (.int k m) rfl) (.plain (.int k m') rfl) hv x y w
 refine pE (λc e=>by rw[ho] at e;cases e) ?_ hK
 unfold execOp;rw[ho];show Sem.run P (do pure (Next.value (←(do eqGuard op t x y (a.eval x) (a.eval y);binOp op t (a.eval x) (a.eval y):Sem Value)))) w=_
 rw[hx,hy,Sem.run_bind,hr];rfl
theorem UW {x:Operand}{t e:TypeId}{ad:Option Addr}{m c:Nat}(ho:o.op= .call {callee:=.builtin .cap,args:=#[x],argTypes:=#[t]})(ht:P.underlying t=some (.slice e))(hx:a.eval x= .slice ad m c)(hK:K (a.put o.dst (.int .i64 c)) w):o.wpIn (FR ro) n P a w K Q:=by
 refine pE (λc e=>by rw[ho] at e;cases e) ?_ hK
 unfold execOp;rw[ho];simp[resolve,invoke,builtin,hx,Builtin.cap_,run_underlying ht,goInt]
theorem Gw {x h:Operand}{t e:TypeId}{A:Addr}{m c size:Nat}{k:Int}(ho:o.op= .slice t x none (some h) none)(ht:P.underlying t=some (.slice e))(hz:il P e=some size)(hx:a.eval x= .slice (some ⟨A.block,A.off,none⟩) m c)(hh:a.eval h= .int .i64 k)(h0:0≤k)(h1:k≤c)(hc:c≠0)(hK:K (a.put o.dst (.slice (some ⟨A.block,A.off,none⟩) k.toNat c)) w):o.wpIn (FR ro) n P a w K Q:=by
 refine pE (λc e=>by rw[ho] at e;cases e) ?_ hK
 unfold execOp;rw[ho];have hb:=iF (P:=P) (k:=.i64) (n:=k) (y:=c) (c:=.sliceAcap) h0 h1 w;simp[hx,hh,Instr.sliceAt,Instr.slice,run_underlying ht,Instr.sliceBounds,hb,eh hz,hc,ir]
theorem cF {ops:Array Oper}{r:List Oper}(hg:o.guard=none)(h:o.wpIn (FR ro) n P a w (λa' w'=>wpListIn (FR ro) n P ops Q r a' w') Q):wpListIn (FR ro) n P ops Q (o::r) a w:=by
 unfold wpListIn;rw[if_pos (by simp[Region.wanted,hg])]
 exact h
end
theorem bD {a:Act}{d:Nat}{v:Value}(h:d<a.tmps.size):(a.put (some d) v).eval (.tmp d)=v:=by
 simp[Act.eval,Act.put,h]
theorem aF {a:Act}{d t:Nat}{v:Value}(h:t≠d):(a.put (some d) v).eval (.tmp t)=a.eval (.tmp t):=by
 simp[Act.eval,Act.put,Array.getD_eq_getD_getElem?,Array.getElem?_setIfInBounds_ne (Ne.symm h)]
theorem Nk {tmps:Array Value}:fi μ (Env.get []) tmps:=λt=>by simp[Env.get];exact .kI _
theorem gC {tmps:Array Value}{k:Nat}{v:Value}{l:Env}(h:VR μ v (tmps.getD k undef))(hl:fi μ (Env.get l) tmps):fi μ (Env.get ((k,v)::l)) tmps:=λt=>by
 simp only[Env.get];split
 ·rename_i e;subst e;exact h
 ·exact hl t
theorem cQ.UX (h:cQ P μ H w B){i:Nat}{b:eu}{l:Loc}(hb:H.get i=some b)(fm:b.ro=false)(hl:μ i=some l){cs:Array Value}{ty:TypeId}{fz:Nat×Nat}(kj:w.heap[l.b]? =some (.cells cs ty fz))(eR:l.o+b.cells.length<cs.size): ∃v,cQ P μ (H.put i {b with cells:=b.cells++[v]}) w B:=by
 obtain⟨l',e,k⟩:=h.ok i b hb;rw[hl] at e;cases e;obtain⟨Mm,mo,Qo,h1,h2,h3,h4,h5⟩:=k.row;rw[kj] at h1;cases h1;have hv:cs[l.o+b.cells.length]? =some cs[l.o+b.cells.length]:=Array.getElem?_eq_getElem eR;have hp:=k.spare fm cs ty fz kj _ _ (Nat.le_refl _) hv;refine⟨cs[l.o+b.cells.length],h.put hb fm hl (λ_ _=>rfl) rfl fm ⟨k.es,?_,?_,cs,ty,fz,kj,h2,h3,by simp;omega,?_⟩⟩
 ·rw[List.all_append,k.one];simp only[List.all_cons,List.all_nil,Bool.and_true,Bool.true_and];revert hp
  generalize cs[l.o+b.cells.length]=v
  intro hp;cases v<;>first|rfl| (simp[bY] at hp)
 ·intro _ cs3 ZH fz3 h6 j v hj u9;simp only[List.length_append,List.length_cons,List.length_nil] at hj;exact k.spare fm cs3 ZH fz3 h6 j v (by omega) u9
 ·simp only[List.length_append,List.length_cons,List.length_nil,Nat.zero_add];have e:(cs.toList.drop l.o).take (b.cells.length+1)=(cs.toList.drop l.o).take b.cells.length++[cs[l.o+b.cells.length]]:=by
   rw[List.take_add_one,List.getElem?_drop,Array.getElem?_toList,hv];rfl
  rw[e];exact h5.append (.cons (.plain _ hp) .nil)
theorem cQ.aai (h:cQ P μ H w B){i:Nat}{b:eu}{l:Loc}(hb:H.get i=some b)(fm:b.ro=false)(hl:μ i=some l)(m:Nat)(ty:TypeId)(hp:(b.cells.drop m).all bY=true):
  μ.le (μ.up H.length l)∧cQ P (μ.up H.length l) ((H.kill i).new ⟨b.cells.take m,ty,b.es,false⟩) w B:=by
 obtain⟨l',e,k⟩:=h.ok i b hb;rw[hl] at e;cases e;obtain⟨cs,mo,fz,h1,h2,h3,h4,h5⟩:=k.row;have hm:(b.cells.take m).length≤b.cells.length:=by simp;omega
 refine h.move hb fm hl rfl (λ_ _=>rfl) rfl ⟨k.es,?_,?_,cs,mo,fz,h1,h2,λ_=>h3 fm,by simp only at hm ⊢;omega,?_⟩
 ·have:=k.one
  rw[List.all_eq_true] at this ⊢;exact λx hx=>this x (List.mem_of_mem_take hx)
 ·intro _ cs3 ZH fz3 h6 j v hj u9;rw[h1] at h6;cases h6;simp only[List.length_take] at hj;by_cases hjb:j<l.o+b.cells.length
  ·
   have QG:j-l.o<b.cells.length:=by omega
   obtain⟨v',vM,hr⟩:=h5.2 (j-l.o) b.cells[j-l.o] (List.getElem?_eq_getElem QG);rw[List.getElem?_take,if_pos QG,List.getElem?_drop,show l.o+(j-l.o)=j by omega,Array.getElem?_toList,u9] at vM
   cases vM;have BQ:bY b.cells[j-l.o]=true:=by
    rw[List.all_eq_true] at hp;refine hp _ ?_;rw[List.mem_iff_getElem?];exact⟨j-l.o-m,by rw[List.getElem?_drop,show m+(j-l.o-m)=j-l.o by omega,List.getElem?_eq_getElem QG]⟩
   revert hr BQ
   generalize b.cells[j-l.o]=u
   intro hr BQ;cases hr<;>first|exact BQ| (simp[bY] at BQ;done)|skip
   all_goals simp[bY] at BQ
  ·exact k.spare fm cs mo fz h1 j v (by omega) u9
 ·have:=h5.take m
  rw[List.take_take] at this;simpa[Nat.min_comm] using this
abbrev EA:List Nat:=[0,1,2,6,7,16,8,22,31,9,68]
def xo (P:Program)(tE tI by_:Nat)(v0 v1 v2 v8 dY fL v9 fe:Value)(H:aa):aV:=
 af (some ((Value.slice none 0 0),H)) λx0 H=>
 af (some (v0,H)) λx1 H=>
 af (some (v1,H)) λx2 H=>
 af (pS (eo 1 H x1 (some x2) none) H) λ_ H=>
 af (some (v2,H)) λx4 H=>
 af (pS (cw x4) H) λx5 H=>
 af (some (x5,H)) λx6 H=>
 af (some (x6,H)) λx7 H=>
 af (pS (ai P .eql tI x7 (Value.int .i64 (0))) H) λx8 H=>
 aR x8 (af (some (v0,H)) λx9 H=>
 af (some (x9,H)) λaG H=>
 fin .ret [v0,v1,v2,aG,x6,x8,v8,dY,fL,v9,fe] H) (
 af (some (v0,H)) λaN H=>
 af (pS (cw aN) H) λaK H=>
 af (some (aK,H)) λaJ H=>
 af (some (v1,H)) λaP H=>
 af (some (aJ,H)) λaT H=>
 af (pS (ai P .eql tI aP aT) H) λaX H=>
 aR aX (af (some (v0,H)) λaU H=>
 af (some (v2,H)) λbn H=>
 af (cg tE 1 by_ aU bn H) λbF H=>
 af (some (bF,H)) λcd H=>
 fin .ret [v0,v1,v2,cd,x6,x8,aJ,aX,fL,v9,fe] H) (
 fin .normal [v0,v1,v2,x0,x6,x8,aJ,aX,fL,v9,fe] H))
def HP (P:Program)(tS tI:Nat)(v0 v1 v2 v7 bZ v8 dY fL v9 fe:Value)(H:aa):aV:=
 af (some (v9,H)) λx0 H=>
 af (some (v1,H)) λx1 H=>
 af (pS (eo 1 H x0 (some x1) none) H) λx2 H=>
 af (some (v2,H)) λx3 H=>
 af (n7 P #[tS,tS] x2 x3 H) λ_ H=>
 af (some (v9,H)) λx5 H=>
 af (some (v1,H)) λx6 H=>
 af (some (v7,H)) λx7 H=>
 af (pS (ai P .add tI x6 x7) H) λx8 H=>
 af (pS (eo 1 H x5 (some x8) none) H) λx9 H=>
 af (some (v0,H)) λaG H=>
 af (some (v1,H)) λaN H=>
 af (pS (eo 1 H aG (some aN) none) H) λaK H=>
 af (n7 P #[tS,tS] x9 aK H) λ_ H=>
 af (some (v9,H)) λaP H=>
 af (some (aP,H)) λaT H=>
 fin .ret [v0,v1,v2,aT,v7,bZ,v8,dY,fL,v9,fe] H
def HQ (P:Program)(tI:Nat)(v0 v1 v2 v6 v7 bZ v8 dY fL v9 fe:Value)(H:aa):aV:=
 af (some (v0,H)) λx0 H=>
 af (some (v8,H)) λx1 H=>
 af (some (v7,H)) λx2 H=>
 af (pS (ai P .add tI x1 x2) H) λx3 H=>
 af (pS (eo 1 H x0 none (some x3)) H) λx4 H=>
 af (some (x4,H)) λx5 H=>
 fin .normal [x5,v1,v2,v6,v7,bZ,v8,dY,fL,v9,fe] H
def EB (P:Program)(tS tI:Nat)(v0 v1 v2 v7 bZ v8 dY fL v9 fe:Value)(H:aa):aV:=
 af (some (v0,H)) λx0 H=>
 af (some (v1,H)) λx1 H=>
 af (some (v7,H)) λx2 H=>
 af (pS (ai P .add tI x1 x2) H) λx3 H=>
 af (pS (eo 1 H x0 (some x3) none) H) λx4 H=>
 af (some (v0,H)) λx5 H=>
 af (some (v1,H)) λx6 H=>
 af (pS (eo 1 H x5 (some x6) none) H) λx7 H=>
 af (n7 P #[tS,tS] x4 x7 H) λ_ H=>
 af (some (v0,H)) λx9 H=>
 af (some (v1,H)) λaG H=>
 af (pS (eo 1 H x9 (some aG) none) H) λaN H=>
 af (some (v2,H)) λaK H=>
 af (n7 P #[tS,tS] aN aK H) λ_ H=>
 af (some (v0,H)) λaP H=>
 af (some (aP,H)) λaT H=>
 fin .ret [v0,v1,v2,aT,v7,bZ,v8,dY,fL,v9,fe] H
def jy:List Oper→List (Op×Nat)→Prop
 | [],[]=>True
 |o::r,(p,d)::s=>(o.op=p∧o.dst=some d∧o.guard=none)∧jy r s
 |_,_=>False
theorem bK {l:List Oper}{p:Op}{d:Nat}{s:List (Op×Nat)}(h:jy l ((p,d)::s)): ∃o r,l=o::r∧o.op=p∧o.dst=some d∧o.guard=none∧jy r s:=by
 cases l with
 |nil=>exact h.elim
 |cons o r=>exact⟨o,r,rfl,h.1.1,h.1.2.1,h.1.2.2,h.2⟩
theorem rE {l:List Oper}(h:jy l []):l=[]:=by
 cases l with
 |nil=>rfl
 |cons o r=>exact h.elim
structure Nl (P:Program) (fo:FuncId) (tS tB:Nat):Prop where
 ext: ∃Zf,P.funcs[fo]? =some Zf∧(Zf.name== "runtime.NumGoroutine")=false∧Zf.body.isNone=true∧Extern.findNext Zf=none∧Extern.find Zf=some (Extern.SlicesOverlaps.overlaps #[tS,tS] #[tB])
structure vQ (P:Program) (f fo:FuncId) (tS tE tI tB by_:Nat):Prop where
 mixed:P.follows .mixedOrders=true
 uS:P.underlying tS=some (.slice tE)
 zE:il P tE=some 1
 bE:mJ P tE=some by_
 UY:by_≤4096
 uI:P.underlying tI=some (.int .i64)
 QH:Nl P fo tS tB
 code: ∃(fn:Func) (p6 UZ p8:Nat) (o6 Qa o8:Array Oper) (a1 a2 a3 a4 a5 a6 gr r6 sh tl:Code) (z:Value),
  P.funcs[f]? =some fn∧(fn.name== "runtime.NumGoroutine")=false∧fn.results= #[.tmp 6]∧fn.ntmps=95∧zeroOf P tE=some z∧
  fn.body=some (.seq a1 (.seq a2 (.seq a3 (.seq a4 (.seq a5 (.seq a6 (.seq (.seq (.region p6 o6 false) (.cond (.tmp 31) (.seq (.region UZ Qa false) gr) .skip))
   (.seq r6 (.seq (.seq (.region p8 o8 false) (.cond (.tmp 68) sh .skip)) tl)))))))))∧
  eX P 95 (.seq a1 (.seq a2 (.seq a3 (.seq a4 (.seq a5 (.seq a6 (.seq (.seq (.region p6 o6 false) (.cond (.tmp 31) (.seq (.region UZ Qa false) gr) .skip))
   (.seq r6 (.seq (.seq (.region p8 o8 false) (.cond (.tmp 68) sh .skip)) tl)))))))))=true∧
  jy o6.toList [(.move (.tmp 8),26),(.move (.tmp 7),27),(.binOp .add tI (.tmp 26) (.tmp 27) tI,28),(.move (.tmp 0),29),(.call {callee:=.builtin .cap,args:=#[.tmp 29],argTypes:=#[tS]},30),(.binOp .gtr tI (.tmp 28) (.tmp 30) tI,31)]∧
  jy Qa.toList [(.move (.tmp 0),32),(.move (.tmp 1),33),(.slice tS (.tmp 32) none (some (.tmp 33)) none,34),(.move (.tmp 8),35),(.move (.tmp 7),36),(.binOp .add tI (.tmp 35) (.tmp 36) tI,37),(.move (.tmp 1),38),(.binOp .sub tI (.tmp 37) (.tmp 38) tI,39),(.call {callee:=.builtin .append,args:=#[.tmp 34,.tmp 39],argTypes:=#[tS,tI]},40),(.assign (.tmp 40),9)]∧
  jy o8.toList [(.move (.tmp 2),61),(.move (.tmp 0),62),(.move (.tmp 1),63),(.move (.tmp 7),64),(.binOp .add tI (.tmp 63) (.tmp 64) tI,65),(.slice tS (.tmp 62) (some (.tmp 65)) none none,66),(.call {callee:=.value (.func fo),args:=#[.tmp 61,.tmp 66],argTypes:=#[tS,tS]},67),(.unOp .not tB (.tmp 67),68)]∧
  (∀v0 v1 v2 v6 v7 bZ v8 dY fL v9 fe H,ev P Mt EA 0 (.seq a1 (.seq a2 (.seq a3 (.seq a4 (.seq a5 a6))))) [v0,v1,v2,v6,v7,bZ,v8,dY,fL,v9,fe] H=xo P tE tI by_ v0 v1 v2 v8 dY fL v9 fe H)∧
  (∀v0 v1 v2 v6 v7 bZ v8 dY fL v9 fe H,ev P Mt EA 0 gr [v0,v1,v2,v6,v7,bZ,v8,dY,fL,v9,fe] H=HP P tS tI v0 v1 v2 v7 bZ v8 dY fL v9 fe H)∧
  (∀v0 v1 v2 v6 v7 bZ v8 dY fL v9 fe H,ev P Mt EA 0 r6 [v0,v1,v2,v6,v7,bZ,v8,dY,fL,v9,fe] H=HQ P tI v0 v1 v2 v6 v7 bZ v8 dY fL v9 fe H)∧
  (∀v0 v1 v2 v6 v7 bZ v8 dY fL v9 fe H,ev P Mt EA 0 sh [v0,v1,v2,v6,v7,bZ,v8,dY,fL,v9,fe] H=EB P tS tI v0 v1 v2 v7 bZ v8 dY fL v9 fe H)
def Nm:List Code→Code→Code
 | [],y=>y
 |c::r,y=>.seq c (Nm r y)
theorem nK {ro:Option Nat}{rm:Nat}{C:ae}{keep:List Nat}{N n:Nat}{last y:Code}{r:bJ×List Value×aa}{Q:Exit→Act→World→Prop}(hC:vf P B C)(hm:P.follows .mixedOrders=true):
  ∀(l:List Code) (vs:List Value) (H:aa) (μ:Mu) (a:Act) (w:World),(∀l₀,ro=some l₀→∃r,w.heap[l₀]? =some (.loop r))→(∀c∈l,eX P N c=true)→eX P N last=true→ev P C keep n (Nm l last) vs H=some r→
   N≤a.tmps.size→cQ P μ H w B→fi μ (Env.get (keep.zip vs)) a.tmps→
   (r.1= .normal→∀a' w',Cb P B keep μ a w r .normal a' w'→y.wpIn (FR ro) rm P Q a' w')→(r.1≠ .normal→∀a' w',Cb P B keep μ a w r (rC r.1) a' w'→Q (rC r.1) a' w')→
   (Nm l (.seq last y)).wpIn (FR ro) rm P Q a w:=by
 intro l;induction l with
 |nil=>
  intro vs H μ a w fm _ fP h hN hS hE k1 k2;refine wpIn_seq (wpIn_mono (jl hC hm last vs H r μ a w fm fP h hN hS hE) ?_);intro e a' w' hp;have he:=hp.1;subst he;cases hr:r.1 with
  |normal=>rw[hr] at hp;exact k1 hr a' w' hp
  |ret=>have:=k2 (by rw[hr];simp) a' w' hp;rw[hr] at this;exact this
  |exit id=>have:=k2 (by rw[hr];simp) a' w' hp;rw[hr] at this;exact this
 |cons c l ih=>
  intro vs H μ a w fm lK fP h hN hS hE k1 k2;simp only[Nm,ev] at h;cases hx:ev P C keep n c vs H with
  |none=>rw[hx] at h;cases h
  |some q=>
   obtain⟨e1,Ed,H1⟩:=q;rw[hx] at h;refine wpIn_seq (wpIn_mono (jl hC hm c vs H _ μ a w fm (lK c (by simp)) hx hN hS hE) ?_)
   intro e a1 w1 hp;have he:=hp.1;subst he;have Cd:=hp;obtain⟨_,μ1,h1,h2,h3,h4,h5,h6⟩:=hp;cases e1 with
   |normal=>
    simp only at h;exact ih Ed H1 μ1 a1 w1 (M7 fm h6) (λc hc=>lK c (by simp[hc])) fP h (by rw[h4];exact hN) h5 h2
     (λhr a' w' hq=>k1 hr a' w' (hq.trans h1 h3 h4 h6)) (λhr a' w' hq=>k2 hr a' w' (hq.trans h1 h3 h4 h6))
   |ret=>simp only at h;cases h;exact k2 (by simp) a1 w1 Cd
   |exit id=>simp only at h;cases h;exact k2 (by simp) a1 w1 Cd
theorem rF:vf P B Mt:=⟨λ_ _ _ _ _ h=>by simp[Mt] at h,Na⟩
def An (tE:Nat)(args:List Value)(H:aa):Option (Value×aa):=
 match args with
 | [.slice base len cap,.int .i64 i,.slice (some ⟨j,jo,none⟩) 1 _]=>
  match H.get j,aw H j jo 1 with
  |some bj,some [x]=>
   if bj.ro=false∧bj.es=1∧0≤i∧i≤len∧len<4294967296 then
    match base with
    |none=>if len=0∧cap=0 then some (.slice (some ⟨H.length,0,none⟩) 1 1,H.new ⟨[x],tE,1,false⟩) else none
    |some ⟨b,0,none⟩=>match H.get b with
     |some bb=>if bb.ro=false∧bb.es=1∧b≠j∧bb.cells.length=cap∧len≤cap∧(bb.cells.drop len).all bY=true then
       some (.slice (some ⟨H.length,0,none⟩) (len+1) (len+1),(H.kill b).new ⟨(bb.cells.take len).take i.toNat++x::(bb.cells.take len).drop i.toNat,tE,1,false⟩) else none
     |none=>none
    |_=>none
   else none
  |_,_=>none
 |_=>none
theorem JC {tE:Nat}{args:List Value}{i:Nat}{b:eu}:Up i b H (An tE args H) (An tE args (H.lay i b)):=by
 intro hf v H' h;unfold An at h ⊢;split at h
 case h_2=>cases h
 split at h
 case h_2=>cases h
 rename_i bj x h1 h2;rw[lV hf h1,lX hf h2];simp only;split at h
 case isFalse=>cases h
 rename_i hc;rw[if_pos hc];split at h
 ·split at h
  ·rename_i h0;cases h;rw[if_pos h0];exact⟨hf.new _,by rw[nE hf,jc]⟩
  ·cases h
 ·split at h
  ·rename_i bb hb;rw[lV hf hb];simp only;split at h
   ·rename_i h0;cases h;rw[if_pos h0];have hk:cJ (H.kill _) i:=hf.set (hf.ub hb) _;exact⟨hk.new _,by rw[wS (hf.ub hb),nE hk,jc]⟩
   ·cases h
  ·cases h
 ·cases h
theorem QI {fn:Func}{μ':Mu}{a0 a':Act}{w0 w':World}{v:Value}{Hf:aa}(Ah:fn.results= #[.tmp 6])(hd:a0.defers=[])(hM:Marks w0 w' a0 a')(hle:μ.le μ')(hS0:B≤w0.heap.size)(hS:cQ P μ' Hf w' B)(hB:fI B w0 w')(aaj: ∀Ad,cQ P μ' Hf Ad B→∃mR,μ'.le mR∧cQ P mR H' Ad B∧VR mR v (a'.tmps.getD 6 undef)):bodyPostM (FR none) 0 P fn (Be P B μ w0 v H') .ret a' w':=by
 obtain⟨Ds,d1,d2,d3⟩:=hM;rw[hd,List.append_nil] at d1;show LeavesInM (FR none) 0 P fn a'.tmps _ a'.defers .returning w'
 rw[d1];refine sK hS0 Ds w' d2 d3 hS hB ?_;intro Ad h1 h2;obtain⟨mR,g1,g2,g3⟩:=aaj Ad h1;exact⟨_,results_tmp Ah _ P Ad,_,mR,rfl,Mu.le_trans hle g1,g3,g2,h2⟩
section
variable {tE tI tS by_ b j jo vc len cap:Nat} {i:Int} {bb bj:eu} {x v8 dY fL v9 fe:Value}
theorem JD (hb:H.get b=some bb)(zT:bb.es=1)(h0:0≤i)(h1:i<len)(h2:len≤cap):
  xo P tE tI by_ (.slice (some ⟨b,0,none⟩) len cap) (.int .i64 i) (.slice (some ⟨j,jo,none⟩) 1 vc) v8 dY fL v9 fe H=
   some (.normal,[.slice (some ⟨b,0,none⟩) len cap,.int .i64 i,.slice (some ⟨j,jo,none⟩) 1 vc,.slice none 0 0,.int .i64 1,.bool false,.int .i64 len,.bool false,fL,v9,fe],H):=by
 have e:(i==(len:Int))=false:=by simp;omega
 have e1:i≤(len:Int):=by omega
 simp[xo,eo,cV,kZ,cw,ai,jv,hb,zT,fin,e,h0,h2,e1]
theorem JE (hb:H.get b=some bb)(zT:bb.es=1)(h2:len≤cap):
  xo P tE tI by_ (.slice (some ⟨b,0,none⟩) len cap) (.int .i64 len) (.slice (some ⟨j,jo,none⟩) 1 vc) v8 dY fL v9 fe H=
   af (cg tE 1 by_ (.slice (some ⟨b,0,none⟩) len cap) (.slice (some ⟨j,jo,none⟩) 1 vc) H) λr H=>
   some (.ret,[.slice (some ⟨b,0,none⟩) len cap,.int .i64 len,.slice (some ⟨j,jo,none⟩) 1 vc,r,.int .i64 1,.bool false,.int .i64 len,.bool true,fL,v9,fe],H):=by
 simp[xo,eo,cV,kZ,cw,ai,jv,hb,zT,fin,h2]
theorem JF:
  xo P tE tI by_ (.slice none 0 0) (.int .i64 0) (.slice (some ⟨j,jo,none⟩) 1 vc) v8 dY fL v9 fe H=
   af (cg tE 1 by_ (.slice none 0 0) (.slice (some ⟨j,jo,none⟩) 1 vc) H) λr H=>
   some (.ret,[.slice none 0 0,.int .i64 0,.slice (some ⟨j,jo,none⟩) 1 vc,r,.int .i64 1,.bool false,.int .i64 0,.bool true,fL,v9,fe],H):=by
 simp[xo,eo,cV,kZ,cw,ai,jv,fin]
theorem QJ (h:aw H j jo 1=some [x])(Tp:by_≤4096):cg tE 1 by_ (.slice none 0 0) (.slice (some ⟨j,jo,none⟩) 1 vc) H=some (.slice (some ⟨H.length,0,none⟩) 1 1,H.new ⟨[x],tE,1,false⟩):=by
 simp[cg,bq,h,Tp]
theorem Nn (h:aw H j jo 1=some [x])(hx:av x=true)(hb:H.get b=some bb)(zT:bb.es=1)(fm:bb.ro=false)(hl:bb.cells.length=cap)(h2:len+1≤cap):
  cg tE 1 by_ (.slice (some ⟨b,0,none⟩) len cap) (.slice (some ⟨j,jo,none⟩) 1 vc) H=some (.slice (some ⟨b,0,none⟩) (len+1) cap,H.put b {bb with cells:=bb.cells.set len x}):=by
 simp[cg,bq,h,h2,hb,zT,bl,fm,hl,hx,bB]
theorem No (h:aw H j jo 1=some [x])(hb:H.get b=some bb)(zT:bb.es=1)(fm:bb.ro=false)(hl:bb.cells.length=len)(Tp:by_≤4096)(hlen:len<4294967296):
  cg tE 1 by_ (.slice (some ⟨b,0,none⟩) len len) (.slice (some ⟨j,jo,none⟩) 1 vc) H=some (.slice (some ⟨H.length,0,none⟩) (len+1) (len+1),(H.kill b).new ⟨bb.cells++[x],tE,1,false⟩):=by
 have e:len+1≤4294967296:=by omega
 have e2:aw H b 0 len=some bb.cells:=by
  simp[aw,hb,hl];rw[←hl];simp
 simp[cg,bq,h,hb,zT,fm,hl,Tp,e,e2]
theorem Np (hb:H.get b=some bb)(zT:bb.es=1)(h2:len+1≤cap)(hlen:len<4294967296){v1 v2 v6 bZ dY:Value}:
  HQ P tI (.slice (some ⟨b,0,none⟩) len cap) v1 v2 v6 (.int .i64 1) bZ (.int .i64 len) dY fL v9 fe H=
   some (.normal,[.slice (some ⟨b,0,none⟩) (len+1) cap,v1,v2,v6,.int .i64 1,bZ,.int .i64 len,dY,fL,v9,fe],H):=by
 have e:IntKind.i64.wrap ((len:Int)+1)=len+1:=by rw[IntKind.wrap_i64];omega
 have e2:((len:Int)+1)≤cap:=by omega
 have e3:(0:Int)≤(len:Int)+1:=by omega
 have e4:((len:Int)+1).toNat=len+1:=by omega
 simp[HQ,ai,jv,e,eo,cV,kZ,hb,zT,e2,e3,e4,fin]
end
theorem JG {cs:List Value}{x:Value}{i len:Nat}(hi:i≤len)(hl:len+1≤cs.length):
  ((bB (bB cs (i+1) ((cs.drop i).take (len-i))) i [x]).take (len+1)=(cs.take len).take i++x::(cs.take len).drop i)∧(bB (bB cs (i+1) ((cs.drop i).take (len-i))) i [x]).drop (len+1)=cs.drop (len+1)∧
  (bB (bB cs (i+1) ((cs.drop i).take (len-i))) i [x]).length=cs.length:=by
 have h1:((cs.drop i).take (len-i)).length=len-i:=by simp;omega
 have l1:(bB cs (i+1) ((cs.drop i).take (len-i))).length=cs.length:=fT (by rw[h1];omega)
 have l2:(bB (bB cs (i+1) ((cs.drop i).take (len-i))) i [x]).length=cs.length:=by rw[fT (by simp only[l1,List.length_singleton];omega),l1]
 have e1:bB cs (i+1) ((cs.drop i).take (len-i))=cs.take (i+1)++((cs.drop i).take (len-i)++cs.drop (len+1)):=by
  rw[iE _ _ _ (by rw[h1];omega),h1,List.append_assoc,show i+1+(len-i)=len+1 by omega]
 have t1:(bB cs (i+1) ((cs.drop i).take (len-i))).take i=cs.take i:=by
  rw[e1,List.take_append_of_le_length (by simp;omega),List.take_take,Nat.min_eq_left (by omega)]
 have d1:(bB cs (i+1) ((cs.drop i).take (len-i))).drop (i+1)=(cs.drop i).take (len-i)++cs.drop (len+1):=by
  rw[e1];exact List.drop_left' (by simp;omega)
 have e2:bB (bB cs (i+1) ((cs.drop i).take (len-i))) i [x]=(cs.take i++x::(cs.drop i).take (len-i))++cs.drop (len+1):=by
  rw[iE _ _ _ (by simp only[l1,List.length_singleton];omega),t1,List.length_singleton,d1];simp
 have l3:(cs.take i++x::(cs.drop i).take (len-i)).length=len+1:=by simp;omega
 refine⟨?_,?_,l2⟩
 ·rw[e2,List.take_left' l3,List.take_take,Nat.min_eq_left hi,List.drop_take]
 ·rw[e2,List.drop_left' l3]
section
variable {tE tI tS by_ b j jo vc len cap i:Nat} {bb bj:eu} {x v6 bZ dY fL v9 fe:Value}
theorem Nq {c d:eu}:(H.put b c).put b d=H.put b d:=by simp[aa.put]
theorem Nr {cs:List Value}{ty:TypeId}(uS:P.underlying tS=some (.slice tE))(zE:il P tE=some 1)(hb:H.get b=some ⟨cs,ty,1,false⟩)(hl:cs.length=cap)(jF:cs.all av=true)(hi:i<len)(h2:len+1≤cap)(hlen:len<4294967296)(Mx:b≠j)(hx:aw H j jo 1=some [x])(B9:av x=true):
  EB P tS tI (.slice (some ⟨b,0,none⟩) (len+1) cap) (.int .i64 i) (.slice (some ⟨j,jo,none⟩) 1 vc) (.int .i64 1) bZ (.int .i64 len) dY fL v9 fe H=
   some (.ret,[.slice (some ⟨b,0,none⟩) (len+1) cap,.int .i64 i,.slice (some ⟨j,jo,none⟩) 1 vc,.slice (some ⟨b,0,none⟩) (len+1) cap,.int .i64 1,bZ,.int .i64 len,dY,fL,v9,fe],
    H.put b ⟨bB (bB cs (i+1) ((cs.drop i).take (len-i))) i [x],ty,1,false⟩):=by
 have e:IntKind.i64.wrap ((i:Int)+1)=i+1:=by rw[IntKind.wrap_i64];omega
 have e1:(0:Int)≤(i:Int)+1:=by omega
 have e2:((i:Int)+1).toNat=i+1:=by omega
 have e3:(i:Int)+1≤(len:Int)+1:=by omega
 have q1:aw H b i (len-i)=some ((cs.drop i).take (len-i)):=by
  simp only[aw,hb];rw[if_pos (by omega)]
 have lK:((cs.drop i).take (len-i)).length=len-i:=by simp;omega
 have U0:((cs.drop i).take (len-i)).all av=true:=by
  rw[List.all_eq_true] at jF ⊢;exact λy hy=>jF y (List.mem_of_mem_drop (List.mem_of_mem_take hy))
 have U1:i+1+(len-i)≤cap:=by omega
 have q2:bl H b (i+1) ((cs.drop i).take (len-i))=some (H.put b ⟨bB cs (i+1) ((cs.drop i).take (len-i)),ty,1,false⟩):=by
  simp only[bl,hb,lK,U0,hl,U1,Bool.not_false,decide_true,Bool.and_self,if_true]
 have A7:=aa.an hb;have oz:(bB cs (i+1) ((cs.drop i).take (len-i))).length=cap:=by rw[fT (by rw[lK];omega),hl]
 generalize bB cs (i+1) ((cs.drop i).take (len-i))=S1 at q2 oz ⊢
 have q3:(H.put b ⟨S1,ty,1,false⟩).get b=some ⟨S1,ty,1,false⟩:=aa.eC A7;have q4:aw (H.put b ⟨S1,ty,1,false⟩) j jo 1=some [x]:=by
  simp only[aw,aa.aS (Ne.symm Mx)] at hx ⊢;exact hx
 have JB:i+1≤cap:=by omega
 have q5:bl (H.put b ⟨S1,ty,1,false⟩) b i [x]=some (H.put b ⟨bB S1 i [x],ty,1,false⟩):=by
  simp only[bl,q3,oz,B9,JB,Bool.not_false,decide_true,Bool.and_self,if_true,List.length_singleton,List.all_cons,List.all_nil,Nq]
 have m1:min (len+1-i) (len+1-(i+1))=len-i:=by omega
 have m2:min 1 (len+1-i)=1:=by omega
 have n0: ¬len-i=0:=by omega
 have k1:i≤len+1:=by omega
 have k2:i+1≤len+1:=by omega
 have k3:i≤len:=by omega
 have k4: ¬len+1-i=0:=by omega
 have k5: ¬(len+1-i=0∨len-i=0):=by omega
 simp[EB,h2,k1,k4,ai,jv,e,eo,cV,kZ,hb,e1,e2,e3,fin,n7,uS,zE,bq,m2,q1,q2,q3,q4,q5,n0]
theorem Ns {cs:List Value}{ty:TypeId}{z:List Value}{dY fL fe:Value}(uS:P.underlying tS=some (.slice tE))(zE:il P tE=some 1)(hb:H.get b=some ⟨cs,ty,1,false⟩)(hl:len≤cs.length)(jF:cs.all av=true)(hi:i<len)(hlen:len<4294967296)(hz:z.length=len+1)(hzp:z.take i=cs.take i)(rp:len≤cap)(Um:cap≤cs.length)(hx:aw H j jo 1=some [x])(B9:av x=true):
  HP P tS tI (.slice (some ⟨b,0,none⟩) len cap) (.int .i64 i) (.slice (some ⟨j,jo,none⟩) 1 vc) (.int .i64 1) bZ (.int .i64 len) dY fL (.slice (some ⟨H.length,0,none⟩) (len+1) (len+1)) fe (H.new ⟨z,tE,1,false⟩)=
   some (.ret,[.slice (some ⟨b,0,none⟩) len cap,.int .i64 i,.slice (some ⟨j,jo,none⟩) 1 vc,.slice (some ⟨H.length,0,none⟩) (len+1) (len+1),.int .i64 1,bZ,.int .i64 len,dY,fL,.slice (some ⟨H.length,0,none⟩) (len+1) (len+1),fe],
    H.new ⟨(cs.take len).take i++x::(cs.take len).drop i,tE,1,false⟩):=by
 have e:IntKind.i64.wrap ((i:Int)+1)=i+1:=by rw[IntKind.wrap_i64];omega
 have e1:(0:Int)≤(i:Int)+1:=by omega
 have e2:((i:Int)+1).toNat=i+1:=by omega
 have e3:(i:Int)+1≤(len:Int)+1:=by omega
 have e4':(0:Int)≤(len:Int)+1:=by omega
 have e5:(i:Int)≤(len:Int)+1:=by omega
 have e6:((len:Int)+1).toNat=len+1:=by omega
 have e7:(i:Int)≤(len:Int):=by omega
 have A7:=aa.an hb;have z9:j<H.length:=by
  unfold aw at hx;split at hx
  ·rename_i c hc;exact aa.an hc
  ·cases hx
 have DV:aw (H.new ⟨z,tE,1,false⟩) j jo 1=some [x]:=by
  simp only[aw,aa.ki z9] at hx ⊢;exact hx
 have g0:(H.new ⟨z,tE,1,false⟩).get H.length=some ⟨z,tE,1,false⟩:=aa.iD;have gb:(H.new ⟨z,tE,1,false⟩).get b=some ⟨cs,ty,1,false⟩:=by rw[aa.ki A7];exact hb
 have pn: ∀c d:eu,(H.new c).put H.length d=H.new d:=by
  intro c d;unfold aa.put aa.new;rw[List.set_append_right _ _ (Nat.le_refl _)];simp
 have JB:i+1≤len+1:=by omega
 have q1:bl (H.new ⟨z,tE,1,false⟩) H.length i [x]=some (H.new ⟨bB z i [x],tE,1,false⟩):=by
  simp only[bl,g0,hz,B9,JB,Bool.not_false,decide_true,Bool.and_self,if_true,List.length_singleton,List.all_cons,List.all_nil,pn]
 have lK:((cs.drop i).take (len-i)).length=len-i:=by simp;omega
 have U0:((cs.drop i).take (len-i)).all av=true:=by
  rw[List.all_eq_true] at jF ⊢;exact λy hy=>jF y (List.mem_of_mem_drop (List.mem_of_mem_take hy))
 have l1:(bB z i [x]).length=len+1:=by rw[fT (by simp only[List.length_singleton];omega),hz]
 have JH:bB (bB z i [x]) (i+1) ((cs.drop i).take (len-i))=(cs.take len).take i++x::(cs.take len).drop i:=by
  have hd:(bB z i [x]).drop (i+1+(len-i))=[]:=List.drop_eq_nil_of_le (by rw[l1];omega)
  have ht:(bB z i [x]).take (i+1)=cs.take i++[x]:=by
   rw[iE _ _ _ (by simp only[List.length_singleton];omega),hzp]
   exact List.take_left' (by simp;omega)
  rw[iE _ _ _ (by rw[lK,l1];omega),lK,hd,List.append_nil,ht,List.take_take,Nat.min_eq_left (by omega),List.drop_take]
  simp
 generalize hS1:bB z i [x]=S1 at q1 l1 JH
 have g1:(H.new ⟨S1,tE,1,false⟩).get H.length=some ⟨S1,tE,1,false⟩:=aa.iD;have gb1:(H.new ⟨S1,tE,1,false⟩).get b=some ⟨cs,ty,1,false⟩:=by rw[aa.ki A7];exact hb
 have q2:aw (H.new ⟨S1,tE,1,false⟩) b i (len-i)=some ((cs.drop i).take (len-i)):=by
  simp only[aw,gb1];rw[if_pos (by omega)]
 have U1:i+1+(len-i)≤len+1:=by omega
 have q3:bl (H.new ⟨S1,tE,1,false⟩) H.length (i+1) ((cs.drop i).take (len-i))=some (H.new ⟨(cs.take len).take i++x::(cs.take len).drop i,tE,1,false⟩):=by
  simp only[bl,g1,lK,U0,l1,U1,Bool.not_false,decide_true,Bool.and_self,if_true,pn,JH]
 have m1:min (len-i) (len+1-(i+1))=len-i:=by omega
 have m2:min 1 (len+1-i)=1:=by omega
 have n0: ¬len-i=0:=by omega
 have e8:(len:Int)≤cap:=by omega
 have k1:i≤len+1:=by omega
 have k2:i+1≤len+1:=by omega
 have k3:i≤len:=by omega
 have k4: ¬len+1-i=0:=by omega
 simp[HP,rp,k1,k2,k3,k4,ai,jv,e,eo,cV,kZ,g0,g1,gb1,e1,e2,e3,e4',e5,e6,e7,e8,fin,n7,uS,zE,bq,m1,m2,q1,q2,q3,n0,DV]
end
theorem VR.TD {μ mR:Mu}{b k n c:Nat}{l:Loc}{r:Value}(h:VR μ (.slice (some ⟨b,0,none⟩) n c) r)(hn:0<n)(hl:μ b=some l)(hk:mR k=some l):VR mR (.slice (some ⟨k,0,none⟩) n n) r:=by
 rcases h.dx with⟨i,off,dG,l',e,zW,h1,h2,h3,rfl⟩|⟨i,off,a',e,rfl,rfl,rfl⟩
 ·cases e;rw[hl] at zW;cases zW;exact .slice k 0 n n dG l hk (Nat.le_refl _) (by omega) h3
 ·omega
theorem xr {tmps:Array Value}{v0 v1 v2 v6 v7 bZ v8 dY fL v9 fe:Value}(h:fi μ (Env.get (EA.zip [v0,v1,v2,v6,v7,bZ,v8,dY,fL,v9,fe])) tmps):
  VR μ v0 (tmps.getD 0 undef)∧VR μ v1 (tmps.getD 1 undef)∧VR μ v2 (tmps.getD 2 undef)∧VR μ v6 (tmps.getD 6 undef)∧VR μ v7 (tmps.getD 7 undef)∧VR μ bZ (tmps.getD 16 undef)∧VR μ v8 (tmps.getD 8 undef)∧
  VR μ dY (tmps.getD 22 undef)∧VR μ fL (tmps.getD 31 undef)∧VR μ v9 (tmps.getD 9 undef)∧VR μ fe (tmps.getD 68 undef):=by
 have g: ∀t,VR μ (Env.get (EA.zip [v0,v1,v2,v6,v7,bZ,v8,dY,fL,v9,fe]) t) (tmps.getD t undef):=h;exact⟨g 0,g 1,g 2,g 6,g 7,g 16,g 8,g 22,g 31,g 9,g 68⟩
theorem HR {tmps:Array Value}{v0 v1 v2 v6 v7 bZ v8 dY fL v9 fe:Value}(h0:VR μ v0 (tmps.getD 0 undef))(h1:VR μ v1 (tmps.getD 1 undef))(h2:VR μ v2 (tmps.getD 2 undef))(h6:VR μ v6 (tmps.getD 6 undef))(h7:VR μ v7 (tmps.getD 7 undef))(h16:VR μ bZ (tmps.getD 16 undef))(h8:VR μ v8 (tmps.getD 8 undef))(h22:VR μ dY (tmps.getD 22 undef))(h31:VR μ fL (tmps.getD 31 undef))(h9:VR μ v9 (tmps.getD 9 undef))(h68:VR μ fe (tmps.getD 68 undef)):
  fi μ (Env.get (EA.zip [v0,v1,v2,v6,v7,bZ,v8,dY,fL,v9,fe])) tmps:=
 gC h0 (gC h1 (gC h2 (gC h6 (gC h7 (gC h16 (gC h8 (gC h22 (gC h31 (gC h9 (gC h68 Nk))))))))))
theorem bL {a:Act}{d t:Nat}{v:Value}(h:t≠d):(a.put (some d) v).tmps.getD t undef=a.tmps.getD t undef:=by
 simp[Act.put,Array.getD_eq_getD_getElem?,Array.getElem?_setIfInBounds_ne (Ne.symm h)]
theorem mw {a:Act}{d:Nat}{v:Value}(h:d<a.tmps.size):(a.put (some d) v).tmps.getD d undef=v:=by
 simp[Act.put,h]
theorem Gx {ro:Option Nat}{n p6:Nat}{tS tE tI:Nat}{o6:Array Oper}{a:Act}{Q:Exit→Act→World→Prop}{A:Addr}{len c1:Nat}(uS:P.underlying tS=some (.slice tE))(h6:jy o6.toList [(.move (.tmp 8),26),(.move (.tmp 7),27),(.binOp .add tI (.tmp 26) (.tmp 27) tI,28),(.move (.tmp 0),29),(.call {callee:=.builtin .cap,args:=#[.tmp 29],argTypes:=#[tS]},30),(.binOp .gtr tI (.tmp 28) (.tmp 30) tI,31)])(nA:a.tmps.size=95)(hlen:len<4294967296)(e0:a.tmps.getD 0 undef= .slice (some A) len c1)(e7:a.tmps.getD 7 undef= .int .i64 1)(e8:a.tmps.getD 8 undef= .int .i64 len)(hQ: ∀a':Act,a'.defers=a.defers→a'.tmps.size=95→a'.tmps.getD 31 undef= .bool (decide (c1<len+1))→(∀t,t<26∨31<t→a'.tmps.getD t undef=a.tmps.getD t undef)→Q .normal a' w):
  (Code.region p6 o6 false).wpIn (FR ro) n P Q a w:=by
 refine wpIn_region_list ?_;obtain⟨x0,r0,hl,b0,d0,g0,h6⟩:=bK h6;obtain⟨x1,r1,rfl,b1,d1,g1,h6⟩:=bK h6;obtain⟨x2,r2,rfl,b2,d2,g2,h6⟩:=bK h6;obtain⟨x3,r3,rfl,b3,d3,g3,h6⟩:=bK h6;obtain⟨x4,r4,rfl,b4,d4,g4,h6⟩:=bK h6;obtain⟨x5,r5,rfl,b5,d5,g5,h6⟩:=bK h6;obtain rfl:=rE h6;rw[hl];have hw:IntKind.i64.wrap ((len:Int)+1)=(len:Int)+1:=by rw[IntKind.wrap_i64];omega
 refine cF g0 (wp_move b0 ?_);rw[d0];refine cF g1 (wp_move b1 ?_);rw[d1];refine cF g2 (xm (k:=.i64) (m:=len) (m':=1) (v:=.int .i64 (len+1)) b2 ?_ ?_ (by simp[ai,jv,hw]) ?_)
 ·rw[aF (by omega),bD (by omega)];exact e8
 ·rw[bD (by rw[cu];omega),aF (by omega)];exact e7
 rw[d2];refine cF g3 (wp_move b3 ?_);rw[d3];refine cF g4 (UW (ad:=some A) (m:=len) (c:=c1) b4 uS ?_ ?_)
 ·rw[bD (by simp only[cu];omega),aF (by omega),aF (by omega),aF (by omega)];exact e0
 rw[d4];have hgt:ai P .gtr tI (.int .i64 ((len:Int)+1)) (.int .i64 (c1:Int))=some (.bool (decide (c1<len+1))):=by
  have:(decide ((len:Int)+1>(c1:Int)))=decide (c1<len+1):=by
   rw[decide_eq_decide];omega
  simp only[ai,jv,if_true,this]
 refine cF g5 (xm (k:=.i64) (m:=(len:Int)+1) (m':=c1) b5 ?_ ?_ hgt ?_)
 ·rw[aF (by omega),aF (by omega),bD (by simp only[cu];omega)]
 ·rw[bD (by simp only[cu];omega)]
 rw[d5];refine hQ _ (by simp only[put_defers]) (by simp only[cu];exact nA) (mw (by simp only[cu];omega)) (λt ht=>?_)
 rw[bL (by omega),bL (by omega),bL (by omega),bL (by omega),bL (by omega),bL (by omega)]
theorem QK {ro:Option Nat}{n:Nat}{o:Oper}{a:Act}{K:Act→World→Prop}{Q:Exit→Act→World→Prop}{μ:Mu}{v:Value}{b:Builtin}{args:Array Operand}{ts:Array TypeId}{vs:Array Value}(ho:o.op= .call {callee:=.builtin b,args:=args,argTypes:=ts})(hv:args.map a.eval=vs)(hT: ∀ty cs,fY P μ v H' w B ((builtin b ts ty cs vs).run P w))(hK: ∀v' μ' w',μ.le μ'→VR μ' v v'→cQ P μ' H' w' B→fI B w w'→K (a.put o.dst v') w'):o.wpIn (FR ro) n P a w K Q:=by
 have Tr: ∀c,o.op≠ .defer c:=λc e=>by rw[ho] at e;cases e
 refine⟨λ_ _=>trivial,?_⟩
 rw[Oper.semAt_eq _ _ _ Tr];have hex:execOp a.eval o=builtin b ts o.type (args.map λ| .const _=>true|_=>false) vs:=by
  unfold execOp;rw[ho];simp only[resolve,hv];rfl
 obtain⟨v',μ',w',hr,h1,h2,h3,h4⟩:=hT o.type (args.map λ| .const _=>true|_=>false)
 rw[hex];rcases hr with hr|⟨hr,rfl⟩
 ·rw[hr];exact hK v' μ' w' h1 h2 h3 h4
 ·rw[hr];exact hK undef μ' w' h1 h2 h3 h4
theorem EC {ro:Option Nat}{n UZ:Nat}{tS tE tI by_:Nat}{Qa:Array Oper}{a:Act}{Q:Exit→Act→World→Prop}{len c1 i b:Nat}{cs:List Value}{ty:TypeId}{l:Loc}{z:Value}(uS:P.underlying tS=some (.slice tE))(uI:P.underlying tI=some (.int .i64))(zE:il P tE=some 1)(bE:mJ P tE=some by_)(UY:by_≤4096)(hz:zeroOf P tE=some z)(vk:jy Qa.toList [(.move (.tmp 0),32),(.move (.tmp 1),33),(.slice tS (.tmp 32) none (some (.tmp 33)) none,34),(.move (.tmp 8),35),(.move (.tmp 7),36),(.binOp .add tI (.tmp 35) (.tmp 36) tI,37),(.move (.tmp 1),38),(.binOp .sub tI (.tmp 37) (.tmp 38) tI,39),(.call {callee:=.builtin .append,args:=#[.tmp 34,.tmp 39],argTypes:=#[tS,tI]},40),(.assign (.tmp 40),9)])(nA:a.tmps.size=95)(hlen:len<4294967296)(hi:i<len)(hS:cQ P μ H w B)(hb:H.get b=some ⟨cs,ty,1,false⟩)(FK:μ b=some l)(tP:len≤cs.length)(P3:c1<len+1)(hc0:len≤c1)(e0:a.tmps.getD 0 undef= .slice (some ⟨l.b,l.o,none⟩) len c1)(e1:a.tmps.getD 1 undef= .int .i64 i)(e7:a.tmps.getD 7 undef= .int .i64 1)(e8:a.tmps.getD 8 undef= .int .i64 len)(hQ: ∀(a':Act) (w':World) (μ':Mu),a'.defers=a.defers→a'.tmps.size=95→μ.le μ'→VR μ' (.slice (some ⟨H.length,0,none⟩) (len+1) (len+1)) (a'.tmps.getD 9 undef)→(∀t,t<9∨(9<t∧t<32)∨40<t→a'.tmps.getD t undef=a.tmps.getD t undef)→
   cQ P μ' (H.new ⟨cs.take i++bR z.cells.toList (len+1-i),tE,1,false⟩) w' B→fI B w w'→Q .normal a' w'):
  (Code.region UZ Qa false).wpIn (FR ro) n P Q a w:=by
 refine wpIn_region_list ?_;obtain⟨x0,r0,hl,b0,d0,g0,vk⟩:=bK vk;obtain⟨x1,r1,rfl,b1,d1,g1,vk⟩:=bK vk;obtain⟨x2,r2,rfl,b2,d2,g2,vk⟩:=bK vk;obtain⟨x3,r3,rfl,b3,d3,g3,vk⟩:=bK vk;obtain⟨x4,r4,rfl,b4,d4,g4,vk⟩:=bK vk;obtain⟨x5,r5,rfl,b5,d5,g5,vk⟩:=bK vk;obtain⟨x6,r6,rfl,b6,d6,g6,vk⟩:=bK vk;obtain⟨x7,r7,rfl,b7,d7,g7,vk⟩:=bK vk;obtain⟨x8,r8,rfl,b8,d8,g8,vk⟩:=bK vk;obtain⟨x9,r9,rfl,b9,d9,g9,vk⟩:=bK vk;obtain rfl:=rE vk;rw[hl];have hw:IntKind.i64.wrap ((len:Int)+1)=(len:Int)+1:=by rw[IntKind.wrap_i64];omega
 have Ag:IntKind.i64.wrap ((len:Int)+1-i)=(len:Int)+1-i:=by rw[IntKind.wrap_i64];omega
 refine cF g0 (wp_move b0 ?_);rw[d0];refine cF g1 (wp_move b1 ?_);rw[d1];refine cF g2 (Gw (A:=⟨l.b,l.o,none⟩) (m:=len) (c:=c1) (size:=1) (k:=i) b2 uS zE ?_ ?_ (by omega) (by omega) (by omega) ?_)
 ·rw[aF (by omega),bD (by omega)];exact e0
 ·rw[bD (by simp only[cu];omega),aF (by omega)];exact e1
 rw[d2];refine cF g3 (wp_move b3 ?_);rw[d3];refine cF g4 (wp_move b4 ?_);rw[d4];refine cF g5 (xm (k:=.i64) (m:=len) (m':=1) (v:=.int .i64 (len+1)) b5 ?_ ?_ (by simp[ai,jv,hw]) ?_)
 ·rw[aF (by omega),bD (by simp only[cu];omega),aF (by omega),aF (by omega),aF (by omega)];exact e8
 ·rw[bD (by simp only[cu];omega),aF (by omega),aF (by omega),aF (by omega),aF (by omega)];exact e7
 rw[d5];refine cF g6 (wp_move b6 ?_);rw[d6];refine cF g7 (xm (k:=.i64) (m:=(len:Int)+1) (m':=i) (v:=.int .i64 ((len:Int)+1-i)) b7 ?_ ?_ (by simp[ai,jv,Ag]) ?_)
 ·rw[aF (by omega),bD (by simp only[cu];omega)]
 ·rw[bD (by simp only[cu];omega)]
  rw[aF (by omega),aF (by omega),aF (by omega),aF (by omega),aF (by omega),aF (by omega)];exact e1
 rw[d7];obtain⟨inf,ace,Tm⟩:=nz bE;obtain⟨_,oS,m,hm,vL⟩:=dR hz w;rw[zE] at hm;cases hm;have hag:DS P H tI 1 by_ z (.int .i64 ((len:Int)+1-i))=some (len+1-i,bR z.cells.toList (len+1-i)):=by
  simp only[DS,uI];rw[if_pos ⟨by omega,by omega,UY⟩]
  rw[show((len:Int)+1-i).toNat=len+1-i by omega]
 have iX:aw H b 0 i=some (cs.take i):=by
  simp only[aw,hb];rw[if_pos (by omega)];simp
 obtain⟨Ba,lu,hold,uQ⟩:=hS.aw FK iX;have jF:=hS.AX iX;have hT: ∀ty c8,fY P μ (.slice (some ⟨H.length,0,none⟩) (len+1) (len+1)) (H.new ⟨cs.take i++bR z.cells.toList (len+1-i),tE,1,false⟩) w B
   ((builtin .append #[tS,tI] ty c8 #[.slice (some ⟨l.b,l.o,none⟩) (i:Int).toNat c1,.int .i64 ((len:Int)+1-i)]).run P w):=by
  intro ty c8;obtain⟨hnl,sr,lr,BR,_,D5⟩:=wN (ty:=ty) (sLen:=i) (sCap:=c1) hS (.plain (.int .i64 ((len:Int)+1-i)) rfl) uS zE ace Tm hz hag (some ⟨l.b,l.o,none⟩);obtain⟨eZ,rp,dU⟩:=D5 (by omega) (by omega) UY lu (λw2 he=>by
   have hr:=run_loadCells_list (P:=P) w2 ⟨l.b,l.o+0,none⟩ lu (λj v hj=>by rw[←uQ j v hj];simp[World.cell?,he])
   rw[←hold.1] at hr;have hli:(cs.take i).length=i*1:=by simp;omega
   rw[hli] at hr;exact hr)
  have:=su (elem:=tE) (size:=1) (sLen:=i) (n:=len+1-i) hS hold BR jF sr (by simp;omega) (by simpa using hnl) vL oS (by omega) rp
  rw[show i+(len+1-i)=len+1 by omega] at this dU
  have e:(builtin .append #[tS,tI] ty c8 #[.slice (some ⟨l.b,l.o,none⟩) (i:Int).toNat c1,.int .i64 ((len:Int)+1-i)])=(do pure (Next.value (←Builtin.append_ #[tS,tI] ty #[.slice (some ⟨l.b,l.o,none⟩) i c1,.int .i64 ((len:Int)+1-i)])):Sem Next):=by
   rw[show((i:Int).toNat)=i by omega];rfl
  rw[e];refine Told.next ?_;rw[dU];exact this
 refine cF g8 (QK b8 ?_ hT ?_)
 ·simp only[List.map_toArray,List.map_cons,List.map_nil];rw[bD (by simp only[cu];omega)]
  rw[aF (by omega),aF (by omega),aF (by omega),aF (by omega),aF (by omega),bD (by simp only[cu];omega)]
 intro v' μ' w' hle vM pg ZO;rw[d8];refine cF g9 (wp_assign b9 ?_);rw[d9];refine hQ _ w' μ' (by simp only[put_defers]) (by simp only[cu];exact nA) hle ?_ (λt ht=>?_) pg ZO
 ·rw[mw (by simp only[cu];omega),bD (by simp only[cu];omega)];exact vM
 ·rw[bL (by omega),bL (by omega),bL (by omega),bL (by omega),bL (by omega),bL (by omega),bL (by omega),bL (by omega),bL (by omega),bL (by omega)]
theorem Gy {ro:Option Nat}{n:Nat}{o:Oper}{a:Act}{K:Act→World→Prop}{Q:Exit→Act→World→Prop}{x h:Operand}{t e:TypeId}{A:Addr}{m c:Nat}{k:Nat}(ho:o.op= .slice t x (some h) none none)(ht:P.underlying t=some (.slice e))(hz:il P e=some 1)(hx:a.eval x= .slice (some ⟨A.block,A.off,none⟩) m c)(hh:a.eval h= .int .i64 k)(h1:k≤m)(hc:k<c)(hK:K (a.put o.dst (.slice (some ⟨A.block,A.off+k,none⟩) (m-k) (c-k))) w):o.wpIn (FR ro) n P a w K Q:=by
 refine pE (λc e=>by rw[ho] at e;cases e) ?_ hK
 unfold execOp;rw[ho];have hb:=iF (P:=P) (k:=.i64) (n:=k) (y:=m) (c:=.sliceB) (by omega) (by omega) w
 have dX: ¬c=k:=by omega
 simp[hx,hh,Instr.sliceAt,Instr.slice,run_underlying ht,Instr.sliceBounds,hb,eh hz,dX,ir]
theorem U2 {ro:Option Nat}{n:Nat}{o:Oper}{a:Act}{K:Act→World→Prop}{Q:Exit→Act→World→Prop}{x:Operand}{t:TypeId}{b:Bool}(ho:o.op= .unOp .not t x)(hx:a.eval x= .bool b)(hK:K (a.put o.dst (.bool !b)) w):o.wpIn (FR ro) n P a w K Q:=by
 refine pE (λc e=>by rw[ho] at e;cases e) ?_ hK
 unfold execOp;rw[ho];simp[hx,Op.unary]
theorem JI {ro:Option Nat}{n:Nat}{o:Oper}{a:Act}{K:Act→World→Prop}{Q:Exit→Act→World→Prop}{f:FuncId}{args:Array Operand}{ts:Array TypeId}{vs:Array Value}{v:Value}(ho:o.op= .call {callee:=.value (.func f),args:=args,argTypes:=ts})(hv:args.map a.eval=vs)(hr:(callFunc f vs).run P w= .ok (.value v) w)(hK:K (a.put o.dst v) w):o.wpIn (FR ro) n P a w K Q:=by
 refine pE (λc e=>by rw[ho] at e;cases e) ?_ hK
 unfold execOp;rw[ho];simp only[resolve,hv,Act.eval];simp[Deferred.ofValue,invoke,hr]
theorem Gz {b:eu}{l:Loc}{i:Nat}(hS:cQ P μ H w B)(hb:H.get i=some b)(fm:b.ro=false)(hl:μ i=some l): ∃(cs:Array Value) (ty:TypeId),w.heap[l.b]? =some (.cells cs ty (0,0))∧l.o+b.cells.length≤cs.size:=by
 obtain⟨l',e,k⟩:=hS.ok i b hb;rw[hl] at e;cases e;obtain⟨cs,ty,fz,h1,h2,h3,h4,h5⟩:=k.row;obtain rfl:=h3 fm;exact⟨cs,ty,h1,h4⟩
theorem ED {ro:Option Nat}{n p8:Nat}{tS tE tI tB fo:Nat}{o8:Array Oper}{a:Act}{Q:Exit→Act→World→Prop}{len c1 i b j jo cj:Nat}{bb bj:eu}{l lj:Loc}(uS:P.underlying tS=some (.slice tE))(zE:il P tE=some 1)(ov:Nl P fo tS tB)(h8:jy o8.toList [(.move (.tmp 2),61),(.move (.tmp 0),62),(.move (.tmp 1),63),(.move (.tmp 7),64),(.binOp .add tI (.tmp 63) (.tmp 64) tI,65),(.slice tS (.tmp 62) (some (.tmp 65)) none none,66),(.call {callee:=.value (.func fo),args:=#[.tmp 61,.tmp 66],argTypes:=#[tS,tS]},67),(.unOp .not tB (.tmp 67),68)])(nA:a.tmps.size=95)(hlen:len<4294967296)(hi:i<len)(hS:cQ P μ H w B)(hb:H.get b=some bb)(acf:bb.ro=false)(FK:μ b=some l)(hj:H.get j=some bj)(JJ:bj.ro=false)(hlj:μ j=some lj)(Mx:b≠j)(P3:len+1≤c1)(kj:0<bb.cells.length)(e0:a.tmps.getD 0 undef= .slice (some ⟨l.b,l.o,none⟩) (len+1) c1)(e1:a.tmps.getD 1 undef= .int .i64 i)(e2:a.tmps.getD 2 undef= .slice (some ⟨lj.b,lj.o+jo,none⟩) 1 cj)(e7:a.tmps.getD 7 undef= .int .i64 1)(hQ: ∀(a':Act),a'.defers=a.defers→a'.tmps.size=95→a'.tmps.getD 68 undef= .bool true→(∀t,t<61→a'.tmps.getD t undef=a.tmps.getD t undef)→Q .normal a' w):
  (Code.region p8 o8 false).wpIn (FR ro) n P Q a w:=by
 refine wpIn_region_list ?_;obtain⟨x0,r0,hl,b0,d0,g0,h8⟩:=bK h8;obtain⟨x1,r1,rfl,b1,d1,g1,h8⟩:=bK h8;obtain⟨x2,r2,rfl,b2,d2,g2,h8⟩:=bK h8;obtain⟨x3,r3,rfl,b3,d3,g3,h8⟩:=bK h8;obtain⟨x4,r4,rfl,b4,d4,g4,h8⟩:=bK h8;obtain⟨x5,r5,rfl,b5,d5,g5,h8⟩:=bK h8;obtain⟨x6,r6,rfl,b6,d6,g6,h8⟩:=bK h8;obtain⟨x7,r7,rfl,b7,d7,g7,h8⟩:=bK h8;obtain rfl:=rE h8;rw[hl];have hw:IntKind.i64.wrap ((i:Int)+1)=(i:Int)+1:=by rw[IntKind.wrap_i64];omega
 refine cF g0 (wp_move b0 ?_);rw[d0];refine cF g1 (wp_move b1 ?_);rw[d1];refine cF g2 (wp_move b2 ?_);rw[d2];refine cF g3 (wp_move b3 ?_);rw[d3];refine cF g4 (xm (k:=.i64) (m:=i) (m':=1) (v:=.int .i64 ((i+1:Nat):Int)) b4 ?_ ?_ (by simp[ai,jv,hw]) ?_)
 ·rw[aF (by omega),bD (by simp only[cu];omega),aF (by omega),aF (by omega)];exact e1
 ·rw[bD (by simp only[cu];omega),aF (by omega),aF (by omega),aF (by omega)];exact e7
 rw[d4];refine cF g5 (Gy (A:=⟨l.b,l.o,none⟩) (m:=len+1) (c:=c1) (k:=i+1) b5 uS zE ?_ ?_ (by omega) (by omega) ?_)
 ·rw[aF (by omega),aF (by omega),aF (by omega),bD (by simp only[cu];omega),aF (by omega)];exact e0
 ·rw[bD (by simp only[cu];omega)]
 rw[d5];have hov:(callFunc fo #[.slice (some ⟨lj.b,lj.o+jo,none⟩) 1 cj,.slice (some ⟨l.b,l.o+(i+1),none⟩) (len+1-(i+1)) (c1-(i+1))]).run P w= .ok (.value (.bool false)) w:=by
  obtain⟨Zf,q1,q2,q3,q4,q5⟩:=ov.ext;obtain⟨csb,tyb,rb,MS⟩:=Gz hS hb acf FK;obtain⟨csj,tyj,rj,_⟩:=Gz hS hj JJ hlj;have dX:lj.b≠l.b:=hS.inj j b bj bb lj l hj hb hlj FK (Ne.symm Mx) JJ;rw[run_callFunc_extern q1 q2 q3 q4 q5,Lib.run_overlaps_apart w tS tB tE uS 1 (λw=>eh zE w) ⟨lj.b,lj.o+jo,none⟩ ⟨l.b,l.o+(i+1),none⟩ 1 cj _ _ dX tyj tyb csj.size csb.size (by simp[World.shape?,rj]) (by simp[World.shape?,rb]) (by omega) (by simp[World.frozen?,rj]) (by simp[World.frozen?,rj])]
  rfl
 refine cF g6 (JI b6 ?_ hov ?_)
 ·simp only[List.map_toArray,List.map_cons,List.map_nil];rw[bD (by simp only[cu];omega)]
  rw[aF (by omega),aF (by omega),aF (by omega),aF (by omega),aF (by omega),bD (by omega)]
  have:a.eval (.tmp 2)= .slice (some ⟨lj.b,lj.o+jo,none⟩) 1 cj:=e2;rw[this]
 rw[d6];refine cF g7 (U2 (b:=false) b7 ?_ ?_)
 ·rw[bD (by simp only[cu];omega)]
 rw[d7];refine hQ _ (by simp only[put_defers]) (by simp only[cu];exact nA) (by rw[mw (by simp only[cu];omega)];rfl) (λt ht=>?_)
 rw[bL (by omega),bL (by omega),bL (by omega),bL (by omega),bL (by omega),bL (by omega),bL (by omega),bL (by omega)]
end Go.Proofs.YtjgmnoaalbbonaaGreatA.Am
end
