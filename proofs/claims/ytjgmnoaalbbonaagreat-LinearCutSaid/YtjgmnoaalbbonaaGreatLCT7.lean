/- Texts of the proof of linearCut_holds, put together by a small program of ours (names shortened, spaces taken out). No condition beyond the given statement. -/
import Derived.Test.YtjgmnoaalbbonaaGreatLCT6
set_option linter.unusedVariables false
set_option linter.unusedSimpArgs false
set_option linter.unnecessarySimpa false
noncomputable section
section
namespace Go.Proofs.YtjgmnoaalbbonaaGreatA.Am
open Go.RowKit (Below)
variable {P:Program} {μ:Mu} {H H':aa} {w:World} {B:Nat}
section
variable (P:Program) (F:List Nat) (base:Nat) (ops:Array Oper) (S:Nat→Env×aa) (val:Nat→Value) (L:Nat→Bool)
def jK (k:Nat):Option Nat:=(ops[k]?).bind (·.dst)
def mu:Nat→Nat→Value
 |0,t=>(S 0).1.get t
 |k+1,t=>if L k=true∧jK ops k=some t then val k else mu k t
def fJ (k:Nat):Bool:=match ops[k]? with
 |some o=>decide (cls P o.op= .zS)&&(ee ops o (S k).1==some true)
 |none=>false
def bOf (k:Nat):eu:=match (S (k+1)).2.get (base+F.idxOf k) with|some b=>b|none=>default
def ug (k:Nat)(X:aa):aa:=X.lay (base+F.idxOf k) (bOf F base S k)
def n9:Nat→aa
 |0=>(S 0).2
 |k+1=>if L k=true∧fJ P ops S k=true then(if F.contains k then ug F base S k (n9 k) else(S (k+1)).2) else n9 k
def cL (X:aa)(m:Nat):Nat→aa
 |0=>X
 |d+1=>if L (m+d)=true∧F.contains (m+d)=true then ug F base S (m+d) (cL X m d) else cL X m d
def pt:Nat→Nat
 |0=>0
 |k+1=>pt k+if L k then 0 else 1
end
variable {F:List Nat} {base:Nat} {ops:Array Oper} {S:Nat→Env×aa} {val:Nat→Value} {L L':Nat→Bool} {C:ae}
theorem HC {i t:Nat}(kW: ∀k o,ops[k]? =some o→w9 P C F base ops k o (S k) (S (k+1)) (val k))(hn:i≤ops.size)(h: ∀k,k<i→jK ops k=some t→L k=true):
  mu ops S val L i t=(S i).1.get t:=by
 induction i with
 |zero=>rfl
 |succ k ih=>
  have hk:k<ops.size:=by omega
  have ho:ops[k]? =some ops[k]:=Array.getElem?_eq_getElem hk;have h1:=(kW k _ ho).1;rw[h1,Env.aD,mu];have hd:jK ops k=ops[k].dst:=by simp[jK,ho]
  by_cases e:jK ops k=some t
  ·rw[if_pos ⟨h k (by omega) e,e⟩,if_pos (by rw[←hd];exact e)]
  ·rw[if_neg (λx=>e x.2),if_neg (by rw[←hd];exact e)]
   exact ih (by omega) (λj hj=>h j (by omega))
theorem Ei {i n t:Nat}(Jj:i≤n)(h: ∀k,i≤k→k<n→jK ops k=some t→L k=false):mu ops S val L n t=mu ops S val L i t:=by
 induction n with
 |zero=>
  have:i=0:=by omega
  subst this;rfl
 |succ k ih=>
  by_cases e:i=k+1
  ·subst e;rfl
  ·rw[mu,if_neg]
   ·exact ih (by omega) (λj h1 h2=>h j h1 (by omega))
   ·rintro⟨h1,h2⟩;rw[h k (by omega) (by omega) h2] at h1;cases h1
theorem Qu {i n t:Nat}(Jj:i<n)(hi:L' i=true)(dX: ∀k,k≠i→L' k=L k)(h:jK ops i=some t→∀k,i<k→k<n→jK ops k=some t→L k=false):
  mu ops S val L' n t=if jK ops i=some t then val i else mu ops S val L n t:=by
 induction n with
 |zero=>omega
 |succ k ih=>
  by_cases e:i=k
  ·subst e;rw[mu,mu];have Af: ∀m,m≤i→mu ops S val L' m t=mu ops S val L m t:=by
    intro m hm;induction m with
    |zero=>rfl
    |succ j ihj=>rw[mu,mu,dX j (by omega),ihj (by omega)]
   by_cases hd:jK ops i=some t
   ·rw[if_pos ⟨hi,hd⟩,if_pos hd]
   ·rw[if_neg (λx=>hd x.2),if_neg hd,if_neg (λx=>hd x.2)];exact Af i (Nat.le_refl _)
  ·rw[mu,mu,dX k (by omega),ih (by omega) (λa b c d=>h a b c (by omega))]
   by_cases hd:jK ops i=some t
   ·rw[if_pos hd];by_cases hk:L k=true∧jK ops k=some t
    ·rw[h hd k (by omega) (by omega) hk.2] at hk;cases hk.1
    ·rw[if_neg hk,if_pos hd]
   ·rw[if_neg hd,if_neg hd]
theorem Jk {k:Nat}{o:Oper}(kW:w9 P C F base ops k o (S k) (S (k+1)) (val k))(ho:ops[k]? =some o)(hb:cls P o.op≠ .bad)(hF:F.contains k=true→cls P o.op= .zS)(h:fJ P ops S k=false):(S (k+1)).2=(S k).2:=by
 rcases kW.2 with⟨hw,hx⟩|⟨hw,_,hx⟩
 ·have hc:cls P o.op≠ .zS:=by
   intro e;simp[fJ,ho,e,hw] at h
  have hnF: ¬F.contains k=true:=λe=>hc (hF e)
  unfold dV at hx;rw[if_neg hnF, ←rA] at hx;unfold jY at hx;split at hx
  ·rename_i e;rw[e] at hc;exact absurd rfl hc
  ·exact Bf hc hb hx
 ·exact hx
theorem Gc {j k:Nat}(hj:F.contains j=true)(BN:j≠k):base+F.idxOf j≠base+F.idxOf k:=by
 intro e;have e':F.idxOf j=F.idxOf k:=by omega
 have DV:j∈F:=by simpa using hj
 have eR:=List.idxOf_lt_length_of_mem DV;have h1:=List.getElem_idxOf eR;have Qv:F.idxOf k<F.length:=by omega
 have h2:=List.getElem_idxOf Qv;apply BN;rw[←h1, ←h2];simp only[e']
theorem UC {i:Nat}(pw: ∀k,k<i→fJ P ops S k=false→(S (k+1)).2=(S k).2)(HD: ∀k,k<i→F.contains k=true→fJ P ops S k=true→(S (k+1)).2=ug F base S k (S k).2)(h: ∀k,k<i→fJ P ops S k=true→L k=true):n9 P F base ops S L i=(S i).2:=by
 induction i with
 |zero=>rfl
 |succ k ih=>
  have ihk:=ih (λj hj=>pw j (by omega)) (λj hj=>HD j (by omega)) (λj hj=>h j (by omega))
  rw[n9];by_cases e:fJ P ops S k=true
  ·rw[if_pos ⟨h k (by omega) e,e⟩]
   by_cases hF:F.contains k=true
   ·rw[if_pos hF,ihk];exact(HD k (by omega) hF e).symm
   ·rw[if_neg hF]
  ·rw[if_neg (λx=>e x.2),ihk,pw k (by omega) (by simpa using e)]
theorem Ej {n:Nat}(h: ∀k,k<n→fJ P ops S k=true→L' k=L k):n9 P F base ops S L' n=n9 P F base ops S L n:=by
 induction n with
 |zero=>rfl
 |succ k ih=>
  rw[n9,n9,ih (λj hj=>h j (by omega))]
  by_cases e:fJ P ops S k=true
  ·rw[h k (by omega) e]
  ·rw[if_neg (λx=>e x.2),if_neg (λx=>e x.2)]
theorem Ek {m:Nat}(hF: ∀k,F.contains k=true→fJ P ops S k=true): ∀d,(∀k,m≤k→k<m+d→L k=true→fJ P ops S k=true→F.contains k=true)→
  n9 P F base ops S L (m+d)=cL F base S L (n9 P F base ops S L m) m d:=by
 intro d;induction d with
 |zero=>intro _;rfl
 |succ d ih=>
  intro h;have ihd:=ih (λk h1 h2=>h k h1 (by omega))
  rw[←Nat.add_assoc,n9,cL,ihd];by_cases e:L (m+d)=true∧fJ P ops S (m+d)=true
  ·have hf:=h (m+d) (by omega) (by omega) e.1 e.2
   rw[if_pos e,if_pos hf,if_pos ⟨e.1,hf⟩]
  ·rw[if_neg e,if_neg (λx=>e ⟨x.1,hF _ x.2⟩)]
theorem MW (hF: ∀k,F.contains k=true→fJ P ops S k=true)(n:Nat):
  ∃m,m≤n∧n9 P F base ops S L n=cL F base S L (S m).2 m (n-m)∧(m=0∨∃p,m=p+1∧L p=true∧fJ P ops S p=true∧F.contains p=false)∧
   (∀k,m≤k→k<n→L k=true→fJ P ops S k=true→F.contains k=true):=by
 have key: ∃m,m≤n∧n9 P F base ops S L m=(S m).2∧(m=0∨∃p,m=p+1∧L p=true∧fJ P ops S p=true∧F.contains p=false)∧
   (∀k,m≤k→k<n→L k=true→fJ P ops S k=true→F.contains k=true):=by
  induction n with
  |zero=>exact⟨0,Nat.le_refl _,rfl,.inl rfl,λk _ hk=>by omega⟩
  |succ k ih=>
   by_cases e:L k=true∧fJ P ops S k=true∧F.contains k=false
   ·refine⟨k+1,Nat.le_refl _,?_,.inr ⟨k,rfl,e.1,e.2.1,e.2.2⟩,λj h1 h2=>by omega⟩
    rw[n9,if_pos ⟨e.1,e.2.1⟩,if_neg (by rw[e.2.2];simp)]
   ·obtain⟨m,h1,h2,h3,h4⟩:=ih;refine⟨m,by omega,h2,h3,λj a1 a2 a3 a4=>?_⟩
    by_cases ej:j=k
    ·subst ej;cases hf:F.contains j with
     |true=>rfl
     |false=>exact absurd ⟨a3,a4,hf⟩ e
    ·exact h4 j a1 (by omega) a3 a4
 obtain⟨m,h1,h2,h3,h4⟩:=key;refine⟨m,h1,?_,h3,h4⟩;have:=Ek (base:=base) (L:=L) hF (m:=m) (n-m) (λk a b=>h4 k a (by omega))
 rw[show m+(n-m)=n by omega] at this
 rw[this,h2]
theorem Jl {j k:Nat}(hj:F.contains j=true)(BN:j≠k)(X:aa):ug F base S j (ug F base S k X)=ug F base S k (ug F base S j X):=by
 unfold ug;exact sC (Gc hj BN) _
theorem sG (X:aa)(m:Nat): ∀d,cL F base S L X m (d+1)=cL F base S L (if L m=true∧F.contains m=true then ug F base S m X else X) (m+1) d:=by
 intro d;induction d with
 |zero=>simp only[cL,Nat.add_zero]
 |succ d ih=>
  rw[cL,ih]
  conv=>rhs;rw[cL]
  rw[show m+1+d=m+(d+1) by omega]
theorem B7 {X:aa}{m:Nat}: ∀d,(∀k,m≤k→k<m+d→L' k=L k)→cL F base S L' X m d=cL F base S L X m d:=by
 intro d;induction d with
 |zero=>intro _;rfl
 |succ d ih=>
  intro h;rw[cL,cL,ih (λk h1 h2=>h k h1 (by omega)),h (m+d) (by omega) (by omega)]
theorem nG {X:aa}{m j:Nat}(_hj:F.contains j=true)(hf:cJ X (base+F.idxOf j)): ∀d,(∀k,m≤k→k<m+d→L k=true→k≠j)→cJ (cL F base S L X m d) (base+F.idxOf j):=by
 intro d;induction d with
 |zero=>intro _;exact hf
 |succ d ih=>
  intro h;rw[cL];have:=ih (λk h1 h2=>h k h1 (by omega))
  by_cases c:L (m+d)=true∧F.contains (m+d)=true
  ·rw[if_pos c];exact this.set (Gc c.2 (h _ (by omega) (by omega) c.1)) _
  ·rw[if_neg c];exact this
theorem B8 {f:aa→Option (Value×aa)}{X X':aa}{v:Value}{m:Nat}(hup: ∀k,F.contains k=true→m≤k→∀Y b,Up (base+F.idxOf k) b Y (f Y) (f (Y.lay (base+F.idxOf k) b)))(h:f X=some (v,X')):
  ∀d,(∀k,m≤k→F.contains k=true→cJ X (base+F.idxOf k))→f (cL F base S L X m d)=some (v,cL F base S L X' m d):=by
 intro d;induction d with
 |zero=>intro _;exact h
 |succ d ih=>
  intro hf;have:=ih hf
  rw[cL,cL];by_cases c:L (m+d)=true∧F.contains (m+d)=true
  ·rw[if_pos c,if_pos c];have mr:cJ (cL F base S L X m d) (base+F.idxOf (m+d)):=nG c.2 (hf _ (by omega) c.2) d (λk h1 h2 _=>by omega)
   exact(hup _ c.2 (by omega) _ _ mr _ _ this).2
  ·rw[if_neg c,if_neg c];exact this
theorem UD {i n:Nat}(Jj:i<n)(h0:L i=false)(h1:L' i=true)(dX: ∀k,k≠i→L' k=L k):pt L' n+1=pt L n:=by
 induction n with
 |zero=>omega
 |succ k ih=>
  have Af: ∀m,m≤i→pt L' m=pt L m:=by
   intro m hm;induction m with
   |zero=>rfl
   |succ j ihj=>rw[pt,pt,dX j (by omega),ihj (by omega)]
  by_cases e:i=k
  ·subst e;rw[pt,pt,h0,h1,Af i (Nat.le_refl _)];simp
  ·rw[pt,pt,dX k (by omega)];have:=ih (by omega);omega
theorem MX {n:Nat}(h:pt L n=0): ∀k,k<n→L k=true:=by
 induction n with
 |zero=>intro k hk;omega
 |succ m ih=>
  rw[pt] at h;intro k hk;by_cases e:k=m
  ·subst e;cases hl:L k with
   |true=>rfl
   |false=>rw[hl] at h;simp at h
  ·exact ih (by omega) k (by omega)
theorem xe {a b:Value}(h:pa a b=true):a=b:=by
 unfold pa at h;split at h
 ·simpa using h
 ·simp only[Bool.and_eq_true,decide_eq_true_eq,beq_iff_eq] at h;rw[h.1,h.2]
 ·simpa using h
 ·simpa using h
 ·simp only[Bool.and_eq_true,decide_eq_true_eq,beq_iff_eq] at h;rw[h.1.1,h.1.2,h.2]
 ·simpa using h
 ·rfl
 ·rfl
 ·cases h
theorem sH: ∀{a b:List Value},oZ pa a b=true→a=b
 | [],[],_=>rfl
 |a::x,b::y,h=>by
  simp only[oZ,Bool.and_eq_true] at h;rw[xe h.1,sH h.2]
 | [],_::_,h=>by simp[oZ] at h
 |_::_,[],h=>by simp[oZ] at h
theorem Bh {a b:Value}(h:jE a b=true):a=b:=by
 unfold jE at h;split at h
 ·have:=sH h
  rw[Array.toList_inj] at this;rw[this]
 ·exact xe h
theorem Jm {r e:Nat}{x y:Oper}(hx:ops[r]? =some x)(hy:ops[e]? =some y)(h1:cls P x.op= .read)(h2:cls P y.op= .zS)(h3:vF (Region.before ops) r e=false)(h4:vF (Region.before ops) e r=false):(r,e)∈mK P ops:=by
 unfold mK;rw[List.mem_flatMap];refine⟨r,List.mem_range.2 (Array.getElem?_eq_some_iff.1 hx).1,?_⟩;rw[List.mem_filterMap];refine⟨e,List.mem_range.2 (Array.getElem?_eq_some_iff.1 hy).1,?_⟩;simp[hx,hy,h1,h2,h3,h4]
structure sI (P:Program) (C:ae) (F:List Nat) (base:Nat) (ops:Array Oper) (S:Nat→Env×aa) (val:Nat→Value):Prop where
 st: ∀(k:Nat) (o:Oper),ops[k]? =some o→w9 P C F base ops k o (S k) (S (k+1)) (val k)
 MY:vG ops=true
 ZQ: ∀(k:Nat) (o:Oper),ops[k]? =some o→cls P o.op≠ .bad
 pair: ∀(i j:Nat),i<j→j<ops.size→BJ P F (Region.before ops) ops i j=true
 ab2: ∀(r e:Nat) (x y:Oper),ops[r]? =some x→ops[e]? =some y→cls P x.op= .read→cls P y.op= .zS→vF (Region.before ops) r e=false→vF (Region.before ops) e r=false→
  ee ops x (S r).1=some true→fJ P ops S e=true→(im P (fa (S r).1) (S r).2 x.op).map Prod.fst=(im P (fa (S r).1) (S e).2 x.op).map Prod.fst∧
   (im P (fa (S r).1) (S r).2 x.op).map Prod.fst=(im P (fa (S r).1) (S (e+1)).2 x.op).map Prod.fst
 lay: ∀k,F.contains k=true→∃o,ops[k]? =some o∧tW o=true
 free: ∀k,F.contains k=true→cJ (S 0).2 (base+F.idxOf k)
 hole:gM C
theorem rB {o:Oper}(h:tW o=true):cls P o.op= .zS∧o.guard=none:=by
 unfold tW at h;simp only[Bool.and_eq_true,Option.isNone_iff_eq_none] at h;obtain⟨h1,h2⟩:=h;refine⟨?_,h1⟩;split at h2
 ·rename_i e;rw[e];rfl
 ·rename_i e;rw[e];rfl
 ·rename_i e;rw[e];rfl
 ·cases h2
theorem Gd (H:aa){n k:Nat}(h:k<n):cJ (H.dr n) (H.length+k):=by
 unfold cJ aa.dr;rw[List.getElem?_append_right (by omega),List.getElem?_replicate]
 rw[if_pos (by omega)]
theorem sI.of {E E':Env}(hH:gM C)(fP:FI P ops=true)(dU:fF P C ops true E H=some (E',H')):
  ∃F base S val,sI P C F base ops S val∧S 0=(E,H.dr F.length)∧S ops.size=(E',H'):=by
 unfold fF at dU;simp only[if_true] at dU;have ZR:dI P C (lS P ops) H.length ops ops.toList 0 E (H.dr (lS P ops).length)=some (E',H')∧(mK P ops).all (je P ops (eW P C (lS P ops) H.length ops ops.toList 0 E (H.dr (lS P ops).length)))=true:=by
  cases hF:lS P ops with
  |nil=>
   rw[hF] at dU;simp only at dU;have e0:H.dr ([]:List Nat).length=H:=by simp[aa.dr]
   rw[e0,(jj ops.toList 0 E H).1,(jj ops.toList 0 E H).2];split at dU
   ·rename_i hc;exact⟨dU,by rw[hc];rfl⟩
   ·rename_i cs hc;split at dU
    ·rename_i fC;exact⟨dU,fC⟩
    ·cases dU
  |cons f F=>
   rw[hF] at dU;simp only at dU;split at dU
   ·rename_i hc;exact⟨dU,by rw[hc];rfl⟩
   ·rename_i cs hc;split at dU
    ·rename_i fC;exact⟨dU,fC⟩
    ·cases dU
 obtain⟨hr,ZS⟩:=ZR;obtain⟨S,val,h0,hl,kW,ZP⟩:=Gb ops.toList 0 E _ _ hr;simp only[FI,Bool.and_eq_true,List.all_eq_true,List.mem_range,decide_eq_true_eq] at fP;obtain⟨⟨ZT,Ge⟩,ZU⟩:=fP;refine⟨lS P ops,H.length,S,val,⟨λk o ho=>by have:=kW k o (by simpa using ho);rwa [Nat.zero_add] at this,ZT,?_,λi j DN hj=>ZU j hj i DN,?_,?_,?_,hH⟩,h0,by simpa using hl⟩
 ·intro k o ho;exact Ge o (by simpa using Array.mem_of_getElem? ho)
 ·intro r e x y hx hy ZV sJ h1 h2 hw P9;have hm:=Jm (ops:=ops) hx hy ZV sJ h1 h2;have hc:=List.all_eq_true.1 ZS _ hm;have hrs:r<ops.size:=(Array.getElem?_eq_some_iff.1 hx).1;have zT:e<ops.size:=(Array.getElem?_eq_some_iff.1 hy).1;have t1:=ZP r (by simp;omega)
  have t2:=ZP e (by simp;omega)
  have t3:=ZP (e+1) (by simp;omega)
  unfold je at hc;simp only[t1,t2,t3,hx,hy] at hc;have hwe:ee ops y (S e).1=some true:=by simpa[fJ,hy,sJ] using P9
  simp only[hw,hwe] at hc;split at hc
  ·rename_i u _ u1 _ u2 _ e1 e2 e3;simp only[Bool.and_eq_true] at hc;rw[e1,e2,e3];simp only[Option.map_some];rw[←Bh hc.1, ←Bh hc.2];exact⟨rfl,rfl⟩
  ·cases hc
 ·intro k hk;have ZW:k∈lS P ops:=by simpa using hk
  unfold lS at ZW;simp only[List.mem_filter,List.mem_range] at ZW;obtain⟨_,h2⟩:=ZW;split at h2
  ·rename_i y hy;simp only[Bool.and_eq_true] at h2;exact⟨y,hy,h2.1⟩
  ·cases h2
 ·intro k hk;rw[h0];exact Gd H (List.idxOf_lt_length_of_mem (by simpa using hk))
theorem sI.Qw (h:sI P C F base ops S val): ∀k,F.contains k=true→fJ P ops S k=true:=by
 intro k hk;obtain⟨o,ho,hf⟩:=h.lay k hk;obtain⟨h1,h2⟩:=rB (P:=P) hf;simp[fJ,ho,h1,ee,h2]
theorem sI.same (h:sI P C F base ops S val): ∀k,k<ops.size→fJ P ops S k=false→(S (k+1)).2=(S k).2:=by
 intro k hk he;have ho:ops[k]? =some ops[k]:=Array.getElem?_eq_getElem hk;refine Jk (h.st k _ ho) ho (h.ZQ k _ ho) (λhF=>?_) he
 obtain⟨o,Mr,hf⟩:=h.lay k hF;rw[ho] at Mr;cases Mr;exact(rB hf).1
theorem sI.Gf (h:sI P C F base ops S val)(k:Nat)(hk:F.contains k=true): ∃o mk,ops[k]? =some o∧cJ (S k).2 (base+F.idxOf k)∧AT P (fa (S k).1) o.op=some (mk,bOf F base S k)∧val k=mk (base+F.idxOf k)∧(S (k+1)).2=ug F base S k (S k).2:=by
 obtain⟨o,ho,hf⟩:=h.lay k hk;obtain⟨_,hg⟩:=rB (P:=P) hf;rcases(h.st k o ho).2 with⟨hw,hx⟩|⟨hw,_⟩
 ·unfold dV at hx;rw[if_pos hk] at hx;unfold qN at hx;split at hx
  case h_2=>cases hx
  rename_i mr;split at hx
  case h_2=>cases hx
  rename_i mk b hb;have Jf:=Option.some.inj hx;have e1:mk (base+F.idxOf k)=val k:=congrArg Prod.fst Jf;have e2:(S k).2.set (base+F.idxOf k) (.jD b)=(S (k+1)).2:=congrArg Prod.snd Jf;have ZX:cJ (S k).2 (base+F.idxOf k):=mr;have eb:bOf F base S k=b:=by
   unfold bOf;rw[←e2];have:aa.get (List.set (S k).2 (base+F.idxOf k) (.jD b)) (base+F.idxOf k)=some b:=nF ZX.lt;rw[this]
  refine⟨o,mk,ho,ZX,by rw[eb];exact hb,e1.symm,?_⟩
  rw[←e2];unfold ug;rw[eb];rfl
 ·simp[ee,hg] at hw
theorem sI.Gg (h:sI P C F base ops S val){k:Nat}(hk:F.contains k=true): ∀m,m≤k→cJ (S m).2 (base+F.idxOf k):=by
 intro m;induction m with
 |zero=>intro _;exact h.free k hk
 |succ m ih=>
  intro hm;have hfm:=ih (by omega)
  obtain⟨ok,fP,_⟩:=h.lay k hk;have hkl:k<ops.size:=(Array.getElem?_eq_some_iff.1 fP).1;have ho:ops[m]? =some ops[m]:=Array.getElem?_eq_getElem (by omega)
  rcases(h.st m _ ho).2 with⟨hw,hx⟩|⟨_,_,hx⟩
  ·rw[←uW] at hx;exact(uX (b:=default) h.hole (λhc=>Gc hc (by omega)) hfm _ _ hx).1
  ·rw[hx];exact hfm
theorem sI.comes (h:sI P C F base ops S val){i:Nat}{o:Oper}(ho:ops[i]? =some o)(hi:L i=false)(hLi:L' i=true)(MZ: ∀k,k≠i→L' k=L k)(Af: ∀k,k<i→L k=false→vF (Region.before ops) k i=false)(HE: ∀k,L k=true→vF (Region.before ops) i k=false):
  (∀t∈o.looksAt ops,mu ops S val L ops.size t=(S i).1.get t)∧(∀t,o.dst=some t→∀k,i<k→k<ops.size→jK ops k=some t→L k=false)∧
  (ee ops o (S i).1=some true→gO P C F base i (S i).1.get (n9 P F base ops S L ops.size) o=some (val i,n9 P F base ops S L' ops.size))∧
  (fJ P ops S i=false→n9 P F base ops S L' ops.size=n9 P F base ops S L ops.size):=by
 have Jj:i<ops.size:=(Array.getElem?_eq_some_iff.1 ho).1;have low: ∀(k:Nat) (x:Oper),k<i→ops[k]? =some x→L k=false→x.apart ops o=true∧(cls P x.op= .zS→cls P o.op= .zS→F.contains i=true):=by
  intro k x hk hx hl;have hp:=h.pair k i hk Jj;unfold BJ at hp;rw[hx,ho] at hp;simp only[Af k hk hl,Bool.false_or,Bool.and_eq_true] at hp;obtain⟨h1,h2⟩:=hp;refine⟨h1,λa b=>?_⟩
  rw[a,b] at h2;simpa using h2
 have high: ∀(k:Nat) (y:Oper),i<k→ops[k]? =some y→L k=true→o.apart ops y=true∧(cls P o.op= .zS→cls P y.op= .zS→F.contains k=true):=by
  intro k y hk hy hl;have UE:k<ops.size:=(Array.getElem?_eq_some_iff.1 hy).1;have hp:=h.pair i k hk UE;unfold BJ at hp;rw[hy,ho] at hp;simp only[HE k hl,Bool.false_or,Bool.and_eq_true] at hp;obtain⟨h1,h2⟩:=hp;refine⟨h1,λa b=>?_⟩
  rw[a,b] at h2;simpa using h2
 have El: ∀(k:Nat),fJ P ops S k=true→∃x,ops[k]? =some x∧cls P x.op= .zS∧ee ops x (S k).1=some true:=by
  intro k hk;unfold fJ at hk;split at hk
  ·rename_i x hx;simp only[Bool.and_eq_true,decide_eq_true_eq,beq_iff_eq] at hk;exact⟨x,hx,hk.1,hk.2⟩
  ·cases hk
 have quiet:fJ P ops S i=false→n9 P F base ops S L' ops.size=n9 P F base ops S L ops.size:=λhe=>
  Ej λk _ hk=>MZ k (by rintro rfl;rw[he] at hk;cases hk)
 obtain⟨m,hmn,Jd,DP,M5⟩:=MW (P:=P) (base:=base) (ops:=ops) (S:=S) (L:=L) h.Qw ops.size;have down: ∀a,m≤a→a<i→(fJ P ops S a=false∨L a=true)→cL F base S L (S a).2 a (ops.size-a)=cL F base S L (S (a+1)).2 (a+1) (ops.size-(a+1)):=by
  intro a h1 h2 h3;rw[show ops.size-a=(ops.size-(a+1))+1 by omega,sG]
  by_cases he:fJ P ops S a=true
  ·have hl:L a=true:=by
    rcases h3 with h3|h3
    ·rw[he] at h3;cases h3
    ·exact h3
   have hf:=M5 a h1 (by omega) hl he
   rw[if_pos ⟨hl,hf⟩];obtain⟨_,_,_,_,_,_,e⟩:=h.Gf a hf;rw[e]
  ·have ZY:fJ P ops S a=false:=by simpa using he
   rw[if_neg (λx=>he (h.Qw a x.2)),h.same a (by omega) ZY]
 refine⟨?_,?_,?_,quiet⟩
 ·intro t ht;rw[Ei (i:=i) (by omega),HC (P:=P) (C:=C) (F:=F) (base:=base) h.st (by omega)]
  ·intro k hk hd;cases hl:L k with
   |true=>rfl
   |false=>
    have UE:k<ops.size:=by omega
    have hx:ops[k]? =some ops[k]:=Array.getElem?_eq_getElem UE;obtain⟨h1,_,_⟩:=Oper.apart_spec (low k _ hk hx hl).1;exact absurd ht (h1 t (by simpa[jK,hx] using hd))
  ·intro k hk UE hd;by_cases e:k=i
   ·subst e;exact hi
   ·cases hl:L k with
    |false=>rfl
    |true=>
     have hy:ops[k]? =some ops[k]:=Array.getElem?_eq_getElem UE;obtain⟨_,_,h3⟩:=Oper.apart_spec (high k _ (by omega) hy hl).1
     exact absurd ht (h3 t (by simpa[jK,hy] using hd))
 ·intro t ht k hk UE hd;cases hl:L k with
  |false=>rfl
  |true=>
   have hy:ops[k]? =some ops[k]:=Array.getElem?_eq_getElem UE;obtain⟨_,h2,_⟩:=Oper.apart_spec (high k _ hk hy hl).1;exact absurd (by simpa[jK,hy] using hd) (h2 t ht)
 ·intro hw;have kW:=h.st i o ho;have hx:dV P C F base i (S i).1 (S i).2 o=some (val i,(S (i+1)).2):=by
   rcases kW.2 with⟨_,hx⟩|⟨Ag,_,_⟩
   ·exact hx
   ·rw[hw] at Ag;cases Ag
  have Jf:=hx;rw[←uW] at Jf;have ab3:cls P o.op= .zS→m≤i:=by
   intro sJ;rcases DP with rfl|⟨p,rfl,Mq,hp2,hp3⟩
   ·omega
   ·have dX:p≠i:=by rintro rfl;rw[hi] at Mq;cases Mq
    have hpn:p<ops.size:=by omega
    obtain⟨y,hy,ZZ,_⟩:=El p hp2;by_cases eR:i<p
    ·have:=(high p y eR hy Mq).2 sJ ZZ
     rw[hp3] at this;cases this
    ·omega
  by_cases sJ:cls P o.op= .zS
  ·have P9:fJ P ops S i=true:=by simp[fJ,ho,sJ,hw]
   have hmi:=ab3 sJ;by_cases hF:F.contains i=true
   ·
    obtain⟨o',mk,Mr,mr,hb,hv,_⟩:=h.Gf i hF;rw[ho] at Mr;cases Mr;have UF:cJ (n9 P F base ops S L ops.size) (base+F.idxOf i):=by
     rw[Jd];exact nG hF (h.Gg hF m hmi) _ (λk _ _ hk e=>by subst e;rw[hi] at hk;cases hk)
    have Ah:n9 P F base ops S L' ops.size=ug F base S i (n9 P F base ops S L ops.size):=by
     have key: ∀n,i<n→n9 P F base ops S L' n=ug F base S i (n9 P F base ops S L n)∨∃p,i<p∧p<n∧L p=true∧fJ P ops S p=true∧F.contains p=false:=by
      intro n;induction n with
      |zero=>intro h;omega
      |succ n ih=>
       intro hn;by_cases e:i=n
       ·subst e;left
        rw[n9,n9,if_pos ⟨hLi,P9⟩,if_pos hF,if_neg (by rw[hi];simp),Ej (λk hk _=>MZ k (by omega))]
       ·rcases ih (by omega) with ih|⟨p,a1,a2,a3⟩
        ·rw[n9,n9,MZ n (Ne.symm e)];by_cases c:L n=true∧fJ P ops S n=true
         ·rw[if_pos c,if_pos c];by_cases hFn:F.contains n=true
          ·left
           rw[if_pos hFn,if_pos hFn,ih,Jl hFn (Ne.symm e)]
          ·right
           exact⟨n,by omega,by omega,c.1,c.2,by simpa using hFn⟩
         ·rw[if_neg c,if_neg c];exact .inl ih
        ·exact .inr ⟨p,a1,by omega,a3⟩
     rcases key ops.size Jj with e|⟨p,a1,a2,a3,a4,a5⟩
     ·exact e
     ·obtain⟨y,hy,ZZ,_⟩:=El p a4;have:=(high p y a1 hy a3).2 sJ ZZ
      rw[a5] at this;cases this
    unfold gO;rw[if_pos hF];unfold qN;have ab4:(n9 P F base ops S L ops.size)[base+F.idxOf i]? =some .hole:=UF;rw[ab4];simp only[gN,hb,hv,Ah];rfl
   ·
    have hF':F.contains i=false:=by simpa using hF
    have Qx: ∀q,q<i→fJ P ops S q=true→L q=true:=by
     intro q hq he;obtain⟨x,B9,hx2,_⟩:=El q he;cases hl:L q with
     |true=>rfl
     |false=>exact absurd ((low q x hq B9 hl).2 hx2 sJ) hF
    have hS: ∀d a,a+d=i→m≤a→cL F base S L (S a).2 a (ops.size-a)=cL F base S L (S i).2 i (ops.size-i):=by
     intro d;induction d with
     |zero=>
      intro a e _;have:a=i:=by omega
      subst this;rfl
     |succ d ih=>
      intro a e hma;rw[down a hma (by omega) (by
       cases he:fJ P ops S a with
       |false=>exact .inl rfl
       |true=>exact .inr (Qx a (by omega) he))]
      exact ih (a+1) (by omega) (by omega)
    have hh:n9 P F base ops S L ops.size=cL F base S L (S i).2 (i+1) (ops.size-(i+1)):=by
     rw[Jd,hS (i-m) m (by omega) (Nat.le_refl _),show ops.size-i=(ops.size-(i+1))+1 by omega,sG,if_neg (λx=>hF x.2)]
    have hh':n9 P F base ops S L' ops.size=cL F base S L (S (i+1)).2 (i+1) (ops.size-(i+1)):=by
     have Ms:n9 P F base ops S L' (i+1)=(S (i+1)).2:=by
      rw[n9,if_pos ⟨hLi,P9⟩,if_neg hF]
     have:=Ek (base:=base) (L:=L') h.Qw (m:=i+1) (ops.size-(i+1)) (λk a b c e=>by
      rw[MZ k (by omega)] at c
      obtain⟨y,hy,ZZ,_⟩:=El k e;exact(high k y (by omega) hy c).2 sJ ZZ)
     rw[show i+1+(ops.size-(i+1))=ops.size by omega,Ms] at this
     rw[this];exact B7 _ (λk a _=>MZ k (by omega))
    rw[hh,hh'];refine B8 (f:=λX=>gO P C F base i (S i).1.get X o) (λk hk hki Y b=>uX h.hole (λhc=>by rw[hF'] at hc;cases hc)) Jf _ (λk hk hkF=>h.Gg hkF i (by omega))
  ·have P9:fJ P ops S i=false:=by simp[fJ,ho,sJ]
   have hnF:F.contains i=false:=by
    cases hc:F.contains i with
    |false=>rfl
    |true=>
     have:=h.Qw i hc
     rw[P9] at this;cases this
   have pw:=h.same i Jj P9;rw[quiet P9];have Mn: ∀H2,gO P C F base i (S i).1.get H2 o=im P (iR (S i).1.get) H2 o.op:=by
    intro H2;unfold gO;rw[if_neg (by rw[hnF];simp)]
    unfold jY;split
    ·rename_i e;rw[e] at sJ;exact absurd rfl sJ
    ·rfl
   rw[Mn] at Jf ⊢;have Ge:=h.ZQ i o ho;cases tP:cls P o.op with
   |zS=>exact absurd tP sJ
   |bad=>exact absurd tP Ge
   |pure=>exact MU tP Jf _
   |read=>
    have hu:(im P (fa (S i).1) (S i).2 o.op).map Prod.fst=some (val i):=by rw[←gN,Jf];rfl
    have Em: ∀H2,(im P (fa (S i).1) H2 o.op).map Prod.fst=some (val i)→im P (iR (S i).1.get) H2 o.op=some (val i,H2):=by
     intro H2 h2;rw[Option.map_eq_some_iff] at h2;obtain⟨⟨u,H3⟩,h3,e⟩:=h2;cases e;rw[gN,h3];rw[Bf (P:=P) (by rw[tP];simp) (by rw[tP];simp) h3]
    refine Em _ ?_;have cf: ∀(e:Nat) (y:Oper),ops[e]? =some y→fJ P ops S e=true→vF (Region.before ops) i e=false→vF (Region.before ops) e i=false→
      (im P (fa (S i).1) (S e).2 o.op).map Prod.fst=some (val i)∧(im P (fa (S i).1) (S (e+1)).2 o.op).map Prod.fst=some (val i):=by
     intro e y hy Z0 h1 h2;obtain⟨x,B9,hx2,Y9⟩:=El e Z0;rw[hy] at B9;cases B9;obtain⟨c1,c2⟩:=h.ab2 i e o y ho hy tP hx2 h1 h2 hw Z0;rw[hu] at c1 c2;exact⟨c1.symm,c2.symm⟩
    have Z1: ∀q,i≤q→vF (Region.before ops) q i=false:=by
     intro q hq;cases hb:vF (Region.before ops) q i with
     |false=>rfl
     |true=>have:=MT h.MY i q hb;omega
    have UG: ∀q,q≤i→vF (Region.before ops) i q=false:=by
     intro q hq;cases hb:vF (Region.before ops) i q with
     |false=>rfl
     |true=>have:=MT h.MY q i hb;omega
    have told: ∀(a d:Nat),(∀k,a≤k→k<a+d→F.contains k=true→cJ (S a).2 (base+F.idxOf k))→(im P (fa (S i).1) (S a).2 o.op).map Prod.fst=some (val i)→
      (im P (fa (S i).1) (cL F base S L (S a).2 a d) o.op).map Prod.fst=some (val i):=by
     intro a d mr ha;have ha2:im P (fa (S i).1) (S a).2 o.op=some (val i,(S a).2):=by have:=Em _ ha;rwa [gN] at this
     have key: ∀d',d'≤d→im P (fa (S i).1) (cL F base S L (S a).2 a d') o.op=some (val i,cL F base S L (S a).2 a d'):=by
      intro d';induction d' with
      |zero=>intro _;exact ha2
      |succ d' ih=>
       intro hd;have:=ih (by omega)
       rw[cL];by_cases c:L (a+d')=true∧F.contains (a+d')=true
       ·rw[if_pos c];have UF:cJ (cL F base S L (S a).2 a d') (base+F.idxOf (a+d')):=nG c.2 (mr _ (by omega) (by omega) c.2) d' (λk h1 h2 _=>by omega)
        exact(pZ UF _ _ this).2
       ·rw[if_neg c];exact this
     rw[key d (Nat.le_refl _)];rfl
    have frs: ∀a,∀k,a≤k→k<a+(ops.size-a)→F.contains k=true→cJ (S a).2 (base+F.idxOf k):=λa k h1 _ hk=>h.Gg hk a h1
    rw[Jd];by_cases hmi:m≤i
    ·
     have A: ∀d a,a+d=i→m≤a→(im P (fa (S i).1) (cL F base S L (S a).2 a (ops.size-a)) o.op).map Prod.fst=some (val i):=by
      intro d;induction d with
      |zero=>
       intro a e _;have:a=i:=by omega
       subst this;exact told a _ (frs a) hu
      |succ d ih=>
       intro a e hma;by_cases hd:fJ P ops S a=false∨L a=true
       ·rw[down a hma (by omega) hd];exact ih (a+1) (by omega) (by omega)
       ·have he:fJ P ops S a=true:=by
         cases hh:fJ P ops S a with
         |true=>rfl
         |false=>exact absurd (.inl hh) hd
        have hl:L a=false:=by
         cases hh:L a with
         |false=>rfl
         |true=>exact absurd (.inr hh) hd
        exact told a _ (frs a) (cf a _ (Array.getElem?_eq_getElem (by omega)) he (UG a (by omega)) (Af a (by omega) hl)).1
     exact A (i-m) m (by omega) (Nat.le_refl _)
    ·rcases DP with rfl|⟨p,rfl,Mq,hp2,hp3⟩
     ·omega
     ·have hpi:i≤p:=by omega
      exact told (p+1) _ (frs (p+1)) (cf p _ (Array.getElem?_eq_getElem (by omega)) hp2 (HE p Mq) (Z1 p hpi)).2
structure Inv (P:Program) (F:List Nat) (base:Nat) (ops:Array Oper) (S:Nat→Env×aa) (val:Nat→Value) (N B:Nat) (a0:Act) (w0:World) (μ0:Mu) (bV:Array Bool) (a:Act) (w:World) (μ:Mu):Prop where
 size:bV.size=ops.size
 shut: ∀(j:Nat) (o:Oper),ops[j]? =some o→bV.getD j false=true→∀e∈o.after,Region.binds .any e=true→bV.getD e.on false=true
 env:fi μ (mu ops S val (λk=>bV.getD k false) ops.size) a.tmps
 sim:cQ P μ (n9 P F base ops S (λk=>bV.getD k false) ops.size) w B
 tmps:N≤a.tmps.size
 Tt:a.tmps.size=a0.tmps.size
 defers:a.defers=a0.defers
 below:fI B w0 w
 le:μ0.le μ
theorem Ai {ro:Option Nat}{n:Nat}{C:ae}{F:List Nat}{base k:Nat}{E:Nat→Value}{o:Oper}{v:Value}{a:Act}{K:Act→World→Prop}{Q:Exit→Act→World→Prop}(hC:vf P B C)(hS:cQ P μ H w B)(hE:fi μ E a.tmps)(HD:F.contains k=true→tW o=true)(h:gO P C F base k E H o=some (v,H'))(hK: ∀v' μ' w',μ.le μ'→VR μ' v v'→cQ P μ' H' w' B→fI B w w'→K (a.put o.dst v') w'):o.wpIn (FR ro) n P a w K Q:=by
 unfold gO at h;split at h
 ·rename_i hc;have Tr: ∀c,o.op≠ .defer c:=by
   intro c e;have:=HD hc
   unfold tW at this;rw[e] at this;simp at this
  refine⟨λ_ _=>trivial,?_⟩
  rw[Oper.semAt_eq _ _ _ Tr];obtain⟨v',μ',w',hr,hle,hv,pg,hB⟩:=Eg (o:=o) hS hE.eval h;rcases hr with hr|⟨hr,rfl⟩
  ·rw[hr];exact hK v' μ' w' hle hv pg hB
  ·rw[hr];exact hK undef μ' w' hle hv pg hB
 ·exact sF hC hS hE h hK
theorem cQ.dr (h:cQ P μ H w B)(n:Nat):cQ P μ (H.dr n) w B:=by
 have hg: ∀{i:Nat} {b:eu},(H.dr n).get i=some b→H.get i=some b:=by
  intro i b hb;rw[aa.rV] at hb ⊢;unfold aa.dr at hb;by_cases e:i<H.length
  ·rwa [List.getElem?_append_left e] at hb
  ·rw[List.getElem?_append_right (by omega),List.getElem?_replicate] at hb
   split at hb<;>cases hb
 have ho: ∀{i:Nat} {b:dg},(H.dr n).cT i=some b→H.cT i=some b:=by
  intro i b hb;rw[aa.rW] at hb ⊢;unfold aa.dr at hb;by_cases e:i<H.length
  ·rwa [List.getElem?_append_left e] at hb
  ·rw[List.getElem?_append_right (by omega),List.getElem?_replicate] at hb
   split at hb<;>cases hb
 refine⟨h.base,λi b hb=>h.ok i b (hg hb),λi hi=>h.z3 i (by simp[aa.dr] at hi;omega),λi j b c l m hb hc=>h.inj i j b c l m (hg hb) (hg hc),λi b l hb=>h.own i b l (hg hb),
  h.cT.keep μ.le_refl (λ_ _=>ho) (λ_ _ h _=>h),λi hi=>?_⟩
 by_cases e:i<H.length
 ·unfold aa.dr at hi;rw[List.getElem?_append_left e] at hi;exact h.vH i hi
 ·exact h.z3 i (by omega)
theorem Bi {bV:Array Bool}{i:Nat}(hi:i∈Region.ready .any ops bV)(hs:bV.size=ops.size):
  ∃o,ops[i]? =some o∧bV.getD i false=false∧∀e∈o.after,Region.binds .any e=true→bV.getD e.on false=true:=by
 unfold Region.ready at hi;rw[List.mem_filter] at hi;obtain⟨h1,h2⟩:=hi;have Jj:=List.mem_range.1 h1;simp only[Bool.and_eq_true,Bool.not_eq_true'] at h2;refine⟨ops[i],Array.getElem?_eq_getElem Jj,?_,?_⟩
 ·have:=h2.1
  rw[Array.getD_eq_getD_getElem?,Array.getElem?_eq_getElem (by omega)] at this ⊢
  exact this
 ·intro e he hb;have h3:=h2.2;rw[Array.getElem?_eq_getElem Jj] at h3;simp only[Option.map_some,Option.getD_some] at h3;have:=Array.all_eq_true_iff_forall_mem.1 h3 e he
  simpa[hb] using this
theorem Jn {bV:Array Bool}(he:vG ops=true)(hs:bV.size=ops.size)(h:Region.ready .any ops bV=[]): ∀k,k<ops.size→bV.getD k false=true:=by
 intro k;induction k using Nat.strongRecOn with
 |_ k ih=>
  intro hk;cases hl:bV.getD k false with
  |true=>rfl
  |false=>
   exfalso
   have hm:k∈Region.ready .any ops bV:=by
    unfold Region.ready;rw[List.mem_filter];refine⟨List.mem_range.2 hk,?_⟩;simp only[Bool.and_eq_true,Bool.not_eq_true'];constructor
    ·rw[Array.getD_eq_getD_getElem?,Array.getElem?_eq_getElem (by omega)] at hl ⊢
     exact hl
    ·rw[Array.getElem?_eq_getElem hk];simp only[Option.map_some,Option.getD_some];rw[Array.all_eq_true_iff_forall_mem];intro e hem;have h1:=List.all_eq_true.1 he k (List.mem_range.2 hk);rw[Array.getElem?_eq_getElem hk] at h1;have h2:=Array.all_eq_true_iff_forall_mem.1 h1 e hem;cases hb:Region.binds .any e with
     |false=>rfl
     |true=>
      have h3:e.on<k:=by simpa[hb] using h2
      rw[ih e.on h3 (by omega)];rfl
   rw[h] at hm;cases hm
theorem Gh {ro:Option Nat}{n:Nat}{N:Nat}{Q:Exit→Act→World→Prop}{a0:Act}{w0:World}{μ0:Mu}(hC:vf P B C)(hp:sI P C F base ops S val)(hd: ∀o∈ops.toList,∀d,o.dst=some d→d<N)(hQ: ∀a w μ,μ0.le μ→fi μ (S ops.size).1.get a.tmps→a.defers=a0.defers→a.tmps.size=a0.tmps.size→cQ P μ (S ops.size).2 w B→fI B w0 w→Q .normal a w):
  ∀(fuel:Nat) (bV:Array Bool) (a:Act) (w:World) (μ:Mu),pt (λk=>bV.getD k false) ops.size≤fuel→Inv P F base ops S val N B a0 w0 μ0 bV a w μ→wpAnyIn (FR ro) n P .any ops Q fuel bV a w:=by
 have fin: ∀(bV:Array Bool) (a:Act) (w:World) (μ:Mu),(∀k,k<ops.size→bV.getD k false=true)→Inv P F base ops S val N B a0 w0 μ0 bV a w μ→Q .normal a w:=by
  intro bV a w μ fC h;refine hQ a w μ h.le ?_ h.defers h.Tt ?_ h.below
  ·intro t;have:=h.env t
   rw[HC (P:=P) (C:=C) (F:=F) (base:=base) hp.st (Nat.le_refl _) (λk hk _=>fC k hk)] at this
   exact this
  ·have:=h.sim
   rw[UC (λk hk=>hp.same k hk) (λk _ hF _=>by obtain⟨_,_,_,_,_,_,e⟩:=hp.Gf k hF;exact e) (λk hk _=>fC k hk)] at this
   exact this
 intro fuel;induction fuel with
 |zero=>
  intro bV a w μ hc h;have fC:=MX (Nat.le_zero.1 hc);refine⟨?_,fin bV a w μ fC h⟩;cases hr:Region.ready .any ops bV with
  |nil=>rfl
  |cons i r=>
   exfalso
   obtain⟨o,ho,hl,_⟩:=Bi (ops:=ops) (i:=i) (by rw[hr];simp) h.size
   rw[fC i (Array.getElem?_eq_some_iff.1 ho).1] at hl;cases hl
 |succ fuel ih=>
  intro bV a w μ hc h;refine⟨λhr=>fin bV a w μ (Jn hp.MY h.size hr) h,?_⟩
  intro i hi;obtain⟨o,ho,hl,Jo⟩:=Bi hi h.size;have Jj:i<ops.size:=(Array.getElem?_eq_some_iff.1 ho).1;have ab5:i<bV.size:=by rw[h.size];exact Jj
  have Ca: ∀k,(bV.setIfInBounds i true).getD k false=if k=i then true else bV.getD k false:=by
   intro k;rw[Array.getD_eq_getD_getElem?,Array.getElem?_setIfInBounds];by_cases e:i=k
   ·subst e;simp[ab5]
   ·rw[if_neg e,if_neg (Ne.symm e),Array.getD_eq_getD_getElem?]
  have Tu: ∀(j:Nat) (o':Oper),ops[j]? =some o'→(bV.setIfInBounds i true).getD j false=true→∀e∈o'.after,Region.binds .any e=true→(bV.setIfInBounds i true).getD e.on false=true:=by
   intro j o' Mr hj e he hb;rw[Ca] at hj ⊢;by_cases e1:e.on=i
   ·rw[if_pos e1]
   ·rw[if_neg e1];by_cases e2:j=i
    ·subst e2;rw[ho] at Mr;cases Mr;exact Jo e he hb
    ·rw[if_neg e2] at hj;exact h.shut j o' Mr hj e he hb
  have Af: ∀k,k<i→bV.getD k false=false→vF (Region.before ops) k i=false:=by
   intro k hk hlk;cases hb:vF (Region.before ops) k i with
   |false=>rfl
   |true=>
    have:=wZ (L:=λk=>(bV.setIfInBounds i true).getD k false) Tu i (by show(bV.setIfInBounds i true).getD i false=true;rw[Ca,if_pos rfl]) k hb
    simp only[Ca,if_neg (show k≠i by omega),hlk] at this
    cases this
  have HE: ∀k,bV.getD k false=true→vF (Region.before ops) i k=false:=by
   intro k hk;cases hb:vF (Region.before ops) i k with
   |false=>rfl
   |true=>
    have:=wZ (L:=λk=>bV.getD k false) h.shut k hk i hb
    simp only[hl] at this;cases this
  obtain⟨c1,c2,c3,c4⟩:=hp.comes (L:=λk=>bV.getD k false) (L':=λk=>(bV.setIfInBounds i true).getD k false) ho hl (by simp[Ca]) (λk hk=>by simp[Ca,hk]) Af HE
  have UH: ∀t,o.dst=some t→t<a.tmps.size:=λt ht=>Nat.lt_of_lt_of_le (hd o (by simpa using Array.mem_of_getElem? ho) t ht) h.tmps
  have ZN:jK ops i=o.dst:=by simp[jK,ho]
  have ab6:pt (λk=>(bV.setIfInBounds i true).getD k false) ops.size≤fuel:=by
   have:=UD (L:=λk=>bV.getD k false) (L':=λk=>(bV.setIfInBounds i true).getD k false) Jj hl (by simp[Ca]) (λk hk=>by simp[Ca,hk])
   omega
  have hfe: ∀t,mu ops S val (λk=>(bV.setIfInBounds i true).getD k false) ops.size t=if o.dst=some t then val i else mu ops S val (λk=>bV.getD k false) ops.size t:=by
   intro t;rw[Qu (L:=λk=>bV.getD k false) (L':=λk=>(bV.setIfInBounds i true).getD k false) Jj (by simp[Ca]) (λk hk=>by simp[Ca,hk]) (λe k h1 h2 h3=>c2 t (by rw[←ZN];exact e) k h1 h2 h3),ZN]
  have kW:=hp.st i o ho;have haw:ry ops o (mu ops S val (λk=>bV.getD k false) ops.size)=ee ops o (S i).1:=by
   rw[←rz];exact B6 c1
  have next: ∀(v':Value) (μ':Mu) (w':World),μ.le μ'→VR μ' (val i) v'→cQ P μ' (n9 P F base ops S (λk=>(bV.setIfInBounds i true).getD k false) ops.size) w' B→fI B w w'→
    wpAnyIn (FR ro) n P .any ops Q fuel (bV.setIfInBounds i true) (a.put o.dst v') w':=by
   intro v' μ' w' hle hv pg hB;refine ih _ _ _ μ' ab6 ⟨by simp[h.size],Tu,?_,pg,by rw[cu];exact h.tmps,by rw[cu];exact h.Tt,by rw[put_defers];exact h.defers,h.below.trans hB,Mu.le_trans h.le hle⟩
   have:=fi.put (h.env.mono hle) hv o.dst UH
   intro t;rw[hfe];exact this t
  unfold wpOpIn;rw[ho];simp only;rcases kW.2 with⟨hw,_⟩|⟨hw,pz,_⟩
  ·rw[lZ h.env (by rw[haw];exact hw),if_pos rfl]
   have hx:=c3 hw;rw[←Ae c1] at hx;refine Ai hC h.sim h.env (λhc=>?_) hx ?_
   ·obtain⟨o',Mr,hf⟩:=hp.lay i hc;rw[ho] at Mr;cases Mr;exact hf
   ·intro v' μ' w' hle hv pg hB;exact next v' μ' w' hle hv pg hB
  ·rw[lZ h.env (by rw[haw];exact hw)]
   simp only[Bool.false_eq_true,if_false];have P9:fJ P ops S i=false:=by simp[fJ,ho,hw]
   refine⟨λ_ _=>trivial,?_⟩
   refine next undef μ w μ.le_refl (by rw[pz];exact dB.tuple (c:=#[]) (c':=#[]) .nil) ?_ (fI.refl _ _)
   rw[c4 P9];exact h.sim
theorem En {ro:Option Nat}{n:Nat}{N id:Nat}{E E':Env}{Q:Exit→Act→World→Prop}{a:Act}(hC:vf P B C)(hm:P.follows .mixedOrders=true)(fP:pc P N ops true=true)(dU:fF P C ops true E H=some (E',H'))(hN:N≤a.tmps.size)(hS:cQ P μ H w B)(hE:fi μ E.get a.tmps)(hQ: ∀a' w' μ',μ.le μ'→fi μ' E'.get a'.tmps→a'.defers=a.defers→a'.tmps.size=a.tmps.size→cQ P μ' H' w' B→fI B w w'→Q .normal a' w'):(Code.region id ops true).wpIn (FR ro) n P Q a w:=by
 simp only[pc,Bool.and_eq_true,Bool.not_true,Bool.false_or,List.all_eq_true] at fP;obtain⟨UH,Z2⟩:=fP;obtain⟨F,base,S,val,hp,h0,hn⟩:=sI.of (P:=P) (C:=C) hC.hole Z2 dU;refine wpIn_region_any hm ?_;have M6: ∀k,(Array.replicate ops.size false).getD k false=false:=by
  intro k;rw[Array.getD_eq_getD_getElem?,Array.getElem?_replicate];split<;>rfl
 have UI:fI B w {w with drawn:=w.drawn+1}:=(fI.refl B w).drew
 refine Gh (a0:=a) (w0:=w) (μ0:=μ) hC hp (N:=N) ?_ ?_ ops.size _ a _ μ ?_ ⟨by simp,?_,?_,?_,hN,rfl,rfl,UI,μ.le_refl⟩
 ·intro o ho d hd;have:=UH o ho
  rw[hd] at this;simpa using this
 ·intro a' w' μ' h1 h2 h3 h4 h5 h6;rw[hn] at h2 h5;exact hQ a' w' μ' h1 h2 h3 h4 h5 h6
 ·have: ∀m,pt (λk=>(Array.replicate ops.size false).getD k false) m≤m:=by
   intro m;induction m with
   |zero=>exact Nat.le_refl _
   |succ m ih=>rw[pt];split<;>omega
  exact this _
 ·intro j o _ hj;rw[M6] at hj;cases hj
 ·intro t;rw[Ei (i:=0) (by omega) (λk _ _ _=>M6 k)]
  show VR μ ((S 0).1.get t) _
  rw[h0];exact hE t
 ·have e: ∀n,n9 P F base ops S (λk=>(Array.replicate ops.size false).getD k false) n=(S 0).2:=by
   intro n;induction n with
   |zero=>rfl
   |succ n ih=>rw[n9,if_neg (by rw[M6];simp),ih]
  rw[e,h0];exact(hS.dr _).heap rfl
end Go.Proofs.YtjgmnoaalbbonaaGreatA.Am
end
