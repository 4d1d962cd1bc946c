/- Texts of the proof of helpPlays_holds, put together by a small program of ours (names shortened, spaces taken out). No condition beyond the given statement. -/
import Derived.Test.YtgfgglponbmgmaaGreatHPL6
set_option linter.unusedVariables false
set_option linter.unusedSimpArgs false
set_option linter.unnecessarySimpa false
noncomputable section
section
namespace Go.Proofs.YtgfgglponbmgmaaGreatA.Am
open Go.RowKit (Below)
variable {P:Program} {μ:Mu} {H H':aa} {w:World} {B:Nat}
section
variable (P:Program) (F:List Nat) (base:Nat) (ops:Array Oper) (S:Nat→Env×aa) (val:Nat→Value) (L:Nat→Bool)
def jA (k:Nat):Option Nat:=(ops[k]?).bind (·.dst)
def mB:Nat→Nat→Value
 |0,t=>(S 0).1.get t
 |k+1,t=>if L k=true∧jA ops k=some t then val k else mB k t
def fD (k:Nat):Bool:=match ops[k]? with
 |some o=>decide (cls P o.op= .zM)&&(dG ops o (S k).1==some true)
 |none=>false
def bOf (k:Nat):eW:=match (S (k+1)).2.get (base+F.idxOf k) with|some b=>b|none=>default
def rI (k:Nat)(X:aa):aa:=X.lay (base+F.idxOf k) (bOf F base S k)
def nL:Nat→aa
 |0=>(S 0).2
 |k+1=>if L k=true∧fD P ops S k=true then(if F.contains k then rI F base S k (nL k) else(S (k+1)).2) else nL k
def bO (X:aa)(m:Nat):Nat→aa
 |0=>X
 |d+1=>if L (m+d)=true∧F.contains (m+d)=true then rI F base S (m+d) (bO X m d) else bO X m d
def oI:Nat→Nat
 |0=>0
 |k+1=>oI k+if L k then 0 else 1
end
variable {F:List Nat} {base:Nat} {ops:Array Oper} {S:Nat→Env×aa} {val:Nat→Value} {L L':Nat→Bool} {C:ae}
theorem HU {i t:Nat}(kY: ∀k o,ops[k]? =some o→wZ P C F base ops k o (S k) (S (k+1)) (val k))(hn:i≤ops.size)(h: ∀k,k<i→jA ops k=some t→L k=true):
  mB ops S val L i t=(S i).1.get t:=by
 induction i with
 |zero=>rfl
 |succ k ih=>
  have hk:k<ops.size:=by omega
  have ho:ops[k]? =some ops[k]:=Array.getElem?_eq_getElem hk;have h1:=(kY k _ ho).1;rw[h1,Env.aG,mB];have hd:jA ops k=ops[k].dst:=by simp[jA,ho]
  by_cases e:jA ops k=some t
  ·rw[if_pos ⟨h k (by omega) e,e⟩,if_pos (by rw[←hd];exact e)]
  ·rw[if_neg (λx=>e x.2),if_neg (by rw[←hd];exact e)]
   exact ih (by omega) (λj hj=>h j (by omega))
theorem Eg {i n t:Nat}(qU:i≤n)(h: ∀k,i≤k→k<n→jA ops k=some t→L k=false):mB ops S val L n t=mB ops S val L i t:=by
 induction n with
 |zero=>
  have:i=0:=by omega
  subst this;rfl
 |succ k ih=>
  by_cases e:i=k+1
  ·subst e;rfl
  ·rw[mB,if_neg]
   ·exact ih (by omega) (λj h1 h2=>h j h1 (by omega))
   ·rintro⟨h1,h2⟩;rw[h k (by omega) (by omega) h2] at h1;cases h1
theorem Rv {i n t:Nat}(qU:i<n)(hi:L' i=true)(dC: ∀k,k≠i→L' k=L k)(h:jA ops i=some t→∀k,i<k→k<n→jA ops k=some t→L k=false):
  mB ops S val L' n t=if jA ops i=some t then val i else mB ops S val L n t:=by
 induction n with
 |zero=>omega
 |succ k ih=>
  by_cases e:i=k
  ·subst e;rw[mB,mB];have Eh: ∀m,m≤i→mB ops S val L' m t=mB ops S val L m t:=by
    intro m hm;induction m with
    |zero=>rfl
    |succ j ihj=>rw[mB,mB,dC j (by omega),ihj (by omega)]
   by_cases hd:jA ops i=some t
   ·rw[if_pos ⟨hi,hd⟩,if_pos hd]
   ·rw[if_neg (λx=>hd x.2),if_neg hd,if_neg (λx=>hd x.2)];exact Eh i (Nat.le_refl _)
  ·rw[mB,mB,dC k (by omega),ih (by omega) (λa b c d=>h a b c (by omega))]
   by_cases hd:jA ops i=some t
   ·rw[if_pos hd];by_cases hk:L k=true∧jA ops k=some t
    ·rw[h hd k (by omega) (by omega) hk.2] at hk;cases hk.1
    ·rw[if_neg hk,if_pos hd]
   ·rw[if_neg hd,if_neg hd]
theorem Ks {k:Nat}{o:Oper}(kY:wZ P C F base ops k o (S k) (S (k+1)) (val k))(ho:ops[k]? =some o)(hb:cls P o.op≠ .bad)(hF:F.contains k=true→cls P o.op= .zM)(h:fD P ops S k=false):(S (k+1)).2=(S k).2:=by
 rcases kY.2 with⟨hw,hx⟩|⟨hw,_,hx⟩
 ·have hc:cls P o.op≠ .zM:=by
   intro e;simp[fD,ho,e,hw] at h
  have hnF: ¬F.contains k=true:=λe=>hc (hF e)
  unfold dA at hx;rw[if_neg hnF, ←qE] at hx;unfold jP at hx;split at hx
  ·rename_i e;rw[e] at hc;exact absurd rfl hc
  ·exact AO hc hb hx
 ·exact hx
theorem Gk {j k:Nat}(hj:F.contains j=true)(AE:j≠k):base+F.idxOf j≠base+F.idxOf k:=by
 intro e;have e':F.idxOf j=F.idxOf k:=by omega
 have zN:j∈F:=by simpa using hj
 have gH:=List.idxOf_lt_length_of_mem zN;have h1:=List.getElem_idxOf gH;have acv:F.idxOf k<F.length:=by omega
 have h2:=List.getElem_idxOf acv;apply AE;rw[←h1, ←h2];simp only[e']
theorem V3 {i:Nat}(nM: ∀k,k<i→fD P ops S k=false→(S (k+1)).2=(S k).2)(HV: ∀k,k<i→F.contains k=true→fD P ops S k=true→(S (k+1)).2=rI F base S k (S k).2)(h: ∀k,k<i→fD P ops S k=true→L k=true):nL P F base ops S L i=(S i).2:=by
 induction i with
 |zero=>rfl
 |succ k ih=>
  have ihk:=ih (λj hj=>nM j (by omega)) (λj hj=>HV j (by omega)) (λj hj=>h j (by omega))
  rw[nL];by_cases e:fD P ops S k=true
  ·rw[if_pos ⟨h k (by omega) e,e⟩]
   by_cases hF:F.contains k=true
   ·rw[if_pos hF,ihk];exact(HV k (by omega) hF e).symm
   ·rw[if_neg hF]
  ·rw[if_neg (λx=>e x.2),ihk,nM k (by omega) (by simpa using e)]
theorem Ei {n:Nat}(h: ∀k,k<n→fD P ops S k=true→L' k=L k):nL P F base ops S L' n=nL P F base ops S L n:=by
 induction n with
 |zero=>rfl
 |succ k ih=>
  rw[nL,nL,ih (λj hj=>h j (by omega))]
  by_cases e:fD P ops S k=true
  ·rw[h k (by omega) e]
  ·rw[if_neg (λx=>e x.2),if_neg (λx=>e x.2)]
theorem Ej {m:Nat}(hF: ∀k,F.contains k=true→fD P ops S k=true): ∀d,(∀k,m≤k→k<m+d→L k=true→fD P ops S k=true→F.contains k=true)→
  nL P F base ops S L (m+d)=bO F base S L (nL P F base ops S L m) m d:=by
 intro d;induction d with
 |zero=>intro _;rfl
 |succ d ih=>
  intro h;have ihd:=ih (λk h1 h2=>h k h1 (by omega))
  rw[←Nat.add_assoc,nL,bO,ihd];by_cases e:L (m+d)=true∧fD P ops S (m+d)=true
  ·have hf:=h (m+d) (by omega) (by omega) e.1 e.2
   rw[if_pos e,if_pos hf,if_pos ⟨e.1,hf⟩]
  ·rw[if_neg e,if_neg (λx=>e ⟨x.1,hF _ x.2⟩)]
theorem N8 (hF: ∀k,F.contains k=true→fD P ops S k=true)(n:Nat):
  ∃m,m≤n∧nL P F base ops S L n=bO F base S L (S m).2 m (n-m)∧(m=0∨∃p,m=p+1∧L p=true∧fD P ops S p=true∧F.contains p=false)∧
   (∀k,m≤k→k<n→L k=true→fD P ops S k=true→F.contains k=true):=by
 have key: ∃m,m≤n∧nL P F base ops S L m=(S m).2∧(m=0∨∃p,m=p+1∧L p=true∧fD P ops S p=true∧F.contains p=false)∧
   (∀k,m≤k→k<n→L k=true→fD P ops S k=true→F.contains k=true):=by
  induction n with
  |zero=>exact⟨0,Nat.le_refl _,rfl,.inl rfl,λk _ hk=>by omega⟩
  |succ k ih=>
   by_cases e:L k=true∧fD P ops S k=true∧F.contains k=false
   ·refine⟨k+1,Nat.le_refl _,?_,.inr ⟨k,rfl,e.1,e.2.1,e.2.2⟩,λj h1 h2=>by omega⟩
    rw[nL,if_pos ⟨e.1,e.2.1⟩,if_neg (by rw[e.2.2];simp)]
   ·obtain⟨m,h1,h2,h3,h4⟩:=ih;refine⟨m,by omega,h2,h3,λj a1 a2 a3 a4=>?_⟩
    by_cases ej:j=k
    ·subst ej;cases hf:F.contains j with
     |true=>rfl
     |false=>exact absurd ⟨a3,a4,hf⟩ e
    ·exact h4 j a1 (by omega) a3 a4
 obtain⟨m,h1,h2,h3,h4⟩:=key;refine⟨m,h1,?_,h3,h4⟩;have:=Ej (base:=base) (L:=L) hF (m:=m) (n-m) (λk a b=>h4 k a (by omega))
 rw[show m+(n-m)=n by omega] at this
 rw[this,h2]
theorem AQ {j k:Nat}(hj:F.contains j=true)(AE:j≠k)(X:aa):rI F base S j (rI F base S k X)=rI F base S k (rI F base S j X):=by
 unfold rI;exact rE (Gk hj AE) _
theorem rJ (X:aa)(m:Nat): ∀d,bO F base S L X m (d+1)=bO F base S L (if L m=true∧F.contains m=true then rI F base S m X else X) (m+1) d:=by
 intro d;induction d with
 |zero=>simp only[bO,Nat.add_zero]
 |succ d ih=>
  rw[bO,ih]
  conv=>rhs;rw[bO]
  rw[show m+1+d=m+(d+1) by omega]
theorem rK {X:aa}{m:Nat}: ∀d,(∀k,m≤k→k<m+d→L' k=L k)→bO F base S L' X m d=bO F base S L X m d:=by
 intro d;induction d with
 |zero=>intro _;rfl
 |succ d ih=>
  intro h;rw[bO,bO,ih (λk h1 h2=>h k h1 (by omega)),h (m+d) (by omega) (by omega)]
theorem V4 {X:aa}{m i:Nat}(hi:F.contains i=true)(h0:L i=false)(h1:L' i=true)(dC: ∀k,k≠i→L' k=L k): ∀d,m≤i→i<m+d→bO F base S L' X m d=rI F base S i (bO F base S L X m d):=by
 intro d;induction d with
 |zero=>intro h2 h3;omega
 |succ d ih=>
  intro h2 h3;rw[bO,bO];by_cases e:i=m+d
  ·subst e;rw[if_pos ⟨h1,hi⟩,if_neg (by rw[h0];simp),rK d (λk a b=>dC k (by omega))]
  ·rw[dC (m+d) (Ne.symm e),ih h2 (by omega)]
   by_cases c:L (m+d)=true∧F.contains (m+d)=true
   ·rw[if_pos c,if_pos c,AQ c.2 (Ne.symm e)]
   ·rw[if_neg c,if_neg c]
theorem nj {X:aa}{m j:Nat}(_hj:F.contains j=true)(hf:b9 X (base+F.idxOf j)): ∀d,(∀k,m≤k→k<m+d→L k=true→k≠j)→b9 (bO F base S L X m d) (base+F.idxOf j):=by
 intro d;induction d with
 |zero=>intro _;exact hf
 |succ d ih=>
  intro h;rw[bO];have:=ih (λk h1 h2=>h k h1 (by omega))
  by_cases c:L (m+d)=true∧F.contains (m+d)=true
  ·rw[if_pos c];exact this.set (Gk c.2 (h _ (by omega) (by omega) c.1)) _
  ·rw[if_neg c];exact this
theorem B5 {f:aa→Option (Value×aa)}{X X':aa}{v:Value}{m:Nat}(hup: ∀k,F.contains k=true→m≤k→∀Y b,Up (base+F.idxOf k) b Y (f Y) (f (Y.lay (base+F.idxOf k) b)))(h:f X=some (v,X')):
  ∀d,(∀k,m≤k→F.contains k=true→b9 X (base+F.idxOf k))→f (bO F base S L X m d)=some (v,bO F base S L X' m d):=by
 intro d;induction d with
 |zero=>intro _;exact h
 |succ d ih=>
  intro hf;have:=ih hf
  rw[bO,bO];by_cases c:L (m+d)=true∧F.contains (m+d)=true
  ·rw[if_pos c,if_pos c];have lj:b9 (bO F base S L X m d) (base+F.idxOf (m+d)):=nj c.2 (hf _ (by omega) c.2) d (λk h1 h2 _=>by omega)
   exact(hup _ c.2 (by omega) _ _ lj _ _ this).2
  ·rw[if_neg c,if_neg c];exact this
theorem V5 {i n:Nat}(qU:i<n)(h0:L i=false)(h1:L' i=true)(dC: ∀k,k≠i→L' k=L k):oI L' n+1=oI L n:=by
 induction n with
 |zero=>omega
 |succ k ih=>
  have Eh: ∀m,m≤i→oI L' m=oI L m:=by
   intro m hm;induction m with
   |zero=>rfl
   |succ j ihj=>rw[oI,oI,dC j (by omega),ihj (by omega)]
  by_cases e:i=k
  ·subst e;rw[oI,oI,h0,h1,Eh i (Nat.le_refl _)];simp
  ·rw[oI,oI,dC k (by omega)];have:=ih (by omega);omega
theorem N9 {n:Nat}(h:oI L n=0): ∀k,k<n→L k=true:=by
 induction n with
 |zero=>intro k hk;omega
 |succ m ih=>
  rw[oI] at h;intro k hk;by_cases e:k=m
  ·subst e;cases hl:L k with
   |true=>rfl
   |false=>rw[hl] at h;simp at h
  ·exact ih (by omega) k (by omega)
theorem w6 {a b:Value}(h:zU a b=true):a=b:=by
 unfold zU at h;split at h
 ·simpa using h
 ·simp only[Bool.and_eq_true,decide_eq_true_eq,beq_iff_eq] at h;rw[h.1,h.2]
 ·simpa using h
 ·simpa using h
 ·simp only[Bool.and_eq_true,decide_eq_true_eq,beq_iff_eq] at h;rw[h.1.1,h.1.2,h.2]
 ·simpa using h
 ·rfl
 ·rfl
 ·cases h
theorem rL: ∀{a b:List Value},s9 zU a b=true→a=b
 | [],[],_=>rfl
 |a::x,b::y,h=>by
  simp only[s9,Bool.and_eq_true] at h;rw[w6 h.1,rL h.2]
 | [],_::_,h=>by simp[s9] at h
 |_::_,[],h=>by simp[s9] at h
theorem AR {a b:Value}(h:ot a b=true):a=b:=by
 unfold ot at h;split at h
 ·have:=rL h
  rw[Array.toList_inj] at this;rw[this]
 ·exact w6 h
theorem Kt {r e:Nat}{x y:Oper}(hx:ops[r]? =some x)(hy:ops[e]? =some y)(h1:cls P x.op= .read)(h2:cls P y.op= .zM)(h3:vr (Region.before ops) r e=false)(h4:vr (Region.before ops) e r=false):(r,e)∈mI P ops:=by
 unfold mI;rw[List.mem_flatMap];refine⟨r,List.mem_range.2 (Array.getElem?_eq_some_iff.1 hx).1,?_⟩;rw[List.mem_filterMap];refine⟨e,List.mem_range.2 (Array.getElem?_eq_some_iff.1 hy).1,?_⟩;simp[hx,hy,h1,h2,h3,h4]
structure rM (P:Program) (C:ae) (F:List Nat) (base:Nat) (ops:Array Oper) (S:Nat→Env×aa) (val:Nat→Value):Prop where
 st: ∀(k:Nat) (o:Oper),ops[k]? =some o→wZ P C F base ops k o (S k) (S (k+1)) (val k)
 Oa:vt ops=true
 aag: ∀(k:Nat) (o:Oper),ops[k]? =some o→cls P o.op≠ .bad
 pair: ∀(i j:Nat),i<j→j<ops.size→BF P F (Region.before ops) ops i j=true
 acw: ∀(r e:Nat) (x y:Oper),ops[r]? =some x→ops[e]? =some y→cls P x.op= .read→cls P y.op= .zM→vr (Region.before ops) r e=false→vr (Region.before ops) e r=false→
  dG ops x (S r).1=some true→fD P ops S e=true→(gU P (eF (S r).1) (S r).2 x.op).map Prod.fst=(gU P (eF (S r).1) (S e).2 x.op).map Prod.fst∧
   (gU P (eF (S r).1) (S r).2 x.op).map Prod.fst=(gU P (eF (S r).1) (S (e+1)).2 x.op).map Prod.fst
 lay: ∀k,F.contains k=true→∃o,ops[k]? =some o∧sZ o=true
 free: ∀k,F.contains k=true→b9 (S 0).2 (base+F.idxOf k)
 hole:gK C
theorem qF {o:Oper}(h:sZ o=true):cls P o.op= .zM∧o.guard=none:=by
 unfold sZ at h;simp only[Bool.and_eq_true,Option.isNone_iff_eq_none] at h;obtain⟨h1,h2⟩:=h;refine⟨?_,h1⟩;split at h2
 ·rename_i e;rw[e];rfl
 ·rename_i e;rw[e];rfl
 ·rename_i e;rw[e];rfl
 ·cases h2
theorem Gl (H:aa){n k:Nat}(h:k<n):b9 (H.cF n) (H.length+k):=by
 unfold b9 aa.cF;rw[List.getElem?_append_right (by omega),List.getElem?_replicate]
 rw[if_pos (by omega)]
theorem rM.of {E E':Env}(hH:gK C)(dR:FP P ops=true)(dJ:fh P C ops true E H=some (E',H')):
  ∃F base S val,rM P C F base ops S val∧S 0=(E,H.cF F.length)∧S ops.size=(E',H'):=by
 unfold fh at dJ;simp only[if_true] at dJ;have aah:c8 P C (lQ P ops) H.length ops ops.toList 0 E (H.cF (lQ P ops).length)=some (E',H')∧(mI P ops).all (iV P ops (eB P C (lQ P ops) H.length ops ops.toList 0 E (H.cF (lQ P ops).length)))=true:=by
  cases hF:lQ P ops with
  |nil=>
   rw[hF] at dJ;simp only at dJ;have e0:H.cF ([]:List Nat).length=H:=by simp[aa.cF]
   rw[e0,(jd ops.toList 0 E H).1,(jd ops.toList 0 E H).2];split at dJ
   ·rename_i hc;exact⟨dJ,by rw[hc];rfl⟩
   ·rename_i cs hc;split at dJ
    ·rename_i jy;exact⟨dJ,jy⟩
    ·cases dJ
  |cons f F=>
   rw[hF] at dJ;simp only at dJ;split at dJ
   ·rename_i hc;exact⟨dJ,by rw[hc];rfl⟩
   ·rename_i cs hc;split at dJ
    ·rename_i jy;exact⟨dJ,jy⟩
    ·cases dJ
 obtain⟨hr,aai⟩:=aah;obtain⟨S,val,h0,hl,kY,htr⟩:=Gj ops.toList 0 E _ _ hr;simp only[FP,Bool.and_eq_true,List.all_eq_true,List.mem_range,decide_eq_true_eq] at dR;obtain⟨⟨aaj,Ob⟩,aak⟩:=dR;refine⟨lQ P ops,H.length,S,val,⟨λk o ho=>by have:=kY k o (by simpa using ho);rwa [Nat.zero_add] at this,aaj,?_,λi j Nu hj=>aak j hj i Nu,?_,?_,?_,hH⟩,h0,by simpa using hl⟩
 ·intro k o ho;exact Ob o (by simpa using Array.mem_of_getElem? ho)
 ·intro r e x y hx hy aal rN h1 h2 hw Q5;have hm:=Kt (ops:=ops) hx hy aal rN h1 h2;have hc:=List.all_eq_true.1 aai _ hm;have hrs:r<ops.size:=(Array.getElem?_eq_some_iff.1 hx).1;have hes:e<ops.size:=(Array.getElem?_eq_some_iff.1 hy).1;have t1:=htr r (by simp;omega)
  have t2:=htr e (by simp;omega)
  have t3:=htr (e+1) (by simp;omega)
  unfold iV at hc;simp only[t1,t2,t3,hx,hy] at hc;have hwe:dG ops y (S e).1=some true:=by simpa[fD,hy,rN] using Q5
  simp only[hw,hwe] at hc;split at hc
  ·rename_i u _ u1 _ u2 _ e1 e2 e3;simp only[Bool.and_eq_true] at hc;rw[e1,e2,e3];simp only[Option.map_some];rw[←AR hc.1, ←AR hc.2];exact⟨rfl,rfl⟩
  ·cases hc
 ·intro k hk;have hk':k∈lQ P ops:=by simpa using hk
  unfold lQ at hk';simp only[List.mem_filter,List.mem_range] at hk';obtain⟨_,h2⟩:=hk';split at h2
  ·rename_i y hy;simp only[Bool.and_eq_true] at h2;exact⟨y,hy,h2.1⟩
  ·cases h2
 ·intro k hk;rw[h0];exact Gl H (List.idxOf_lt_length_of_mem (by simpa using hk))
theorem rM.Rw (h:rM P C F base ops S val): ∀k,F.contains k=true→fD P ops S k=true:=by
 intro k hk;obtain⟨o,ho,hf⟩:=h.lay k hk;obtain⟨h1,h2⟩:=qF (P:=P) hf;simp[fD,ho,h1,dG,h2]
theorem rM.same (h:rM P C F base ops S val): ∀k,k<ops.size→fD P ops S k=false→(S (k+1)).2=(S k).2:=by
 intro k hk he;have ho:ops[k]? =some ops[k]:=Array.getElem?_eq_getElem hk;refine Ks (h.st k _ ho) ho (h.aag k _ ho) (λhF=>?_) he
 obtain⟨o,Nw,hf⟩:=h.lay k hF;rw[ho] at Nw;cases Nw;exact(qF hf).1
theorem rM.Gm (h:rM P C F base ops S val)(k:Nat)(hk:F.contains k=true): ∃o mk,ops[k]? =some o∧b9 (S k).2 (base+F.idxOf k)∧AB P (eF (S k).1) o.op=some (mk,bOf F base S k)∧val k=mk (base+F.idxOf k)∧(S (k+1)).2=rI F base S k (S k).2:=by
 obtain⟨o,ho,hf⟩:=h.lay k hk;obtain⟨_,hg⟩:=qF (P:=P) hf;rcases(h.st k o ho).2 with⟨hw,hx⟩|⟨hw,_⟩
 ·unfold dA at hx;rw[if_pos hk] at hx;unfold pY at hx;split at hx
  case h_2=>cases hx
  rename_i lj;split at hx
  case h_2=>cases hx
  rename_i mk b hb;have D5:=Option.some.inj hx;have e1:mk (base+F.idxOf k)=val k:=congrArg Prod.fst D5;have e2:(S k).2.set (base+F.idxOf k) (.zL b)=(S (k+1)).2:=congrArg Prod.snd D5;have aam:b9 (S k).2 (base+F.idxOf k):=lj;have eb:bOf F base S k=b:=by
   unfold bOf;rw[←e2];have:aa.get (List.set (S k).2 (base+F.idxOf k) (.zL b)) (base+F.idxOf k)=some b:=nh aam.lt;rw[this]
  refine⟨o,mk,ho,aam,by rw[eb];exact hb,e1.symm,?_⟩
  rw[←e2];unfold rI;rw[eb];rfl
 ·simp[dG,hg] at hw
theorem rM.Gn (h:rM P C F base ops S val){k:Nat}(hk:F.contains k=true): ∀m,m≤k→b9 (S m).2 (base+F.idxOf k):=by
 intro m;induction m with
 |zero=>intro _;exact h.free k hk
 |succ m ih=>
  intro hm;have hfm:=ih (by omega)
  obtain⟨ok,dR,_⟩:=h.lay k hk;have hkl:k<ops.size:=(Array.getElem?_eq_some_iff.1 dR).1;have ho:ops[m]? =some ops[m]:=Array.getElem?_eq_getElem (by omega)
  rcases(h.st m _ ho).2 with⟨hw,hx⟩|⟨_,_,hx⟩
  ·rw[←uz] at hx;exact(uA (b:=default) h.hole (λhc=>Gk hc (by omega)) hfm _ _ hx).1
  ·rw[hx];exact hfm
theorem rM.comes (h:rM P C F base ops S val){i:Nat}{o:Oper}(ho:ops[i]? =some o)(hi:L i=false)(hLi:L' i=true)(Oc: ∀k,k≠i→L' k=L k)(Eh: ∀k,k<i→L k=false→vr (Region.before ops) k i=false)(HW: ∀k,L k=true→vr (Region.before ops) i k=false):
  (∀t∈o.looksAt ops,mB ops S val L ops.size t=(S i).1.get t)∧(∀t,o.dst=some t→∀k,i<k→k<ops.size→jA ops k=some t→L k=false)∧
  (dG ops o (S i).1=some true→gk P C F base i (S i).1.get (nL P F base ops S L ops.size) o=some (val i,nL P F base ops S L' ops.size))∧
  (fD P ops S i=false→nL P F base ops S L' ops.size=nL P F base ops S L ops.size):=by
 have qU:i<ops.size:=(Array.getElem?_eq_some_iff.1 ho).1;have low: ∀(k:Nat) (x:Oper),k<i→ops[k]? =some x→L k=false→x.apart ops o=true∧(cls P x.op= .zM→cls P o.op= .zM→F.contains i=true):=by
  intro k x hk hx hl;have hp:=h.pair k i hk qU;unfold BF at hp;rw[hx,ho] at hp;simp only[Eh k hk hl,Bool.false_or,Bool.and_eq_true] at hp;obtain⟨h1,h2⟩:=hp;refine⟨h1,λa b=>?_⟩
  rw[a,b] at h2;simpa using h2
 have high: ∀(k:Nat) (y:Oper),i<k→ops[k]? =some y→L k=true→o.apart ops y=true∧(cls P o.op= .zM→cls P y.op= .zM→F.contains k=true):=by
  intro k y hk hy hl;have V6:k<ops.size:=(Array.getElem?_eq_some_iff.1 hy).1;have hp:=h.pair i k hk V6;unfold BF at hp;rw[hy,ho] at hp;simp only[HW k hl,Bool.false_or,Bool.and_eq_true] at hp;obtain⟨h1,h2⟩:=hp;refine⟨h1,λa b=>?_⟩
  rw[a,b] at h2;simpa using h2
 have Ek: ∀(k:Nat),fD P ops S k=true→∃x,ops[k]? =some x∧cls P x.op= .zM∧dG ops x (S k).1=some true:=by
  intro k hk;unfold fD at hk;split at hk
  ·rename_i x hx;simp only[Bool.and_eq_true,decide_eq_true_eq,beq_iff_eq] at hk;exact⟨x,hx,hk.1,hk.2⟩
  ·cases hk
 have quiet:fD P ops S i=false→nL P F base ops S L' ops.size=nL P F base ops S L ops.size:=λhe=>
  Ei λk _ hk=>Oc k (by rintro rfl;rw[he] at hk;cases hk)
 obtain⟨m,hmn,NU,Ku,UE⟩:=N8 (P:=P) (base:=base) (ops:=ops) (S:=S) (L:=L) h.Rw ops.size;have down: ∀a,m≤a→a<i→(fD P ops S a=false∨L a=true)→bO F base S L (S a).2 a (ops.size-a)=bO F base S L (S (a+1)).2 (a+1) (ops.size-(a+1)):=by
  intro a h1 h2 h3;rw[show ops.size-a=(ops.size-(a+1))+1 by omega,rJ]
  by_cases he:fD P ops S a=true
  ·have hl:L a=true:=by
    rcases h3 with h3|h3
    ·rw[he] at h3;cases h3
    ·exact h3
   have hf:=UE a h1 (by omega) hl he
   rw[if_pos ⟨hl,hf⟩];obtain⟨_,_,_,_,_,_,e⟩:=h.Gm a hf;rw[e]
  ·have he':fD P ops S a=false:=by simpa using he
   rw[if_neg (λx=>he (h.Rw a x.2)),h.same a (by omega) he']
 refine⟨?_,?_,?_,quiet⟩
 ·intro t ht;rw[Eg (i:=i) (by omega),HU (P:=P) (C:=C) (F:=F) (base:=base) h.st (by omega)]
  ·intro k hk hd;cases hl:L k with
   |true=>rfl
   |false=>
    have V6:k<ops.size:=by omega
    have hx:ops[k]? =some ops[k]:=Array.getElem?_eq_getElem V6;obtain⟨h1,_,_⟩:=Oper.apart_spec (low k _ hk hx hl).1;exact absurd ht (h1 t (by simpa[jA,hx] using hd))
  ·intro k hk V6 hd;by_cases e:k=i
   ·subst e;exact hi
   ·cases hl:L k with
    |false=>rfl
    |true=>
     have hy:ops[k]? =some ops[k]:=Array.getElem?_eq_getElem V6;obtain⟨_,_,h3⟩:=Oper.apart_spec (high k _ (by omega) hy hl).1
     exact absurd ht (h3 t (by simpa[jA,hy] using hd))
 ·intro t ht k hk V6 hd;cases hl:L k with
  |false=>rfl
  |true=>
   have hy:ops[k]? =some ops[k]:=Array.getElem?_eq_getElem V6;obtain⟨_,h2,_⟩:=Oper.apart_spec (high k _ hk hy hl).1;exact absurd (by simpa[jA,hy] using hd) (h2 t ht)
 ·intro hw;have kY:=h.st i o ho;have hx:dA P C F base i (S i).1 (S i).2 o=some (val i,(S (i+1)).2):=by
   rcases kY.2 with⟨_,hx⟩|⟨w7,_,_⟩
   ·exact hx
   ·rw[hw] at w7;cases w7
  have D5:=hx;rw[←uz] at D5;have acx:cls P o.op= .zM→m≤i:=by
   intro rN;rcases Ku with rfl|⟨p,rfl,F6,FI,hp3⟩
   ·omega
   ·have dC:p≠i:=by rintro rfl;rw[hi] at F6;cases F6
    have hpn:p<ops.size:=by omega
    obtain⟨y,hy,hye,_⟩:=Ek p FI;by_cases gH:i<p
    ·have:=(high p y gH hy F6).2 rN hye
     rw[hp3] at this;cases this
    ·omega
  by_cases rN:cls P o.op= .zM
  ·have Q5:fD P ops S i=true:=by simp[fD,ho,rN,hw]
   have hmi:=acx rN;by_cases hF:F.contains i=true
   ·
    obtain⟨o',mk,Nw,lj,hb,hv,_⟩:=h.Gm i hF;rw[ho] at Nw;cases Nw;have V7:b9 (nL P F base ops S L ops.size) (base+F.idxOf i):=by
     rw[NU];exact nj hF (h.Gn hF m hmi) _ (λk _ _ hk e=>by subst e;rw[hi] at hk;cases hk)
    have Kv:nL P F base ops S L' ops.size=rI F base S i (nL P F base ops S L ops.size):=by
     have key: ∀n,i<n→nL P F base ops S L' n=rI F base S i (nL P F base ops S L n)∨∃p,i<p∧p<n∧L p=true∧fD P ops S p=true∧F.contains p=false:=by
      intro n;induction n with
      |zero=>intro h;omega
      |succ n ih=>
       intro hn;by_cases e:i=n
       ·subst e;left
        rw[nL,nL,if_pos ⟨hLi,Q5⟩,if_pos hF,if_neg (by rw[hi];simp),Ei (λk hk _=>Oc k (by omega))]
       ·rcases ih (by omega) with ih|⟨p,a1,a2,a3⟩
        ·rw[nL,nL,Oc n (Ne.symm e)];by_cases c:L n=true∧fD P ops S n=true
         ·rw[if_pos c,if_pos c];by_cases hFn:F.contains n=true
          ·left
           rw[if_pos hFn,if_pos hFn,ih,AQ hFn (Ne.symm e)]
          ·right
           exact⟨n,by omega,by omega,c.1,c.2,by simpa using hFn⟩
         ·rw[if_neg c,if_neg c];exact .inl ih
        ·exact .inr ⟨p,a1,by omega,a3⟩
     rcases key ops.size qU with e|⟨p,a1,a2,a3,a4,a5⟩
     ·exact e
     ·obtain⟨y,hy,hye,_⟩:=Ek p a4;have:=(high p y a1 hy a3).2 rN hye
      rw[a5] at this;cases this
    unfold gk;rw[if_pos hF];unfold pY;have acy:(nL P F base ops S L ops.size)[base+F.idxOf i]? =some .hole:=V7;rw[acy];simp only[gj,hb,hv,Kv];rfl
   ·
    have hF':F.contains i=false:=by simpa using hF
    have Rx: ∀q,q<i→fD P ops S q=true→L q=true:=by
     intro q hq he;obtain⟨x,Q6,hx2,_⟩:=Ek q he;cases hl:L q with
     |true=>rfl
     |false=>exact absurd ((low q x hq Q6 hl).2 hx2 rN) hF
    have hS: ∀d a,a+d=i→m≤a→bO F base S L (S a).2 a (ops.size-a)=bO F base S L (S i).2 i (ops.size-i):=by
     intro d;induction d with
     |zero=>
      intro a e _;have:a=i:=by omega
      subst this;rfl
     |succ d ih=>
      intro a e hma;rw[down a hma (by omega) (by
       cases he:fD P ops S a with
       |false=>exact .inl rfl
       |true=>exact .inr (Rx a (by omega) he))]
      exact ih (a+1) (by omega) (by omega)
    have hh:nL P F base ops S L ops.size=bO F base S L (S i).2 (i+1) (ops.size-(i+1)):=by
     rw[NU,hS (i-m) m (by omega) (Nat.le_refl _),show ops.size-i=(ops.size-(i+1))+1 by omega,rJ,if_neg (λx=>hF x.2)]
    have hh':nL P F base ops S L' ops.size=bO F base S L (S (i+1)).2 (i+1) (ops.size-(i+1)):=by
     have hi1:nL P F base ops S L' (i+1)=(S (i+1)).2:=by
      rw[nL,if_pos ⟨hLi,Q5⟩,if_neg hF]
     have:=Ej (base:=base) (L:=L') h.Rw (m:=i+1) (ops.size-(i+1)) (λk a b c e=>by
      rw[Oc k (by omega)] at c
      obtain⟨y,hy,hye,_⟩:=Ek k e;exact(high k y (by omega) hy c).2 rN hye)
     rw[show i+1+(ops.size-(i+1))=ops.size by omega,hi1] at this
     rw[this];exact rK _ (λk a _=>Oc k (by omega))
    rw[hh,hh'];refine B5 (f:=λX=>gk P C F base i (S i).1.get X o) (λk hk hki Y b=>uA h.hole (λhc=>by rw[hF'] at hc;cases hc)) D5 _ (λk hk hkF=>h.Gn hkF i (by omega))
  ·have Q5:fD P ops S i=false:=by simp[fD,ho,rN]
   have hnF:F.contains i=false:=by
    cases hc:F.contains i with
    |false=>rfl
    |true=>
     have:=h.Rw i hc
     rw[Q5] at this;cases this
   have nM:=h.same i qU Q5;rw[quiet Q5];have vx: ∀H2,gk P C F base i (S i).1.get H2 o=gU P (iy (S i).1.get) H2 o.op:=by
    intro H2;unfold gk;rw[if_neg (by rw[hnF];simp)]
    unfold jP;split
    ·rename_i e;rw[e] at rN;exact absurd rfl rN
    ·rfl
   rw[vx] at D5 ⊢;have Ob:=h.aag i o ho;cases D0:cls P o.op with
   |zM=>exact absurd D0 rN
   |bad=>exact absurd D0 Ob
   |pure=>exact N7 D0 D5 _
   |read=>
    have hu:(gU P (eF (S i).1) (S i).2 o.op).map Prod.fst=some (val i):=by rw[←gj,D5];rfl
    have u4: ∀H2,(gU P (eF (S i).1) H2 o.op).map Prod.fst=some (val i)→gU P (iy (S i).1.get) H2 o.op=some (val i,H2):=by
     intro H2 h2;rw[Option.map_eq_some_iff] at h2;obtain⟨⟨u,H3⟩,h3,e⟩:=h2;cases e;rw[gj,h3];rw[AO (P:=P) (by rw[D0];simp) (by rw[D0];simp) h3]
    refine u4 _ ?_;have cf: ∀(e:Nat) (y:Oper),ops[e]? =some y→fD P ops S e=true→vr (Region.before ops) i e=false→vr (Region.before ops) e i=false→
      (gU P (eF (S i).1) (S e).2 o.op).map Prod.fst=some (val i)∧(gU P (eF (S i).1) (S (e+1)).2 o.op).map Prod.fst=some (val i):=by
     intro e y hy aan h1 h2;obtain⟨x,Q6,hx2,ZM⟩:=Ek e aan;rw[hy] at Q6;cases Q6;obtain⟨c1,c2⟩:=h.acw i e o y ho hy D0 hx2 h1 h2 hw aan;rw[hu] at c1 c2;exact⟨c1.symm,c2.symm⟩
    have aao: ∀q,i≤q→vr (Region.before ops) q i=false:=by
     intro q hq;cases hb:vr (Region.before ops) q i with
     |false=>rfl
     |true=>have:=N6 h.Oa i q hb;omega
    have V8: ∀q,q≤i→vr (Region.before ops) i q=false:=by
     intro q hq;cases hb:vr (Region.before ops) i q with
     |false=>rfl
     |true=>have:=N6 h.Oa q i hb;omega
    have told: ∀(a d:Nat),(∀k,a≤k→k<a+d→F.contains k=true→b9 (S a).2 (base+F.idxOf k))→(gU P (eF (S i).1) (S a).2 o.op).map Prod.fst=some (val i)→
      (gU P (eF (S i).1) (bO F base S L (S a).2 a d) o.op).map Prod.fst=some (val i):=by
     intro a d lj ha;have ha2:gU P (eF (S i).1) (S a).2 o.op=some (val i,(S a).2):=by have:=u4 _ ha;rwa [gj] at this
     have key: ∀d',d'≤d→gU P (eF (S i).1) (bO F base S L (S a).2 a d') o.op=some (val i,bO F base S L (S a).2 a d'):=by
      intro d';induction d' with
      |zero=>intro _;exact ha2
      |succ d' ih=>
       intro hd;have:=ih (by omega)
       rw[bO];by_cases c:L (a+d')=true∧F.contains (a+d')=true
       ·rw[if_pos c];have V7:b9 (bO F base S L (S a).2 a d') (base+F.idxOf (a+d')):=nj c.2 (lj _ (by omega) (by omega) c.2) d' (λk h1 h2 _=>by omega)
        exact(pn V7 _ _ this).2
       ·rw[if_neg c];exact this
     rw[key d (Nat.le_refl _)];rfl
    have frs: ∀a,∀k,a≤k→k<a+(ops.size-a)→F.contains k=true→b9 (S a).2 (base+F.idxOf k):=λa k h1 _ hk=>h.Gn hk a h1
    rw[NU];by_cases hmi:m≤i
    ·
     have A: ∀d a,a+d=i→m≤a→(gU P (eF (S i).1) (bO F base S L (S a).2 a (ops.size-a)) o.op).map Prod.fst=some (val i):=by
      intro d;induction d with
      |zero=>
       intro a e _;have:a=i:=by omega
       subst this;exact told a _ (frs a) hu
      |succ d ih=>
       intro a e hma;by_cases hd:fD P ops S a=false∨L a=true
       ·rw[down a hma (by omega) hd];exact ih (a+1) (by omega) (by omega)
       ·have he:fD P ops S a=true:=by
         cases hh:fD P ops S a with
         |true=>rfl
         |false=>exact absurd (.inl hh) hd
        have hl:L a=false:=by
         cases hh:L a with
         |false=>rfl
         |true=>exact absurd (.inr hh) hd
        exact told a _ (frs a) (cf a _ (Array.getElem?_eq_getElem (by omega)) he (V8 a (by omega)) (Eh a (by omega) hl)).1
     exact A (i-m) m (by omega) (Nat.le_refl _)
    ·rcases Ku with rfl|⟨p,rfl,F6,FI,hp3⟩
     ·omega
     ·have hpi:i≤p:=by omega
      exact told (p+1) _ (frs (p+1)) (cf p _ (Array.getElem?_eq_getElem (by omega)) FI (HW p F6) (aao p hpi)).2
structure Inv (P:Program) (F:List Nat) (base:Nat) (ops:Array Oper) (S:Nat→Env×aa) (val:Nat→Value) (N B:Nat) (a0:Act) (w0:World) (μ0:Mu) (bC:Array Bool) (a:Act) (w:World) (μ:Mu):Prop where
 size:bC.size=ops.size
 shut: ∀(j:Nat) (o:Oper),ops[j]? =some o→bC.getD j false=true→∀e∈o.after,Region.binds .any e=true→bC.getD e.on false=true
 env:gV μ (mB ops S val (λk=>bC.getD k false) ops.size) a.tmps
 sim:cQ P μ (nL P F base ops S (λk=>bC.getD k false) ops.size) w B
 tmps:N≤a.tmps.size
 UF:a.tmps.size=a0.tmps.size
 defers:a.defers=a0.defers
 below:eX B w0 w
 le:μ0.le μ
theorem Ae {ro:Option Nat}{n:Nat}{C:ae}{F:List Nat}{base k:Nat}{E:Nat→Value}{o:Oper}{v:Value}{a:Act}{K:Act→World→Prop}{Q:Exit→Act→World→Prop}(hC:Ab P B C)(hS:cQ P μ H w B)(hE:gV μ E a.tmps)(HV:F.contains k=true→sZ o=true)(h:gk P C F base k E H o=some (v,H'))(hK: ∀v' μ' w',μ.le μ'→VR μ' v v'→cQ P μ' H' w' B→eX B w w'→K (a.put o.dst v') w'):o.wpIn (FR ro) n P a w K Q:=by
 unfold gk at h;split at h
 ·rename_i hc;have hnd: ∀c,o.op≠ .defer c:=by
   intro c e;have:=HV hc
   unfold sZ at this;rw[e] at this;simp at this
  refine⟨λ_ _=>trivial,?_⟩
  rw[Oper.semAt_eq _ _ _ hnd];obtain⟨v',μ',w',hr,hle,hv,tm,hB⟩:=Ee (o:=o) hS hE.eval h;rcases hr with hr|⟨hr,rfl⟩
  ·rw[hr];exact hK v' μ' w' hle hv tm hB
  ·rw[hr];exact hK undef μ' w' hle hv tm hB
 ·exact rH hC hS hE h hK
theorem cQ.cF (h:cQ P μ H w B)(n:Nat):cQ P μ (H.cF n) w B:=by
 have hg: ∀{i:Nat} {b:eW},(H.cF n).get i=some b→H.get i=some b:=by
  intro i b hb;rw[aa.q9] at hb ⊢;unfold aa.cF at hb;by_cases e:i<H.length
  ·rwa [List.getElem?_append_left e] at hb
  ·rw[List.getElem?_append_right (by omega),List.getElem?_replicate] at hb
   split at hb<;>cases hb
 have ho: ∀{i:Nat} {b:dF},(H.cF n).ef i=some b→H.ef i=some b:=by
  intro i b hb;rw[aa.ra] at hb ⊢;unfold aa.cF at hb;by_cases e:i<H.length
  ·rwa [List.getElem?_append_left e] at hb
  ·rw[List.getElem?_append_right (by omega),List.getElem?_replicate] at hb
   split at hb<;>cases hb
 refine⟨h.base,λi b hb=>h.ok i b (hg hb),λi hi=>h.BI i (by simp[aa.cF] at hi;omega),λi j b c l m hb hc=>h.inj i j b c l m (hg hb) (hg hc),λi b l hb=>h.own i b l (hg hb),
  h.ef.keep μ.le_refl (λ_ _=>ho) (λ_ _ h _=>h),λi hi=>?_⟩
 by_cases e:i<H.length
 ·unfold aa.cF at hi;rw[List.getElem?_append_left e] at hi;exact h.wB i hi
 ·exact h.BI i (by omega)
theorem AS {bC:Array Bool}{i:Nat}(hi:i∈Region.ready .any ops bC)(hs:bC.size=ops.size):
  ∃o,ops[i]? =some o∧bC.getD i false=false∧∀e∈o.after,Region.binds .any e=true→bC.getD e.on false=true:=by
 unfold Region.ready at hi;rw[List.mem_filter] at hi;obtain⟨h1,h2⟩:=hi;have qU:=List.mem_range.1 h1;simp only[Bool.and_eq_true,Bool.not_eq_true'] at h2;refine⟨ops[i],Array.getElem?_eq_getElem qU,?_,?_⟩
 ·have:=h2.1
  rw[Array.getD_eq_getD_getElem?,Array.getElem?_eq_getElem (by omega)] at this ⊢
  exact this
 ·intro e he hb;have h3:=h2.2;rw[Array.getElem?_eq_getElem qU] at h3;simp only[Option.map_some,Option.getD_some] at h3;have:=Array.all_eq_true_iff_forall_mem.1 h3 e he
  simpa[hb] using this
theorem Kw {bC:Array Bool}(he:vt ops=true)(hs:bC.size=ops.size)(h:Region.ready .any ops bC=[]): ∀k,k<ops.size→bC.getD k false=true:=by
 intro k;induction k using Nat.strongRecOn with
 |_ k ih=>
  intro hk;cases hl:bC.getD k false with
  |true=>rfl
  |false=>
   exfalso
   have hm:k∈Region.ready .any ops bC:=by
    unfold Region.ready;rw[List.mem_filter];refine⟨List.mem_range.2 hk,?_⟩;simp only[Bool.and_eq_true,Bool.not_eq_true'];constructor
    ·rw[Array.getD_eq_getD_getElem?,Array.getElem?_eq_getElem (by omega)] at hl ⊢
     exact hl
    ·rw[Array.getElem?_eq_getElem hk];simp only[Option.map_some,Option.getD_some];rw[Array.all_eq_true_iff_forall_mem];intro e hem;have h1:=List.all_eq_true.1 he k (List.mem_range.2 hk);rw[Array.getElem?_eq_getElem hk] at h1;have h2:=Array.all_eq_true_iff_forall_mem.1 h1 e hem;cases hb:Region.binds .any e with
     |false=>rfl
     |true=>
      have h3:e.on<k:=by simpa[hb] using h2
      rw[ih e.on h3 (by omega)];rfl
   rw[h] at hm;cases hm
theorem Gp {ro:Option Nat}{n:Nat}{N:Nat}{Q:Exit→Act→World→Prop}{a0:Act}{w0:World}{μ0:Mu}(hC:Ab P B C)(hp:rM P C F base ops S val)(hd: ∀o∈ops.toList,∀d,o.dst=some d→d<N)(hQ: ∀a w μ,μ0.le μ→gV μ (S ops.size).1.get a.tmps→a.defers=a0.defers→a.tmps.size=a0.tmps.size→cQ P μ (S ops.size).2 w B→eX B w0 w→Q .normal a w):
  ∀(fuel:Nat) (bC:Array Bool) (a:Act) (w:World) (μ:Mu),oI (λk=>bC.getD k false) ops.size≤fuel→Inv P F base ops S val N B a0 w0 μ0 bC a w μ→wpAnyIn (FR ro) n P .any ops Q fuel bC a w:=by
 have fin: ∀(bC:Array Bool) (a:Act) (w:World) (μ:Mu),(∀k,k<ops.size→bC.getD k false=true)→Inv P F base ops S val N B a0 w0 μ0 bC a w μ→Q .normal a w:=by
  intro bC a w μ jy h;refine hQ a w μ h.le ?_ h.defers h.UF ?_ h.below
  ·intro t;have:=h.env t
   rw[HU (P:=P) (C:=C) (F:=F) (base:=base) hp.st (Nat.le_refl _) (λk hk _=>jy k hk)] at this
   exact this
  ·have:=h.sim
   rw[V3 (λk hk=>hp.same k hk) (λk _ hF _=>by obtain⟨_,_,_,_,_,_,e⟩:=hp.Gm k hF;exact e) (λk hk _=>jy k hk)] at this
   exact this
 intro fuel;induction fuel with
 |zero=>
  intro bC a w μ hc h;have jy:=N9 (Nat.le_zero.1 hc);refine⟨?_,fin bC a w μ jy h⟩;cases hr:Region.ready .any ops bC with
  |nil=>rfl
  |cons i r=>
   exfalso
   obtain⟨o,ho,hl,_⟩:=AS (ops:=ops) (i:=i) (by rw[hr];simp) h.size
   rw[jy i (Array.getElem?_eq_some_iff.1 ho).1] at hl;cases hl
 |succ fuel ih=>
  intro bC a w μ hc h;refine⟨λhr=>fin bC a w μ (Kw hp.Oa h.size hr) h,?_⟩
  intro i hi;obtain⟨o,ho,hl,acz⟩:=AS hi h.size;have qU:i<ops.size:=(Array.getElem?_eq_some_iff.1 ho).1;have acA:i<bC.size:=by rw[h.size];exact qU
  have u5: ∀k,(bC.setIfInBounds i true).getD k false=if k=i then true else bC.getD k false:=by
   intro k;rw[Array.getD_eq_getD_getElem?,Array.getElem?_setIfInBounds];by_cases e:i=k
   ·subst e;simp[acA]
   ·rw[if_neg e,if_neg (Ne.symm e),Array.getD_eq_getD_getElem?]
  have UG: ∀(j:Nat) (o':Oper),ops[j]? =some o'→(bC.setIfInBounds i true).getD j false=true→∀e∈o'.after,Region.binds .any e=true→(bC.setIfInBounds i true).getD e.on false=true:=by
   intro j o' Nw hj e he hb;rw[u5] at hj ⊢;by_cases e1:e.on=i
   ·rw[if_pos e1]
   ·rw[if_neg e1];by_cases e2:j=i
    ·subst e2;rw[ho] at Nw;cases Nw;exact acz e he hb
    ·rw[if_neg e2] at hj;exact h.shut j o' Nw hj e he hb
  have Eh: ∀k,k<i→bC.getD k false=false→vr (Region.before ops) k i=false:=by
   intro k hk hlk;cases hb:vr (Region.before ops) k i with
   |false=>rfl
   |true=>
    have:=wY (L:=λk=>(bC.setIfInBounds i true).getD k false) UG i (by show(bC.setIfInBounds i true).getD i false=true;rw[u5,if_pos rfl]) k hb
    simp only[u5,if_neg (show k≠i by omega),hlk] at this
    cases this
  have HW: ∀k,bC.getD k false=true→vr (Region.before ops) i k=false:=by
   intro k hk;cases hb:vr (Region.before ops) i k with
   |false=>rfl
   |true=>
    have:=wY (L:=λk=>bC.getD k false) h.shut k hk i hb
    simp only[hl] at this;cases this
  obtain⟨c1,c2,c3,c4⟩:=hp.comes (L:=λk=>bC.getD k false) (L':=λk=>(bC.setIfInBounds i true).getD k false) ho hl (by simp[u5]) (λk hk=>by simp[u5,hk]) Eh HW
  have V9: ∀t,o.dst=some t→t<a.tmps.size:=λt ht=>Nat.lt_of_lt_of_le (hd o (by simpa using Array.mem_of_getElem? ho) t ht) h.tmps
  have V0:jA ops i=o.dst:=by simp[jA,ho]
  have acB:oI (λk=>(bC.setIfInBounds i true).getD k false) ops.size≤fuel:=by
   have:=V5 (L:=λk=>bC.getD k false) (L':=λk=>(bC.setIfInBounds i true).getD k false) qU hl (by simp[u5]) (λk hk=>by simp[u5,hk])
   omega
  have hfe: ∀t,mB ops S val (λk=>(bC.setIfInBounds i true).getD k false) ops.size t=if o.dst=some t then val i else mB ops S val (λk=>bC.getD k false) ops.size t:=by
   intro t;rw[Rv (L:=λk=>bC.getD k false) (L':=λk=>(bC.setIfInBounds i true).getD k false) qU (by simp[u5]) (λk hk=>by simp[u5,hk]) (λe k h1 h2 h3=>c2 t (by rw[←V0];exact e) k h1 h2 h3),V0]
  have kY:=hp.st i o ho;have haw:qC ops o (mB ops S val (λk=>bC.getD k false) ops.size)=dG ops o (S i).1:=by
   rw[←qD];exact B4 c1
  have next: ∀(v':Value) (μ':Mu) (w':World),μ.le μ'→VR μ' (val i) v'→cQ P μ' (nL P F base ops S (λk=>(bC.setIfInBounds i true).getD k false) ops.size) w' B→eX B w w'→
    wpAnyIn (FR ro) n P .any ops Q fuel (bC.setIfInBounds i true) (a.put o.dst v') w':=by
   intro v' μ' w' hle hv tm hB;refine ih _ _ _ μ' acB ⟨by simp[h.size],UG,?_,tm,by rw[mN];exact h.tmps,by rw[mN];exact h.UF,by rw[put_defers];exact h.defers,h.below.trans hB,Mu.le_trans h.le hle⟩
   have:=gV.put (h.env.mono hle) hv o.dst V9
   intro t;rw[hfe];exact this t
  unfold wpOpIn;rw[ho];simp only;rcases kY.2 with⟨hw,_⟩|⟨hw,oJ,_⟩
  ·rw[lV h.env (by rw[haw];exact hw),if_pos rfl]
   have hx:=c3 hw;rw[←Ad c1] at hx;refine Ae hC h.sim h.env (λhc=>?_) hx ?_
   ·obtain⟨o',Nw,hf⟩:=hp.lay i hc;rw[ho] at Nw;cases Nw;exact hf
   ·intro v' μ' w' hle hv tm hB;exact next v' μ' w' hle hv tm hB
  ·rw[lV h.env (by rw[haw];exact hw)]
   simp only[Bool.false_eq_true,if_false];have Q5:fD P ops S i=false:=by simp[fD,ho,hw]
   refine⟨λ_ _=>trivial,?_⟩
   refine next undef μ w μ.le_refl (by rw[oJ];exact cY.tuple (c:=#[]) (c':=#[]) .nil) ?_ (eX.refl _ _)
   rw[c4 Q5];exact h.sim
theorem El {ro:Option Nat}{n:Nat}{N id:Nat}{E E':Env}{Q:Exit→Act→World→Prop}{a:Act}(hC:Ab P B C)(hm:P.follows .mixedOrders=true)(dR:ou P N ops true=true)(dJ:fh P C ops true E H=some (E',H'))(hN:N≤a.tmps.size)(hS:cQ P μ H w B)(hE:gV μ E.get a.tmps)(hQ: ∀a' w' μ',μ.le μ'→gV μ' E'.get a'.tmps→a'.defers=a.defers→a'.tmps.size=a.tmps.size→cQ P μ' H' w' B→eX B w w'→Q .normal a' w'):(Code.region id ops true).wpIn (FR ro) n P Q a w:=by
 simp only[ou,Bool.and_eq_true,Bool.not_true,Bool.false_or,List.all_eq_true] at dR;obtain⟨V9,aap⟩:=dR;obtain⟨F,base,S,val,hp,h0,hn⟩:=rM.of (P:=P) (C:=C) hC.hole aap dJ;refine wpIn_region_any hm ?_;have Od: ∀k,(Array.replicate ops.size false).getD k false=false:=by
  intro k;rw[Array.getD_eq_getD_getElem?,Array.getElem?_replicate];split<;>rfl
 have Wa:eX B w {w with drawn:=w.drawn+1}:=(eX.refl B w).drew
 refine Gp (a0:=a) (w0:=w) (μ0:=μ) hC hp (N:=N) ?_ ?_ ops.size _ a _ μ ?_ ⟨by simp,?_,?_,?_,hN,rfl,rfl,Wa,μ.le_refl⟩
 ·intro o ho d hd;have:=V9 o ho
  rw[hd] at this;simpa using this
 ·intro a' w' μ' h1 h2 h3 h4 h5 h6;rw[hn] at h2 h5;exact hQ a' w' μ' h1 h2 h3 h4 h5 h6
 ·have: ∀m,oI (λk=>(Array.replicate ops.size false).getD k false) m≤m:=by
   intro m;induction m with
   |zero=>exact Nat.le_refl _
   |succ m ih=>rw[oI];split<;>omega
  exact this _
 ·intro j o _ hj;rw[Od] at hj;cases hj
 ·intro t;rw[Eg (i:=0) (by omega) (λk _ _ _=>Od k)]
  show VR μ ((S 0).1.get t) _
  rw[h0];exact hE t
 ·have e: ∀n,nL P F base ops S (λk=>(Array.replicate ops.size false).getD k false) n=(S 0).2:=by
   intro n;induction n with
   |zero=>rfl
   |succ n ih=>rw[nL,if_neg (by rw[Od];simp),ih]
  rw[e,h0];exact(hS.cF _).heap rfl
end Go.Proofs.YtgfgglponbmgmaaGreatA.Am
end
