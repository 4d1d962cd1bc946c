/- Texts of the proof of peekPlays_holds, put together by a small program of ours (names shortened, spaces taken out). No condition beyond the given statement. -/
import Derived.Test.YtgfgglponbmgmaaGreatPKP6
set_option linter.unusedVariables false
set_option linter.unusedSimpArgs false
set_option linter.unnecessarySimpa false
noncomputable section
section
namespace Go.Proofs.YtgfgglponbmgmaaGreatA.Am
open Go.RowKit (Below)
variable {P:Program} {μ:Mu} {H H':aa} {w:World} {B:Nat}
section
variable (P:Program) (F:List Nat) (base:Nat) (ops:Array Oper) (S:Nat→Env×aa) (val:Nat→Value) (L:Nat→Bool)
def jv (k:Nat):Option Nat:=(ops[k]?).bind (·.dst)
def mj:Nat→Nat→Value
 |0,t=>(S 0).1.get t
 |k+1,t=>if L k=true∧jv ops k=some t then val k else mj k t
def fq (k:Nat):Bool:=match ops[k]? with
 |some o=>decide (cls P o.op= .zB)&&(dC ops o (S k).1==some true)
 |none=>false
def bOf (k:Nat):eU:=match (S (k+1)).2.get (base+F.idxOf k) with|some b=>b|none=>default
def rz (k:Nat)(X:aa):aa:=X.lay (base+F.idxOf k) (bOf F base S k)
def nJ:Nat→aa
 |0=>(S 0).2
 |k+1=>if L k=true∧fq P ops S k=true then(if F.contains k then rz F base S k (nJ k) else(S (k+1)).2) else nJ k
def bO (X:aa)(m:Nat):Nat→aa
 |0=>X
 |d+1=>if L (m+d)=true∧F.contains (m+d)=true then rz F base S (m+d) (bO X m d) else bO X m d
def oG:Nat→Nat
 |0=>0
 |k+1=>oG k+if L k then 0 else 1
end
variable {F:List Nat} {base:Nat} {ops:Array Oper} {S:Nat→Env×aa} {val:Nat→Value} {L L':Nat→Bool} {C:ae}
theorem He {i t:Nat}(kq: ∀k o,ops[k]? =some o→wR P C F base ops k o (S k) (S (k+1)) (val k))(hn:i≤ops.size)(h: ∀k,k<i→jv ops k=some t→L k=true):
  mj ops S val L i t=(S i).1.get t:=by
 induction i with
 |zero=>rfl
 |succ k ih=>
  have hk:k<ops.size:=by omega
  have ho:ops[k]? =some ops[k]:=Array.getElem?_eq_getElem hk;have h1:=(kq k _ ho).1;rw[h1,Env.aG,mj];have hd:jv ops k=ops[k].dst:=by simp[jv,ho]
  by_cases e:jv ops k=some t
  ·rw[if_pos ⟨h k (by omega) e,e⟩,if_pos (by rw[←hd];exact e)]
  ·rw[if_neg (λx=>e x.2),if_neg (by rw[←hd];exact e)]
   exact ih (by omega) (λj hj=>h j (by omega))
theorem DP {i n t:Nat}(pY:i≤n)(h: ∀k,i≤k→k<n→jv ops k=some t→L k=false):mj ops S val L n t=mj ops S val L i t:=by
 induction n with
 |zero=>
  have:i=0:=by omega
  subst this;rfl
 |succ k ih=>
  by_cases e:i=k+1
  ·subst e;rfl
  ·rw[mj,if_neg]
   ·exact ih (by omega) (λj h1 h2=>h j h1 (by omega))
   ·rintro⟨h1,h2⟩;rw[h k (by omega) (by omega) h2] at h1;cases h1
theorem QN {i n t:Nat}(pY:i<n)(hi:L' i=true)(dz: ∀k,k≠i→L' k=L k)(h:jv ops i=some t→∀k,i<k→k<n→jv ops k=some t→L k=false):
  mj ops S val L' n t=if jv ops i=some t then val i else mj ops S val L n t:=by
 induction n with
 |zero=>omega
 |succ k ih=>
  by_cases e:i=k
  ·subst e;rw[mj,mj];have DQ: ∀m,m≤i→mj ops S val L' m t=mj ops S val L m t:=by
    intro m hm;induction m with
    |zero=>rfl
    |succ j ihj=>rw[mj,mj,dz j (by omega),ihj (by omega)]
   by_cases hd:jv ops i=some t
   ·rw[if_pos ⟨hi,hd⟩,if_pos hd]
   ·rw[if_neg (λx=>hd x.2),if_neg hd,if_neg (λx=>hd x.2)];exact DQ i (Nat.le_refl _)
  ·rw[mj,mj,dz k (by omega),ih (by omega) (λa b c d=>h a b c (by omega))]
   by_cases hd:jv ops i=some t
   ·rw[if_pos hd];by_cases hk:L k=true∧jv ops k=some t
    ·rw[h hd k (by omega) (by omega) hk.2] at hk;cases hk.1
    ·rw[if_neg hk,if_pos hd]
   ·rw[if_neg hd,if_neg hd]
theorem Jx {k:Nat}{o:Oper}(kq:wR P C F base ops k o (S k) (S (k+1)) (val k))(ho:ops[k]? =some o)(hb:cls P o.op≠ .bad)(hF:F.contains k=true→cls P o.op= .zB)(h:fq P ops S k=false):(S (k+1)).2=(S k).2:=by
 rcases kq.2 with⟨hw,hx⟩|⟨hw,_,hx⟩
 ·have hc:cls P o.op≠ .zB:=by
   intro e;simp[fq,ho,e,hw] at h
  have hnF: ¬F.contains k=true:=λe=>hc (hF e)
  unfold dw at hx;rw[if_neg hnF, ←qB] at hx;unfold jK at hx;split at hx
  ·rename_i e;rw[e] at hc;exact absurd rfl hc
  ·exact AG hc hb hx
 ·exact hx
theorem FJ {j k:Nat}(hj:F.contains j=true)(Av:j≠k):base+F.idxOf j≠base+F.idxOf k:=by
 intro e;have e':F.idxOf j=F.idxOf k:=by omega
 have zC:j∈F:=by simpa using hj
 have gG:=List.idxOf_lt_length_of_mem zC;have h1:=List.getElem_idxOf gG;have ab6:F.idxOf k<F.length:=by omega
 have h2:=List.getElem_idxOf ab6;apply Av;rw[←h1, ←h2];simp only[e']
theorem Vz {i:Nat}(nK: ∀k,k<i→fq P ops S k=false→(S (k+1)).2=(S k).2)(Hf: ∀k,k<i→F.contains k=true→fq P ops S k=true→(S (k+1)).2=rz F base S k (S k).2)(h: ∀k,k<i→fq P ops S k=true→L k=true):nJ P F base ops S L i=(S i).2:=by
 induction i with
 |zero=>rfl
 |succ k ih=>
  have ihk:=ih (λj hj=>nK j (by omega)) (λj hj=>Hf j (by omega)) (λj hj=>h j (by omega))
  rw[nJ];by_cases e:fq P ops S k=true
  ·rw[if_pos ⟨h k (by omega) e,e⟩]
   by_cases hF:F.contains k=true
   ·rw[if_pos hF,ihk];exact(Hf k (by omega) hF e).symm
   ·rw[if_neg hF]
  ·rw[if_neg (λx=>e x.2),ihk,nK k (by omega) (by simpa using e)]
theorem DR {n:Nat}(h: ∀k,k<n→fq P ops S k=true→L' k=L k):nJ P F base ops S L' n=nJ P F base ops S L n:=by
 induction n with
 |zero=>rfl
 |succ k ih=>
  rw[nJ,nJ,ih (λj hj=>h j (by omega))]
  by_cases e:fq P ops S k=true
  ·rw[h k (by omega) e]
  ·rw[if_neg (λx=>e x.2),if_neg (λx=>e x.2)]
theorem DS {m:Nat}(hF: ∀k,F.contains k=true→fq P ops S k=true): ∀d,(∀k,m≤k→k<m+d→L k=true→fq P ops S k=true→F.contains k=true)→
  nJ P F base ops S L (m+d)=bO F base S L (nJ P F base ops S L m) m d:=by
 intro d;induction d with
 |zero=>intro _;rfl
 |succ d ih=>
  intro h;have ihd:=ih (λk h1 h2=>h k h1 (by omega))
  rw[←Nat.add_assoc,nJ,bO,ihd];by_cases e:L (m+d)=true∧fq P ops S (m+d)=true
  ·have hf:=h (m+d) (by omega) (by omega) e.1 e.2
   rw[if_pos e,if_pos hf,if_pos ⟨e.1,hf⟩]
  ·rw[if_neg e,if_neg (λx=>e ⟨x.1,hF _ x.2⟩)]
theorem Nl (hF: ∀k,F.contains k=true→fq P ops S k=true)(n:Nat):
  ∃m,m≤n∧nJ P F base ops S L n=bO F base S L (S m).2 m (n-m)∧(m=0∨∃p,m=p+1∧L p=true∧fq P ops S p=true∧F.contains p=false)∧
   (∀k,m≤k→k<n→L k=true→fq P ops S k=true→F.contains k=true):=by
 have key: ∃m,m≤n∧nJ P F base ops S L m=(S m).2∧(m=0∨∃p,m=p+1∧L p=true∧fq P ops S p=true∧F.contains p=false)∧
   (∀k,m≤k→k<n→L k=true→fq P ops S k=true→F.contains k=true):=by
  induction n with
  |zero=>exact⟨0,Nat.le_refl _,rfl,.inl rfl,λk _ hk=>by omega⟩
  |succ k ih=>
   by_cases e:L k=true∧fq P ops S k=true∧F.contains k=false
   ·refine⟨k+1,Nat.le_refl _,?_,.inr ⟨k,rfl,e.1,e.2.1,e.2.2⟩,λj h1 h2=>by omega⟩
    rw[nJ,if_pos ⟨e.1,e.2.1⟩,if_neg (by rw[e.2.2];simp)]
   ·obtain⟨m,h1,h2,h3,h4⟩:=ih;refine⟨m,by omega,h2,h3,λj a1 a2 a3 a4=>?_⟩
    by_cases ej:j=k
    ·subst ej;cases hf:F.contains j with
     |true=>rfl
     |false=>exact absurd ⟨a3,a4,hf⟩ e
    ·exact h4 j a1 (by omega) a3 a4
 obtain⟨m,h1,h2,h3,h4⟩:=key;refine⟨m,h1,?_,h3,h4⟩;have:=DS (base:=base) (L:=L) hF (m:=m) (n-m) (λk a b=>h4 k a (by omega))
 rw[show m+(n-m)=n by omega] at this
 rw[this,h2]
theorem AI {j k:Nat}(hj:F.contains j=true)(Av:j≠k)(X:aa):rz F base S j (rz F base S k X)=rz F base S k (rz F base S j X):=by
 unfold rz;exact rl (FJ hj Av) _
theorem rA (X:aa)(m:Nat): ∀d,bO F base S L X m (d+1)=bO F base S L (if L m=true∧F.contains m=true then rz F base S m X else X) (m+1) d:=by
 intro d;induction d with
 |zero=>simp only[bO,Nat.add_zero]
 |succ d ih=>
  rw[bO,ih]
  conv=>rhs;rw[bO]
  rw[show m+1+d=m+(d+1) by omega]
theorem rB {X:aa}{m:Nat}: ∀d,(∀k,m≤k→k<m+d→L' k=L k)→bO F base S L' X m d=bO F base S L X m d:=by
 intro d;induction d with
 |zero=>intro _;rfl
 |succ d ih=>
  intro h;rw[bO,bO,ih (λk h1 h2=>h k h1 (by omega)),h (m+d) (by omega) (by omega)]
theorem VA {X:aa}{m i:Nat}(hi:F.contains i=true)(h0:L i=false)(h1:L' i=true)(dz: ∀k,k≠i→L' k=L k): ∀d,m≤i→i<m+d→bO F base S L' X m d=rz F base S i (bO F base S L X m d):=by
 intro d;induction d with
 |zero=>intro h2 h3;omega
 |succ d ih=>
  intro h2 h3;rw[bO,bO];by_cases e:i=m+d
  ·subst e;rw[if_pos ⟨h1,hi⟩,if_neg (by rw[h0];simp),rB d (λk a b=>dz k (by omega))]
  ·rw[dz (m+d) (Ne.symm e),ih h2 (by omega)]
   by_cases c:L (m+d)=true∧F.contains (m+d)=true
   ·rw[if_pos c,if_pos c,AI c.2 (Ne.symm e)]
   ·rw[if_neg c,if_neg c]
theorem mZ {X:aa}{m j:Nat}(_hj:F.contains j=true)(hf:ca X (base+F.idxOf j)): ∀d,(∀k,m≤k→k<m+d→L k=true→k≠j)→ca (bO F base S L X m d) (base+F.idxOf j):=by
 intro d;induction d with
 |zero=>intro _;exact hf
 |succ d ih=>
  intro h;rw[bO];have:=ih (λk h1 h2=>h k h1 (by omega))
  by_cases c:L (m+d)=true∧F.contains (m+d)=true
  ·rw[if_pos c];exact this.set (FJ c.2 (h _ (by omega) (by omega) c.1)) _
  ·rw[if_neg c];exact this
theorem BU {f:aa→Option (Value×aa)}{X X':aa}{v:Value}{m:Nat}(hup: ∀k,F.contains k=true→m≤k→∀Y b,Up (base+F.idxOf k) b Y (f Y) (f (Y.lay (base+F.idxOf k) b)))(h:f X=some (v,X')):
  ∀d,(∀k,m≤k→F.contains k=true→ca X (base+F.idxOf k))→f (bO F base S L X m d)=some (v,bO F base S L X' m d):=by
 intro d;induction d with
 |zero=>intro _;exact h
 |succ d ih=>
  intro hf;have:=ih hf
  rw[bO,bO];by_cases c:L (m+d)=true∧F.contains (m+d)=true
  ·rw[if_pos c,if_pos c];have kU:ca (bO F base S L X m d) (base+F.idxOf (m+d)):=mZ c.2 (hf _ (by omega) c.2) d (λk h1 h2 _=>by omega)
   exact(hup _ c.2 (by omega) _ _ kU _ _ this).2
  ·rw[if_neg c,if_neg c];exact this
theorem VB {i n:Nat}(pY:i<n)(h0:L i=false)(h1:L' i=true)(dz: ∀k,k≠i→L' k=L k):oG L' n+1=oG L n:=by
 induction n with
 |zero=>omega
 |succ k ih=>
  have DQ: ∀m,m≤i→oG L' m=oG L m:=by
   intro m hm;induction m with
   |zero=>rfl
   |succ j ihj=>rw[oG,oG,dz j (by omega),ihj (by omega)]
  by_cases e:i=k
  ·subst e;rw[oG,oG,h0,h1,DQ i (Nat.le_refl _)];simp
  ·rw[oG,oG,dz k (by omega)];have:=ih (by omega);omega
theorem Nm {n:Nat}(h:oG L n=0): ∀k,k<n→L k=true:=by
 induction n with
 |zero=>intro k hk;omega
 |succ m ih=>
  rw[oG] at h;intro k hk;by_cases e:k=m
  ·subst e;cases hl:L k with
   |true=>rfl
   |false=>rw[hl] at h;simp at h
  ·exact ih (by omega) k (by omega)
theorem wT {a b:Value}(h:zI a b=true):a=b:=by
 unfold zI at h;split at h
 ·simpa using h
 ·simp only[Bool.and_eq_true,decide_eq_true_eq,beq_iff_eq] at h;rw[h.1,h.2]
 ·simpa using h
 ·simpa using h
 ·simp only[Bool.and_eq_true,decide_eq_true_eq,beq_iff_eq] at h;rw[h.1.1,h.1.2,h.2]
 ·simpa using h
 ·rfl
 ·rfl
 ·cases h
theorem rC: ∀{a b:List Value},sT zI a b=true→a=b
 | [],[],_=>rfl
 |a::x,b::y,h=>by
  simp only[sT,Bool.and_eq_true] at h;rw[wT h.1,rC h.2]
 | [],_::_,h=>by simp[sT] at h
 |_::_,[],h=>by simp[sT] at h
theorem AJ {a b:Value}(h:oo a b=true):a=b:=by
 unfold oo at h;split at h
 ·have:=rC h
  rw[Array.toList_inj] at this;rw[this]
 ·exact wT h
theorem Jy {r e:Nat}{x y:Oper}(hx:ops[r]? =some x)(hy:ops[e]? =some y)(h1:cls P x.op= .read)(h2:cls P y.op= .zB)(h3:vf (Region.before ops) r e=false)(h4:vf (Region.before ops) e r=false):(r,e)∈mB P ops:=by
 unfold mB;rw[List.mem_flatMap];refine⟨r,List.mem_range.2 (Array.getElem?_eq_some_iff.1 hx).1,?_⟩;rw[List.mem_filterMap];refine⟨e,List.mem_range.2 (Array.getElem?_eq_some_iff.1 hy).1,?_⟩;simp[hx,hy,h1,h2,h3,h4]
structure rD (P:Program) (C:ae) (F:List Nat) (base:Nat) (ops:Array Oper) (S:Nat→Env×aa) (val:Nat→Value):Prop where
 st: ∀(k:Nat) (o:Oper),ops[k]? =some o→wR P C F base ops k o (S k) (S (k+1)) (val k)
 Nn:vg ops=true
 ZX: ∀(k:Nat) (o:Oper),ops[k]? =some o→cls P o.op≠ .bad
 pair: ∀(i j:Nat),i<j→j<ops.size→Bx P F (Region.before ops) ops i j=true
 ab7: ∀(r e:Nat) (x y:Oper),ops[r]? =some x→ops[e]? =some y→cls P x.op= .read→cls P y.op= .zB→vf (Region.before ops) r e=false→vf (Region.before ops) e r=false→
  dC ops x (S r).1=some true→fq P ops S e=true→(gU P (eB (S r).1) (S r).2 x.op).map Prod.fst=(gU P (eB (S r).1) (S e).2 x.op).map Prod.fst∧
   (gU P (eB (S r).1) (S r).2 x.op).map Prod.fst=(gU P (eB (S r).1) (S (e+1)).2 x.op).map Prod.fst
 lay: ∀k,F.contains k=true→∃o,ops[k]? =some o∧sR o=true
 free: ∀k,F.contains k=true→ca (S 0).2 (base+F.idxOf k)
 hole:gK C
theorem qC {o:Oper}(h:sR o=true):cls P o.op= .zB∧o.guard=none:=by
 unfold sR at h;simp only[Bool.and_eq_true,Option.isNone_iff_eq_none] at h;obtain⟨h1,h2⟩:=h;refine⟨?_,h1⟩;split at h2
 ·rename_i e;rw[e];rfl
 ·rename_i e;rw[e];rfl
 ·rename_i e;rw[e];rfl
 ·cases h2
theorem FK (H:aa){n k:Nat}(h:k<n):ca (H.cE n) (H.length+k):=by
 unfold ca aa.cE;rw[List.getElem?_append_right (by omega),List.getElem?_replicate]
 rw[if_pos (by omega)]
theorem rD.of {E E':Env}(hH:gK C)(dG:Fg P ops=true)(dH:fe P C ops true E H=some (E',H')):
  ∃F base S val,rD P C F base ops S val∧S 0=(E,H.cE F.length)∧S ops.size=(E',H'):=by
 unfold fe at dH;simp only[if_true] at dH;have ZY:cX P C (lK P ops) H.length ops ops.toList 0 E (H.cE (lK P ops).length)=some (E',H')∧(mB P ops).all (iO P ops (eo P C (lK P ops) H.length ops ops.toList 0 E (H.cE (lK P ops).length)))=true:=by
  cases hF:lK P ops with
  |nil=>
   rw[hF] at dH;simp only at dH;have e0:H.cE ([]:List Nat).length=H:=by simp[aa.cE]
   rw[e0,(iX ops.toList 0 E H).1,(iX ops.toList 0 E H).2];split at dH
   ·rename_i hc;exact⟨dH,by rw[hc];rfl⟩
   ·rename_i cs hc;split at dH
    ·rename_i jt;exact⟨dH,jt⟩
    ·cases dH
  |cons f F=>
   rw[hF] at dH;simp only at dH;split at dH
   ·rename_i hc;exact⟨dH,by rw[hc];rfl⟩
   ·rename_i cs hc;split at dH
    ·rename_i jt;exact⟨dH,jt⟩
    ·cases dH
 obtain⟨hr,ZZ⟩:=ZY;obtain⟨S,val,h0,hl,kq,ZW⟩:=FI ops.toList 0 E _ _ hr;simp only[Fg,Bool.and_eq_true,List.all_eq_true,List.mem_range,decide_eq_true_eq] at dG;obtain⟨⟨Z0,No⟩,Z1⟩:=dG;refine⟨lK P ops,H.length,S,val,⟨λk o ho=>by have:=kq k o (by simpa using ho);rwa [Nat.zero_add] at this,Z0,?_,λi j ME hj=>Z1 j hj i ME,?_,?_,?_,hH⟩,h0,by simpa using hl⟩
 ·intro k o ho;exact No o (by simpa using Array.mem_of_getElem? ho)
 ·intro r e x y hx hy Z2 rE h1 h2 hw Qr;have hm:=Jy (ops:=ops) hx hy Z2 rE h1 h2;have hc:=List.all_eq_true.1 ZZ _ hm;have hrs:r<ops.size:=(Array.getElem?_eq_some_iff.1 hx).1;have ZK:e<ops.size:=(Array.getElem?_eq_some_iff.1 hy).1;have t1:=ZW r (by simp;omega)
  have t2:=ZW e (by simp;omega)
  have t3:=ZW (e+1) (by simp;omega)
  unfold iO at hc;simp only[t1,t2,t3,hx,hy] at hc;have hwe:dC ops y (S e).1=some true:=by simpa[fq,hy,rE] using Qr
  simp only[hw,hwe] at hc;split at hc
  ·rename_i u _ u1 _ u2 _ e1 e2 e3;simp only[Bool.and_eq_true] at hc;rw[e1,e2,e3];simp only[Option.map_some];rw[←AJ hc.1, ←AJ hc.2];exact⟨rfl,rfl⟩
  ·cases hc
 ·intro k hk;have hk':k∈lK P ops:=by simpa using hk
  unfold lK at hk';simp only[List.mem_filter,List.mem_range] at hk';obtain⟨_,h2⟩:=hk';split at h2
  ·rename_i y hy;simp only[Bool.and_eq_true] at h2;exact⟨y,hy,h2.1⟩
  ·cases h2
 ·intro k hk;rw[h0];exact FK H (List.idxOf_lt_length_of_mem (by simpa using hk))
theorem rD.QO (h:rD P C F base ops S val): ∀k,F.contains k=true→fq P ops S k=true:=by
 intro k hk;obtain⟨o,ho,hf⟩:=h.lay k hk;obtain⟨h1,h2⟩:=qC (P:=P) hf;simp[fq,ho,h1,dC,h2]
theorem rD.same (h:rD P C F base ops S val): ∀k,k<ops.size→fq P ops S k=false→(S (k+1)).2=(S k).2:=by
 intro k hk he;have ho:ops[k]? =some ops[k]:=Array.getElem?_eq_getElem hk;refine Jx (h.st k _ ho) ho (h.ZX k _ ho) (λhF=>?_) he
 obtain⟨o,MG,hf⟩:=h.lay k hF;rw[ho] at MG;cases MG;exact(qC hf).1
theorem rD.FL (h:rD P C F base ops S val)(k:Nat)(hk:F.contains k=true): ∃o mk,ops[k]? =some o∧ca (S k).2 (base+F.idxOf k)∧At P (eB (S k).1) o.op=some (mk,bOf F base S k)∧val k=mk (base+F.idxOf k)∧(S (k+1)).2=rz F base S k (S k).2:=by
 obtain⟨o,ho,hf⟩:=h.lay k hk;obtain⟨_,hg⟩:=qC (P:=P) hf;rcases(h.st k o ho).2 with⟨hw,hx⟩|⟨hw,_⟩
 ·unfold dw at hx;rw[if_pos hk] at hx;unfold pR at hx;split at hx
  case h_2=>cases hx
  rename_i kU;split at hx
  case h_2=>cases hx
  rename_i mk b hb;have DE:=Option.some.inj hx;have e1:mk (base+F.idxOf k)=val k:=congrArg Prod.fst DE;have e2:(S k).2.set (base+F.idxOf k) (.zA b)=(S (k+1)).2:=congrArg Prod.snd DE;have Z3:ca (S k).2 (base+F.idxOf k):=kU;have eb:bOf F base S k=b:=by
   unfold bOf;rw[←e2];have:aa.get (List.set (S k).2 (base+F.idxOf k) (.zA b)) (base+F.idxOf k)=some b:=mY Z3.lt;rw[this]
  refine⟨o,mk,ho,Z3,by rw[eb];exact hb,e1.symm,?_⟩
  rw[←e2];unfold rz;rw[eb];rfl
 ·simp[dC,hg] at hw
theorem rD.FM (h:rD P C F base ops S val){k:Nat}(hk:F.contains k=true): ∀m,m≤k→ca (S m).2 (base+F.idxOf k):=by
 intro m;induction m with
 |zero=>intro _;exact h.free k hk
 |succ m ih=>
  intro hm;have hfm:=ih (by omega)
  obtain⟨ok,dG,_⟩:=h.lay k hk;have hkl:k<ops.size:=(Array.getElem?_eq_some_iff.1 dG).1;have ho:ops[m]? =some ops[m]:=Array.getElem?_eq_getElem (by omega)
  rcases(h.st m _ ho).2 with⟨hw,hx⟩|⟨_,_,hx⟩
  ·rw[←um] at hx;exact(uo (b:=default) h.hole (λhc=>FJ hc (by omega)) hfm _ _ hx).1
  ·rw[hx];exact hfm
theorem rD.comes (h:rD P C F base ops S val){i:Nat}{o:Oper}(ho:ops[i]? =some o)(hi:L i=false)(hLi:L' i=true)(Np: ∀k,k≠i→L' k=L k)(DQ: ∀k,k<i→L k=false→vf (Region.before ops) k i=false)(Hg: ∀k,L k=true→vf (Region.before ops) i k=false):
  (∀t∈o.looksAt ops,mj ops S val L ops.size t=(S i).1.get t)∧(∀t,o.dst=some t→∀k,i<k→k<ops.size→jv ops k=some t→L k=false)∧
  (dC ops o (S i).1=some true→gj P C F base i (S i).1.get (nJ P F base ops S L ops.size) o=some (val i,nJ P F base ops S L' ops.size))∧
  (fq P ops S i=false→nJ P F base ops S L' ops.size=nJ P F base ops S L ops.size):=by
 have pY:i<ops.size:=(Array.getElem?_eq_some_iff.1 ho).1;have low: ∀(k:Nat) (x:Oper),k<i→ops[k]? =some x→L k=false→x.apart ops o=true∧(cls P x.op= .zB→cls P o.op= .zB→F.contains i=true):=by
  intro k x hk hx hl;have hp:=h.pair k i hk pY;unfold Bx at hp;rw[hx,ho] at hp;simp only[DQ k hk hl,Bool.false_or,Bool.and_eq_true] at hp;obtain⟨h1,h2⟩:=hp;refine⟨h1,λa b=>?_⟩
  rw[a,b] at h2;simpa using h2
 have high: ∀(k:Nat) (y:Oper),i<k→ops[k]? =some y→L k=true→o.apart ops y=true∧(cls P o.op= .zB→cls P y.op= .zB→F.contains k=true):=by
  intro k y hk hy hl;have VC:k<ops.size:=(Array.getElem?_eq_some_iff.1 hy).1;have hp:=h.pair i k hk VC;unfold Bx at hp;rw[hy,ho] at hp;simp only[Hg k hl,Bool.false_or,Bool.and_eq_true] at hp;obtain⟨h1,h2⟩:=hp;refine⟨h1,λa b=>?_⟩
  rw[a,b] at h2;simpa using h2
 have DT: ∀(k:Nat),fq P ops S k=true→∃x,ops[k]? =some x∧cls P x.op= .zB∧dC ops x (S k).1=some true:=by
  intro k hk;unfold fq at hk;split at hk
  ·rename_i x hx;simp only[Bool.and_eq_true,decide_eq_true_eq,beq_iff_eq] at hk;exact⟨x,hx,hk.1,hk.2⟩
  ·cases hk
 have quiet:fq P ops S i=false→nJ P F base ops S L' ops.size=nJ P F base ops S L ops.size:=λhe=>
  DR λk _ hk=>Np k (by rintro rfl;rw[he] at hk;cases hk)
 obtain⟨m,hmn,M8,Jz,T3⟩:=Nl (P:=P) (base:=base) (ops:=ops) (S:=S) (L:=L) h.QO ops.size;have down: ∀a,m≤a→a<i→(fq P ops S a=false∨L a=true)→bO F base S L (S a).2 a (ops.size-a)=bO F base S L (S (a+1)).2 (a+1) (ops.size-(a+1)):=by
  intro a h1 h2 h3;rw[show ops.size-a=(ops.size-(a+1))+1 by omega,rA]
  by_cases he:fq P ops S a=true
  ·have hl:L a=true:=by
    rcases h3 with h3|h3
    ·rw[he] at h3;cases h3
    ·exact h3
   have hf:=T3 a h1 (by omega) hl he
   rw[if_pos ⟨hl,hf⟩];obtain⟨_,_,_,_,_,_,e⟩:=h.FL a hf;rw[e]
  ·have he':fq P ops S a=false:=by simpa using he
   rw[if_neg (λx=>he (h.QO a x.2)),h.same a (by omega) he']
 refine⟨?_,?_,?_,quiet⟩
 ·intro t ht;rw[DP (i:=i) (by omega),He (P:=P) (C:=C) (F:=F) (base:=base) h.st (by omega)]
  ·intro k hk hd;cases hl:L k with
   |true=>rfl
   |false=>
    have VC:k<ops.size:=by omega
    have hx:ops[k]? =some ops[k]:=Array.getElem?_eq_getElem VC;obtain⟨h1,_,_⟩:=Oper.apart_spec (low k _ hk hx hl).1;exact absurd ht (h1 t (by simpa[jv,hx] using hd))
  ·intro k hk VC hd;by_cases e:k=i
   ·subst e;exact hi
   ·cases hl:L k with
    |false=>rfl
    |true=>
     have hy:ops[k]? =some ops[k]:=Array.getElem?_eq_getElem VC;obtain⟨_,_,h3⟩:=Oper.apart_spec (high k _ (by omega) hy hl).1
     exact absurd ht (h3 t (by simpa[jv,hy] using hd))
 ·intro t ht k hk VC hd;cases hl:L k with
  |false=>rfl
  |true=>
   have hy:ops[k]? =some ops[k]:=Array.getElem?_eq_getElem VC;obtain⟨_,h2,_⟩:=Oper.apart_spec (high k _ hk hy hl).1;exact absurd (by simpa[jv,hy] using hd) (h2 t ht)
 ·intro hw;have kq:=h.st i o ho;have hx:dw P C F base i (S i).1 (S i).2 o=some (val i,(S (i+1)).2):=by
   rcases kq.2 with⟨_,hx⟩|⟨uQ,_,_⟩
   ·exact hx
   ·rw[hw] at uQ;cases uQ
  have DE:=hx;rw[←um] at DE;have ab8:cls P o.op= .zB→m≤i:=by
   intro rE;rcases Jz with rfl|⟨p,rfl,Fv,FN,hp3⟩
   ·omega
   ·have dz:p≠i:=by rintro rfl;rw[hi] at Fv;cases Fv
    have hpn:p<ops.size:=by omega
    obtain⟨y,hy,Z4,_⟩:=DT p FN;by_cases gG:i<p
    ·have:=(high p y gG hy Fv).2 rE Z4
     rw[hp3] at this;cases this
    ·omega
  by_cases rE:cls P o.op= .zB
  ·have Qr:fq P ops S i=true:=by simp[fq,ho,rE,hw]
   have hmi:=ab8 rE;by_cases hF:F.contains i=true
   ·
    obtain⟨o',mk,MG,kU,hb,hv,_⟩:=h.FL i hF;rw[ho] at MG;cases MG;have VD:ca (nJ P F base ops S L ops.size) (base+F.idxOf i):=by
     rw[M8];exact mZ hF (h.FM hF m hmi) _ (λk _ _ hk e=>by subst e;rw[hi] at hk;cases hk)
    have JA:nJ P F base ops S L' ops.size=rz F base S i (nJ P F base ops S L ops.size):=by
     have key: ∀n,i<n→nJ P F base ops S L' n=rz F base S i (nJ P F base ops S L n)∨∃p,i<p∧p<n∧L p=true∧fq P ops S p=true∧F.contains p=false:=by
      intro n;induction n with
      |zero=>intro h;omega
      |succ n ih=>
       intro hn;by_cases e:i=n
       ·subst e;left
        rw[nJ,nJ,if_pos ⟨hLi,Qr⟩,if_pos hF,if_neg (by rw[hi];simp),DR (λk hk _=>Np k (by omega))]
       ·rcases ih (by omega) with ih|⟨p,a1,a2,a3⟩
        ·rw[nJ,nJ,Np n (Ne.symm e)];by_cases c:L n=true∧fq P ops S n=true
         ·rw[if_pos c,if_pos c];by_cases hFn:F.contains n=true
          ·left
           rw[if_pos hFn,if_pos hFn,ih,AI hFn (Ne.symm e)]
          ·right
           exact⟨n,by omega,by omega,c.1,c.2,by simpa using hFn⟩
         ·rw[if_neg c,if_neg c];exact .inl ih
        ·exact .inr ⟨p,a1,by omega,a3⟩
     rcases key ops.size pY with e|⟨p,a1,a2,a3,a4,a5⟩
     ·exact e
     ·obtain⟨y,hy,Z4,_⟩:=DT p a4;have:=(high p y a1 hy a3).2 rE Z4
      rw[a5] at this;cases this
    unfold gj;rw[if_pos hF];unfold pR;have ab9:(nJ P F base ops S L ops.size)[base+F.idxOf i]? =some .hole:=VD;rw[ab9];simp only[gi,hb,hv,JA];rfl
   ·
    have hF':F.contains i=false:=by simpa using hF
    have QP: ∀q,q<i→fq P ops S q=true→L q=true:=by
     intro q hq he;obtain⟨x,Qs,hx2,_⟩:=DT q he;cases hl:L q with
     |true=>rfl
     |false=>exact absurd ((low q x hq Qs hl).2 hx2 rE) hF
    have hS: ∀d a,a+d=i→m≤a→bO F base S L (S a).2 a (ops.size-a)=bO F base S L (S i).2 i (ops.size-i):=by
     intro d;induction d with
     |zero=>
      intro a e _;have:a=i:=by omega
      subst this;rfl
     |succ d ih=>
      intro a e hma;rw[down a hma (by omega) (by
       cases he:fq P ops S a with
       |false=>exact .inl rfl
       |true=>exact .inr (QP a (by omega) he))]
      exact ih (a+1) (by omega) (by omega)
    have hh:nJ P F base ops S L ops.size=bO F base S L (S i).2 (i+1) (ops.size-(i+1)):=by
     rw[M8,hS (i-m) m (by omega) (Nat.le_refl _),show ops.size-i=(ops.size-(i+1))+1 by omega,rA,if_neg (λx=>hF x.2)]
    have hh':nJ P F base ops S L' ops.size=bO F base S L (S (i+1)).2 (i+1) (ops.size-(i+1)):=by
     have hi1:nJ P F base ops S L' (i+1)=(S (i+1)).2:=by
      rw[nJ,if_pos ⟨hLi,Qr⟩,if_neg hF]
     have:=DS (base:=base) (L:=L') h.QO (m:=i+1) (ops.size-(i+1)) (λk a b c e=>by
      rw[Np k (by omega)] at c
      obtain⟨y,hy,Z4,_⟩:=DT k e;exact(high k y (by omega) hy c).2 rE Z4)
     rw[show i+1+(ops.size-(i+1))=ops.size by omega,hi1] at this
     rw[this];exact rB _ (λk a _=>Np k (by omega))
    rw[hh,hh'];refine BU (f:=λX=>gj P C F base i (S i).1.get X o) (λk hk hki Y b=>uo h.hole (λhc=>by rw[hF'] at hc;cases hc)) DE _ (λk hk hkF=>h.FM hkF i (by omega))
  ·have Qr:fq P ops S i=false:=by simp[fq,ho,rE]
   have hnF:F.contains i=false:=by
    cases hc:F.contains i with
    |false=>rfl
    |true=>
     have:=h.QO i hc
     rw[Qr] at this;cases this
   have nK:=h.same i pY Qr;rw[quiet Qr];have vi: ∀H2,gj P C F base i (S i).1.get H2 o=gU P (iq (S i).1.get) H2 o.op:=by
    intro H2;unfold gj;rw[if_neg (by rw[hnF];simp)]
    unfold jK;split
    ·rename_i e;rw[e] at rE;exact absurd rfl rE
    ·rfl
   rw[vi] at DE ⊢;have No:=h.ZX i o ho;cases Dz:cls P o.op with
   |zB=>exact absurd Dz rE
   |bad=>exact absurd Dz No
   |pure=>exact Nk Dz DE _
   |read=>
    have hu:(gU P (eB (S i).1) (S i).2 o.op).map Prod.fst=some (val i):=by rw[←gi,DE];rfl
    have uR: ∀H2,(gU P (eB (S i).1) H2 o.op).map Prod.fst=some (val i)→gU P (iq (S i).1.get) H2 o.op=some (val i,H2):=by
     intro H2 h2;rw[Option.map_eq_some_iff] at h2;obtain⟨⟨u,H3⟩,h3,e⟩:=h2;cases e;rw[gi,h3];rw[AG (P:=P) (by rw[Dz];simp) (by rw[Dz];simp) h3]
    refine uR _ ?_;have cf: ∀(e:Nat) (y:Oper),ops[e]? =some y→fq P ops S e=true→vf (Region.before ops) i e=false→vf (Region.before ops) e i=false→
      (gU P (eB (S i).1) (S e).2 o.op).map Prod.fst=some (val i)∧(gU P (eB (S i).1) (S (e+1)).2 o.op).map Prod.fst=some (val i):=by
     intro e y hy Z5 h1 h2;obtain⟨x,Qs,hx2,Zc⟩:=DT e Z5;rw[hy] at Qs;cases Qs;obtain⟨c1,c2⟩:=h.ab7 i e o y ho hy Dz hx2 h1 h2 hw Z5;rw[hu] at c1 c2;exact⟨c1.symm,c2.symm⟩
    have Z6: ∀q,i≤q→vf (Region.before ops) q i=false:=by
     intro q hq;cases hb:vf (Region.before ops) q i with
     |false=>rfl
     |true=>have:=Nj h.Nn i q hb;omega
    have VE: ∀q,q≤i→vf (Region.before ops) i q=false:=by
     intro q hq;cases hb:vf (Region.before ops) i q with
     |false=>rfl
     |true=>have:=Nj h.Nn q i hb;omega
    have told: ∀(a d:Nat),(∀k,a≤k→k<a+d→F.contains k=true→ca (S a).2 (base+F.idxOf k))→(gU P (eB (S i).1) (S a).2 o.op).map Prod.fst=some (val i)→
      (gU P (eB (S i).1) (bO F base S L (S a).2 a d) o.op).map Prod.fst=some (val i):=by
     intro a d kU ha;have ha2:gU P (eB (S i).1) (S a).2 o.op=some (val i,(S a).2):=by have:=uR _ ha;rwa [gi] at this
     have key: ∀d',d'≤d→gU P (eB (S i).1) (bO F base S L (S a).2 a d') o.op=some (val i,bO F base S L (S a).2 a d'):=by
      intro d';induction d' with
      |zero=>intro _;exact ha2
      |succ d' ih=>
       intro hd;have:=ih (by omega)
       rw[bO];by_cases c:L (a+d')=true∧F.contains (a+d')=true
       ·rw[if_pos c];have VD:ca (bO F base S L (S a).2 a d') (base+F.idxOf (a+d')):=mZ c.2 (kU _ (by omega) (by omega) c.2) d' (λk h1 h2 _=>by omega)
        exact(pf VD _ _ this).2
       ·rw[if_neg c];exact this
     rw[key d (Nat.le_refl _)];rfl
    have frs: ∀a,∀k,a≤k→k<a+(ops.size-a)→F.contains k=true→ca (S a).2 (base+F.idxOf k):=λa k h1 _ hk=>h.FM hk a h1
    rw[M8];by_cases hmi:m≤i
    ·
     have A: ∀d a,a+d=i→m≤a→(gU P (eB (S i).1) (bO F base S L (S a).2 a (ops.size-a)) o.op).map Prod.fst=some (val i):=by
      intro d;induction d with
      |zero=>
       intro a e _;have:a=i:=by omega
       subst this;exact told a _ (frs a) hu
      |succ d ih=>
       intro a e hma;by_cases hd:fq P ops S a=false∨L a=true
       ·rw[down a hma (by omega) hd];exact ih (a+1) (by omega) (by omega)
       ·have he:fq P ops S a=true:=by
         cases hh:fq P ops S a with
         |true=>rfl
         |false=>exact absurd (.inl hh) hd
        have hl:L a=false:=by
         cases hh:L a with
         |false=>rfl
         |true=>exact absurd (.inr hh) hd
        exact told a _ (frs a) (cf a _ (Array.getElem?_eq_getElem (by omega)) he (VE a (by omega)) (DQ a (by omega) hl)).1
     exact A (i-m) m (by omega) (Nat.le_refl _)
    ·rcases Jz with rfl|⟨p,rfl,Fv,FN,hp3⟩
     ·omega
     ·have hpi:i≤p:=by omega
      exact told (p+1) _ (frs (p+1)) (cf p _ (Array.getElem?_eq_getElem (by omega)) FN (Hg p Fv) (Z6 p hpi)).2
structure Inv (P:Program) (F:List Nat) (base:Nat) (ops:Array Oper) (S:Nat→Env×aa) (val:Nat→Value) (N B:Nat) (a0:Act) (w0:World) (μ0:Mu) (bB:Array Bool) (a:Act) (w:World) (μ:Mu):Prop where
 size:bB.size=ops.size
 shut: ∀(j:Nat) (o:Oper),ops[j]? =some o→bB.getD j false=true→∀e∈o.after,Region.binds .any e=true→bB.getD e.on false=true
 env:gV μ (mj ops S val (λk=>bB.getD k false) ops.size) a.tmps
 sim:cO P μ (nJ P F base ops S (λk=>bB.getD k false) ops.size) w B
 tmps:N≤a.tmps.size
 T4:a.tmps.size=a0.tmps.size
 defers:a.defers=a0.defers
 below:eV B w0 w
 le:μ0.le μ
theorem zV {ro:Option Nat}{n:Nat}{C:ae}{F:List Nat}{base k:Nat}{E:Nat→Value}{o:Oper}{v:Value}{a:Act}{K:Act→World→Prop}{Q:Exit→Act→World→Prop}(hC:zS P B C)(hS:cO P μ H w B)(hE:gV μ E a.tmps)(Hf:F.contains k=true→sR o=true)(h:gj P C F base k E H o=some (v,H'))(hK: ∀v' μ' w',μ.le μ'→VR μ' v v'→cO P μ' H' w' B→eV B w w'→K (a.put o.dst v') w'):o.wpIn (FR ro) n P a w K Q:=by
 unfold gj at h;split at h
 ·rename_i hc;have hnd: ∀c,o.op≠ .defer c:=by
   intro c e;have:=Hf hc
   unfold sR at this;rw[e] at this;simp at this
  refine⟨λ_ _=>trivial,?_⟩
  rw[Oper.semAt_eq _ _ _ hnd];obtain⟨v',μ',w',hr,hle,hv,sW,hB⟩:=DN (o:=o) hS hE.eval h;rcases hr with hr|⟨hr,rfl⟩
  ·rw[hr];exact hK v' μ' w' hle hv sW hB
  ·rw[hr];exact hK undef μ' w' hle hv sW hB
 ·exact ry hC hS hE h hK
theorem cO.cE (h:cO P μ H w B)(n:Nat):cO P μ (H.cE n) w B:=by
 have hg: ∀{i:Nat} {b:eU},(H.cE n).get i=some b→H.get i=some b:=by
  intro i b hb;rw[aa.qU] at hb ⊢;unfold aa.cE at hb;by_cases e:i<H.length
  ·rwa [List.getElem?_append_left e] at hb
  ·rw[List.getElem?_append_right (by omega),List.getElem?_replicate] at hb
   split at hb<;>cases hb
 have ho: ∀{i:Nat} {b:dB},(H.cE n).dW i=some b→H.dW i=some b:=by
  intro i b hb;rw[aa.qV] at hb ⊢;unfold aa.cE at hb;by_cases e:i<H.length
  ·rwa [List.getElem?_append_left e] at hb
  ·rw[List.getElem?_append_right (by omega),List.getElem?_replicate] at hb
   split at hb<;>cases hb
 refine⟨h.base,λi b hb=>h.ok i b (hg hb),λi hi=>h.BA i (by simp[aa.cE] at hi;omega),λi j b c l m hb hc=>h.inj i j b c l m (hg hb) (hg hc),λi b l hb=>h.own i b l (hg hb),
  h.dW.keep μ.le_refl (λ_ _=>ho) (λ_ _ h _=>h),λi hi=>?_⟩
 by_cases e:i<H.length
 ·unfold aa.cE at hi;rw[List.getElem?_append_left e] at hi;exact h.wg i hi
 ·exact h.BA i (by omega)
theorem AK {bB:Array Bool}{i:Nat}(hi:i∈Region.ready .any ops bB)(hs:bB.size=ops.size):
  ∃o,ops[i]? =some o∧bB.getD i false=false∧∀e∈o.after,Region.binds .any e=true→bB.getD e.on false=true:=by
 unfold Region.ready at hi;rw[List.mem_filter] at hi;obtain⟨h1,h2⟩:=hi;have pY:=List.mem_range.1 h1;simp only[Bool.and_eq_true,Bool.not_eq_true'] at h2;refine⟨ops[i],Array.getElem?_eq_getElem pY,?_,?_⟩
 ·have:=h2.1
  rw[Array.getD_eq_getD_getElem?,Array.getElem?_eq_getElem (by omega)] at this ⊢
  exact this
 ·intro e he hb;have h3:=h2.2;rw[Array.getElem?_eq_getElem pY] at h3;simp only[Option.map_some,Option.getD_some] at h3;have:=Array.all_eq_true_iff_forall_mem.1 h3 e he
  simpa[hb] using this
theorem JB {bB:Array Bool}(he:vg ops=true)(hs:bB.size=ops.size)(h:Region.ready .any ops bB=[]): ∀k,k<ops.size→bB.getD k false=true:=by
 intro k;induction k using Nat.strongRecOn with
 |_ k ih=>
  intro hk;cases hl:bB.getD k false with
  |true=>rfl
  |false=>
   exfalso
   have hm:k∈Region.ready .any ops bB:=by
    unfold Region.ready;rw[List.mem_filter];refine⟨List.mem_range.2 hk,?_⟩;simp only[Bool.and_eq_true,Bool.not_eq_true'];constructor
    ·rw[Array.getD_eq_getD_getElem?,Array.getElem?_eq_getElem (by omega)] at hl ⊢
     exact hl
    ·rw[Array.getElem?_eq_getElem hk];simp only[Option.map_some,Option.getD_some];rw[Array.all_eq_true_iff_forall_mem];intro e hem;have h1:=List.all_eq_true.1 he k (List.mem_range.2 hk);rw[Array.getElem?_eq_getElem hk] at h1;have h2:=Array.all_eq_true_iff_forall_mem.1 h1 e hem;cases hb:Region.binds .any e with
     |false=>rfl
     |true=>
      have h3:e.on<k:=by simpa[hb] using h2
      rw[ih e.on h3 (by omega)];rfl
   rw[h] at hm;cases hm
theorem FO {ro:Option Nat}{n:Nat}{N:Nat}{Q:Exit→Act→World→Prop}{a0:Act}{w0:World}{μ0:Mu}(hC:zS P B C)(hp:rD P C F base ops S val)(hd: ∀o∈ops.toList,∀d,o.dst=some d→d<N)(hQ: ∀a w μ,μ0.le μ→gV μ (S ops.size).1.get a.tmps→a.defers=a0.defers→a.tmps.size=a0.tmps.size→cO P μ (S ops.size).2 w B→eV B w0 w→Q .normal a w):
  ∀(fuel:Nat) (bB:Array Bool) (a:Act) (w:World) (μ:Mu),oG (λk=>bB.getD k false) ops.size≤fuel→Inv P F base ops S val N B a0 w0 μ0 bB a w μ→wpAnyIn (FR ro) n P .any ops Q fuel bB a w:=by
 have fin: ∀(bB:Array Bool) (a:Act) (w:World) (μ:Mu),(∀k,k<ops.size→bB.getD k false=true)→Inv P F base ops S val N B a0 w0 μ0 bB a w μ→Q .normal a w:=by
  intro bB a w μ jt h;refine hQ a w μ h.le ?_ h.defers h.T4 ?_ h.below
  ·intro t;have:=h.env t
   rw[He (P:=P) (C:=C) (F:=F) (base:=base) hp.st (Nat.le_refl _) (λk hk _=>jt k hk)] at this
   exact this
  ·have:=h.sim
   rw[Vz (λk hk=>hp.same k hk) (λk _ hF _=>by obtain⟨_,_,_,_,_,_,e⟩:=hp.FL k hF;exact e) (λk hk _=>jt k hk)] at this
   exact this
 intro fuel;induction fuel with
 |zero=>
  intro bB a w μ hc h;have jt:=Nm (Nat.le_zero.1 hc);refine⟨?_,fin bB a w μ jt h⟩;cases hr:Region.ready .any ops bB with
  |nil=>rfl
  |cons i r=>
   exfalso
   obtain⟨o,ho,hl,_⟩:=AK (ops:=ops) (i:=i) (by rw[hr];simp) h.size
   rw[jt i (Array.getElem?_eq_some_iff.1 ho).1] at hl;cases hl
 |succ fuel ih=>
  intro bB a w μ hc h;refine⟨λhr=>fin bB a w μ (JB hp.Nn h.size hr) h,?_⟩
  intro i hi;obtain⟨o,ho,hl,aca⟩:=AK hi h.size;have pY:i<ops.size:=(Array.getElem?_eq_some_iff.1 ho).1;have acb:i<bB.size:=by rw[h.size];exact pY
  have uS: ∀k,(bB.setIfInBounds i true).getD k false=if k=i then true else bB.getD k false:=by
   intro k;rw[Array.getD_eq_getD_getElem?,Array.getElem?_setIfInBounds];by_cases e:i=k
   ·subst e;simp[acb]
   ·rw[if_neg e,if_neg (Ne.symm e),Array.getD_eq_getD_getElem?]
  have T5: ∀(j:Nat) (o':Oper),ops[j]? =some o'→(bB.setIfInBounds i true).getD j false=true→∀e∈o'.after,Region.binds .any e=true→(bB.setIfInBounds i true).getD e.on false=true:=by
   intro j o' MG hj e he hb;rw[uS] at hj ⊢;by_cases e1:e.on=i
   ·rw[if_pos e1]
   ·rw[if_neg e1];by_cases e2:j=i
    ·subst e2;rw[ho] at MG;cases MG;exact aca e he hb
    ·rw[if_neg e2] at hj;exact h.shut j o' MG hj e he hb
  have DQ: ∀k,k<i→bB.getD k false=false→vf (Region.before ops) k i=false:=by
   intro k hk hlk;cases hb:vf (Region.before ops) k i with
   |false=>rfl
   |true=>
    have:=wQ (L:=λk=>(bB.setIfInBounds i true).getD k false) T5 i (by show(bB.setIfInBounds i true).getD i false=true;rw[uS,if_pos rfl]) k hb
    simp only[uS,if_neg (show k≠i by omega),hlk] at this
    cases this
  have Hg: ∀k,bB.getD k false=true→vf (Region.before ops) i k=false:=by
   intro k hk;cases hb:vf (Region.before ops) i k with
   |false=>rfl
   |true=>
    have:=wQ (L:=λk=>bB.getD k false) h.shut k hk i hb
    simp only[hl] at this;cases this
  obtain⟨c1,c2,c3,c4⟩:=hp.comes (L:=λk=>bB.getD k false) (L':=λk=>(bB.setIfInBounds i true).getD k false) ho hl (by simp[uS]) (λk hk=>by simp[uS,hk]) DQ Hg
  have VF: ∀t,o.dst=some t→t<a.tmps.size:=λt ht=>Nat.lt_of_lt_of_le (hd o (by simpa using Array.mem_of_getElem? ho) t ht) h.tmps
  have Vv:jv ops i=o.dst:=by simp[jv,ho]
  have acd:oG (λk=>(bB.setIfInBounds i true).getD k false) ops.size≤fuel:=by
   have:=VB (L:=λk=>bB.getD k false) (L':=λk=>(bB.setIfInBounds i true).getD k false) pY hl (by simp[uS]) (λk hk=>by simp[uS,hk])
   omega
  have hfe: ∀t,mj ops S val (λk=>(bB.setIfInBounds i true).getD k false) ops.size t=if o.dst=some t then val i else mj ops S val (λk=>bB.getD k false) ops.size t:=by
   intro t;rw[QN (L:=λk=>bB.getD k false) (L':=λk=>(bB.setIfInBounds i true).getD k false) pY (by simp[uS]) (λk hk=>by simp[uS,hk]) (λe k h1 h2 h3=>c2 t (by rw[←Vv];exact e) k h1 h2 h3),Vv]
  have kq:=hp.st i o ho;have haw:qz ops o (mj ops S val (λk=>bB.getD k false) ops.size)=dC ops o (S i).1:=by
   rw[←qA];exact BS c1
  have next: ∀(v':Value) (μ':Mu) (w':World),μ.le μ'→VR μ' (val i) v'→cO P μ' (nJ P F base ops S (λk=>(bB.setIfInBounds i true).getD k false) ops.size) w' B→eV B w w'→
    wpAnyIn (FR ro) n P .any ops Q fuel (bB.setIfInBounds i true) (a.put o.dst v') w':=by
   intro v' μ' w' hle hv sW hB;refine ih _ _ _ μ' acd ⟨by simp[h.size],T5,?_,sW,by rw[mG];exact h.tmps,by rw[mG];exact h.T4,by rw[put_defers];exact h.defers,h.below.trans hB,Mu.le_trans h.le hle⟩
   have:=gV.put (h.env.mono hle) hv o.dst VF
   intro t;rw[hfe];exact this t
  unfold wpOpIn;rw[ho];simp only;rcases kq.2 with⟨hw,_⟩|⟨hw,oH,_⟩
  ·rw[lP h.env (by rw[haw];exact hw),if_pos rfl]
   have hx:=c3 hw;rw[←zU c1] at hx;refine zV hC h.sim h.env (λhc=>?_) hx ?_
   ·obtain⟨o',MG,hf⟩:=hp.lay i hc;rw[ho] at MG;cases MG;exact hf
   ·intro v' μ' w' hle hv sW hB;exact next v' μ' w' hle hv sW hB
  ·rw[lP h.env (by rw[haw];exact hw)]
   simp only[Bool.false_eq_true,if_false];have Qr:fq P ops S i=false:=by simp[fq,ho,hw]
   refine⟨λ_ _=>trivial,?_⟩
   refine next undef μ w μ.le_refl (by rw[oH];exact cW.tuple (c:=#[]) (c':=#[]) .nil) ?_ (eV.refl _ _)
   rw[c4 Qr];exact h.sim
theorem DU {ro:Option Nat}{n:Nat}{N id:Nat}{E E':Env}{Q:Exit→Act→World→Prop}{a:Act}(hC:zS P B C)(hm:P.follows .mixedOrders=true)(dG:oq P N ops true=true)(dH:fe P C ops true E H=some (E',H'))(hN:N≤a.tmps.size)(hS:cO P μ H w B)(hE:gV μ E.get a.tmps)(hQ: ∀a' w' μ',μ.le μ'→gV μ' E'.get a'.tmps→a'.defers=a.defers→a'.tmps.size=a.tmps.size→cO P μ' H' w' B→eV B w w'→Q .normal a' w'):(Code.region id ops true).wpIn (FR ro) n P Q a w:=by
 simp only[oq,Bool.and_eq_true,Bool.not_true,Bool.false_or,List.all_eq_true] at dG;obtain⟨VF,Z7⟩:=dG;obtain⟨F,base,S,val,hp,h0,hn⟩:=rD.of (P:=P) (C:=C) hC.hole Z7 dH;refine wpIn_region_any hm ?_;have Nq: ∀k,(Array.replicate ops.size false).getD k false=false:=by
  intro k;rw[Array.getD_eq_getD_getElem?,Array.getElem?_replicate];split<;>rfl
 have VG:eV B w {w with drawn:=w.drawn+1}:=(eV.refl B w).drew
 refine FO (a0:=a) (w0:=w) (μ0:=μ) hC hp (N:=N) ?_ ?_ ops.size _ a _ μ ?_ ⟨by simp,?_,?_,?_,hN,rfl,rfl,VG,μ.le_refl⟩
 ·intro o ho d hd;have:=VF o ho
  rw[hd] at this;simpa using this
 ·intro a' w' μ' h1 h2 h3 h4 h5 h6;rw[hn] at h2 h5;exact hQ a' w' μ' h1 h2 h3 h4 h5 h6
 ·have: ∀m,oG (λk=>(Array.replicate ops.size false).getD k false) m≤m:=by
   intro m;induction m with
   |zero=>exact Nat.le_refl _
   |succ m ih=>rw[oG];split<;>omega
  exact this _
 ·intro j o _ hj;rw[Nq] at hj;cases hj
 ·intro t;rw[DP (i:=0) (by omega) (λk _ _ _=>Nq k)]
  show VR μ ((S 0).1.get t) _
  rw[h0];exact hE t
 ·have e: ∀n,nJ P F base ops S (λk=>(Array.replicate ops.size false).getD k false) n=(S 0).2:=by
   intro n;induction n with
   |zero=>rfl
   |succ n ih=>rw[nJ,if_neg (by rw[Nq];simp),ih]
  rw[e,h0];exact(hS.cE _).heap rfl
end Go.Proofs.YtgfgglponbmgmaaGreatA.Am
end
