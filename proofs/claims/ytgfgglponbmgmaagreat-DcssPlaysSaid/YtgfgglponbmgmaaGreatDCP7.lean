/- Texts of the proof of dcssPlays_holds, put together by a small program of ours (names shortened, spaces taken out). No condition beyond the given statement. -/
import Derived.Test.YtgfgglponbmgmaaGreatDCP6
set_option linter.unusedVariables false
set_option linter.unusedSimpArgs false
set_option linter.unnecessarySimpa false
noncomputable section
section
namespace Go.Proofs.YtgfgglponbmgmaaGreatA.Am
open Go.RowKit (Below)
variable {P:Program} {μ:Mu} {H H':aa} {w:World} {B:Nat}
section
variable (P:Program) (F:List Nat) (base:Nat) (ops:Array Oper) (S:Nat→Env×aa) (val:Nat→Value) (L:Nat→Bool)
def jA (k:Nat):Option Nat:=(ops[k]?).bind (·.dst)
def mr:Nat→Nat→Value
 |0,t=>(S 0).1.get t
 |k+1,t=>if L k=true∧jA ops k=some t then val k else mr k t
def fv (k:Nat):Bool:=match ops[k]? with
 |some o=>decide (cls P o.op= .zL)&&(dE ops o (S k).1==some true)
 |none=>false
def bOf (k:Nat):eS:=match (S (k+1)).2.get (base+F.idxOf k) with|some b=>b|none=>default
def rC (k:Nat)(X:aa):aa:=X.lay (base+F.idxOf k) (bOf F base S k)
def nJ:Nat→aa
 |0=>(S 0).2
 |k+1=>if L k=true∧fv P ops S k=true then(if F.contains k then rC F base S k (nJ k) else(S (k+1)).2) else nJ k
def bP (X:aa)(m:Nat):Nat→aa
 |0=>X
 |d+1=>if L (m+d)=true∧F.contains (m+d)=true then rC F base S (m+d) (bP X m d) else bP X m d
def oE:Nat→Nat
 |0=>0
 |k+1=>oE k+if L k then 0 else 1
end
variable {F:List Nat} {base:Nat} {ops:Array Oper} {S:Nat→Env×aa} {val:Nat→Value} {L L':Nat→Bool} {C:ae}
theorem HM {i t:Nat}(kx: ∀k o,ops[k]? =some o→wX P C F base ops k o (S k) (S (k+1)) (val k))(hn:i≤ops.size)(h: ∀k,k<i→jA ops k=some t→L k=true):
  mr ops S val L i t=(S i).1.get t:=by
 induction i with
 |zero=>rfl
 |succ k ih=>
  have hk:k<ops.size:=by omega
  have ho:ops[k]? =some ops[k]:=Array.getElem?_eq_getElem hk;have h1:=(kx k _ ho).1;rw[h1,Env.aH,mr];have hd:jA ops k=ops[k].dst:=by simp[jA,ho]
  by_cases e:jA ops k=some t
  ·rw[if_pos ⟨h k (by omega) e,e⟩,if_pos (by rw[←hd];exact e)]
  ·rw[if_neg (λx=>e x.2),if_neg (by rw[←hd];exact e)]
   exact ih (by omega) (λj hj=>h j (by omega))
theorem D4 {i n t:Nat}(pU:i≤n)(h: ∀k,i≤k→k<n→jA ops k=some t→L k=false):mr ops S val L n t=mr ops S val L i t:=by
 induction n with
 |zero=>
  have:i=0:=by omega
  subst this;rfl
 |succ k ih=>
  by_cases e:i=k+1
  ·subst e;rfl
  ·rw[mr,if_neg]
   ·exact ih (by omega) (λj h1 h2=>h j h1 (by omega))
   ·rintro⟨h1,h2⟩;rw[h k (by omega) (by omega) h2] at h1;cases h1
theorem Rx {i n t:Nat}(pU:i<n)(hi:L' i=true)(dx: ∀k,k≠i→L' k=L k)(h:jA ops i=some t→∀k,i<k→k<n→jA ops k=some t→L k=false):
  mr ops S val L' n t=if jA ops i=some t then val i else mr ops S val L n t:=by
 induction n with
 |zero=>omega
 |succ k ih=>
  by_cases e:i=k
  ·subst e;rw[mr,mr];have D5: ∀m,m≤i→mr ops S val L' m t=mr ops S val L m t:=by
    intro m hm;induction m with
    |zero=>rfl
    |succ j ihj=>rw[mr,mr,dx j (by omega),ihj (by omega)]
   by_cases hd:jA ops i=some t
   ·rw[if_pos ⟨hi,hd⟩,if_pos hd]
   ·rw[if_neg (λx=>hd x.2),if_neg hd,if_neg (λx=>hd x.2)];exact D5 i (Nat.le_refl _)
  ·rw[mr,mr,dx k (by omega),ih (by omega) (λa b c d=>h a b c (by omega))]
   by_cases hd:jA ops i=some t
   ·rw[if_pos hd];by_cases hk:L k=true∧jA ops k=some t
    ·rw[h hd k (by omega) (by omega) hk.2] at hk;cases hk.1
    ·rw[if_neg hk,if_pos hd]
   ·rw[if_neg hd,if_neg hd]
theorem Ke {k:Nat}{o:Oper}(kx:wX P C F base ops k o (S k) (S (k+1)) (val k))(ho:ops[k]? =some o)(hb:cls P o.op≠ .bad)(hF:F.contains k=true→cls P o.op= .zL)(h:fv P ops S k=false):(S (k+1)).2=(S k).2:=by
 rcases kx.2 with⟨hw,hx⟩|⟨hw,_,hx⟩
 ·have hc:cls P o.op≠ .zL:=by
   intro e;simp[fv,ho,e,hw] at h
  have hnF: ¬F.contains k=true:=λe=>hc (hF e)
  unfold dA at hx;rw[if_neg hnF, ←qz] at hx;unfold jO at hx;split at hx
  ·rename_i e;rw[e] at hc;exact absurd rfl hc
  ·exact AN hc hb hx
 ·exact hx
theorem F7 {j k:Nat}(hj:F.contains j=true)(AD:j≠k):base+F.idxOf j≠base+F.idxOf k:=by
 intro e;have e':F.idxOf j=F.idxOf k:=by omega
 have zM:j∈F:=by simpa using hj
 have gF:=List.idxOf_lt_length_of_mem zM;have h1:=List.getElem_idxOf gF;have acz:F.idxOf k<F.length:=by omega
 have h2:=List.getElem_idxOf acz;apply AD;rw[←h1, ←h2];simp only[e']
theorem Wu {i:Nat}(nK: ∀k,k<i→fv P ops S k=false→(S (k+1)).2=(S k).2)(HN: ∀k,k<i→F.contains k=true→fv P ops S k=true→(S (k+1)).2=rC F base S k (S k).2)(h: ∀k,k<i→fv P ops S k=true→L k=true):nJ P F base ops S L i=(S i).2:=by
 induction i with
 |zero=>rfl
 |succ k ih=>
  have ihk:=ih (λj hj=>nK j (by omega)) (λj hj=>HN j (by omega)) (λj hj=>h j (by omega))
  rw[nJ];by_cases e:fv P ops S k=true
  ·rw[if_pos ⟨h k (by omega) e,e⟩]
   by_cases hF:F.contains k=true
   ·rw[if_pos hF,ihk];exact(HN k (by omega) hF e).symm
   ·rw[if_neg hF]
  ·rw[if_neg (λx=>e x.2),ihk,nK k (by omega) (by simpa using e)]
theorem D6 {n:Nat}(h: ∀k,k<n→fv P ops S k=true→L' k=L k):nJ P F base ops S L' n=nJ P F base ops S L n:=by
 induction n with
 |zero=>rfl
 |succ k ih=>
  rw[nJ,nJ,ih (λj hj=>h j (by omega))]
  by_cases e:fv P ops S k=true
  ·rw[h k (by omega) e]
  ·rw[if_neg (λx=>e x.2),if_neg (λx=>e x.2)]
theorem D7 {m:Nat}(hF: ∀k,F.contains k=true→fv P ops S k=true): ∀d,(∀k,m≤k→k<m+d→L k=true→fv P ops S k=true→F.contains k=true)→
  nJ P F base ops S L (m+d)=bP F base S L (nJ P F base ops S L m) m d:=by
 intro d;induction d with
 |zero=>intro _;rfl
 |succ d ih=>
  intro h;have ihd:=ih (λk h1 h2=>h k h1 (by omega))
  rw[←Nat.add_assoc,nJ,bP,ihd];by_cases e:L (m+d)=true∧fv P ops S (m+d)=true
  ·have hf:=h (m+d) (by omega) (by omega) e.1 e.2
   rw[if_pos e,if_pos hf,if_pos ⟨e.1,hf⟩]
  ·rw[if_neg e,if_neg (λx=>e ⟨x.1,hF _ x.2⟩)]
theorem NW (hF: ∀k,F.contains k=true→fv P ops S k=true)(n:Nat):
  ∃m,m≤n∧nJ P F base ops S L n=bP F base S L (S m).2 m (n-m)∧(m=0∨∃p,m=p+1∧L p=true∧fv P ops S p=true∧F.contains p=false)∧
   (∀k,m≤k→k<n→L k=true→fv P ops S k=true→F.contains k=true):=by
 have key: ∃m,m≤n∧nJ P F base ops S L m=(S m).2∧(m=0∨∃p,m=p+1∧L p=true∧fv P ops S p=true∧F.contains p=false)∧
   (∀k,m≤k→k<n→L k=true→fv P ops S k=true→F.contains k=true):=by
  induction n with
  |zero=>exact⟨0,Nat.le_refl _,rfl,.inl rfl,λk _ hk=>by omega⟩
  |succ k ih=>
   by_cases e:L k=true∧fv P ops S k=true∧F.contains k=false
   ·refine⟨k+1,Nat.le_refl _,?_,.inr ⟨k,rfl,e.1,e.2.1,e.2.2⟩,λj h1 h2=>by omega⟩
    rw[nJ,if_pos ⟨e.1,e.2.1⟩,if_neg (by rw[e.2.2];simp)]
   ·obtain⟨m,h1,h2,h3,h4⟩:=ih;refine⟨m,by omega,h2,h3,λj a1 a2 a3 a4=>?_⟩
    by_cases ej:j=k
    ·subst ej;cases hf:F.contains j with
     |true=>rfl
     |false=>exact absurd ⟨a3,a4,hf⟩ e
    ·exact h4 j a1 (by omega) a3 a4
 obtain⟨m,h1,h2,h3,h4⟩:=key;refine⟨m,h1,?_,h3,h4⟩;have:=D7 (base:=base) (L:=L) hF (m:=m) (n-m) (λk a b=>h4 k a (by omega))
 rw[show m+(n-m)=n by omega] at this
 rw[this,h2]
theorem AP {j k:Nat}(hj:F.contains j=true)(AD:j≠k)(X:aa):rC F base S j (rC F base S k X)=rC F base S k (rC F base S j X):=by
 unfold rC;exact ry (F7 hj AD) _
theorem rD (X:aa)(m:Nat): ∀d,bP F base S L X m (d+1)=bP F base S L (if L m=true∧F.contains m=true then rC F base S m X else X) (m+1) d:=by
 intro d;induction d with
 |zero=>simp only[bP,Nat.add_zero]
 |succ d ih=>
  rw[bP,ih]
  conv=>rhs;rw[bP]
  rw[show m+1+d=m+(d+1) by omega]
theorem rE {X:aa}{m:Nat}: ∀d,(∀k,m≤k→k<m+d→L' k=L k)→bP F base S L' X m d=bP F base S L X m d:=by
 intro d;induction d with
 |zero=>intro _;rfl
 |succ d ih=>
  intro h;rw[bP,bP,ih (λk h1 h2=>h k h1 (by omega)),h (m+d) (by omega) (by omega)]
theorem Wv {X:aa}{m i:Nat}(hi:F.contains i=true)(h0:L i=false)(h1:L' i=true)(dx: ∀k,k≠i→L' k=L k): ∀d,m≤i→i<m+d→bP F base S L' X m d=rC F base S i (bP F base S L X m d):=by
 intro d;induction d with
 |zero=>intro h2 h3;omega
 |succ d ih=>
  intro h2 h3;rw[bP,bP];by_cases e:i=m+d
  ·subst e;rw[if_pos ⟨h1,hi⟩,if_neg (by rw[h0];simp),rE d (λk a b=>dx k (by omega))]
  ·rw[dx (m+d) (Ne.symm e),ih h2 (by omega)]
   by_cases c:L (m+d)=true∧F.contains (m+d)=true
   ·rw[if_pos c,if_pos c,AP c.2 (Ne.symm e)]
   ·rw[if_neg c,if_neg c]
theorem nd {X:aa}{m j:Nat}(_hj:F.contains j=true)(hf:ca X (base+F.idxOf j)): ∀d,(∀k,m≤k→k<m+d→L k=true→k≠j)→ca (bP F base S L X m d) (base+F.idxOf j):=by
 intro d;induction d with
 |zero=>intro _;exact hf
 |succ d ih=>
  intro h;rw[bP];have:=ih (λk h1 h2=>h k h1 (by omega))
  by_cases c:L (m+d)=true∧F.contains (m+d)=true
  ·rw[if_pos c];exact this.set (F7 c.2 (h _ (by omega) (by omega) c.1)) _
  ·rw[if_neg c];exact this
theorem BY {f:aa→Option (Value×aa)}{X X':aa}{v:Value}{m:Nat}(hup: ∀k,F.contains k=true→m≤k→∀Y b,Up (base+F.idxOf k) b Y (f Y) (f (Y.lay (base+F.idxOf k) b)))(h:f X=some (v,X')):
  ∀d,(∀k,m≤k→F.contains k=true→ca X (base+F.idxOf k))→f (bP F base S L X m d)=some (v,bP F base S L X' m d):=by
 intro d;induction d with
 |zero=>intro _;exact h
 |succ d ih=>
  intro hf;have:=ih hf
  rw[bP,bP];by_cases c:L (m+d)=true∧F.contains (m+d)=true
  ·rw[if_pos c,if_pos c];have kW:ca (bP F base S L X m d) (base+F.idxOf (m+d)):=nd c.2 (hf _ (by omega) c.2) d (λk h1 h2 _=>by omega)
   exact(hup _ c.2 (by omega) _ _ kW _ _ this).2
  ·rw[if_neg c,if_neg c];exact this
theorem Ww {i n:Nat}(pU:i<n)(h0:L i=false)(h1:L' i=true)(dx: ∀k,k≠i→L' k=L k):oE L' n+1=oE L n:=by
 induction n with
 |zero=>omega
 |succ k ih=>
  have D5: ∀m,m≤i→oE L' m=oE L m:=by
   intro m hm;induction m with
   |zero=>rfl
   |succ j ihj=>rw[oE,oE,dx j (by omega),ihj (by omega)]
  by_cases e:i=k
  ·subst e;rw[oE,oE,h0,h1,D5 i (Nat.le_refl _)];simp
  ·rw[oE,oE,dx k (by omega)];have:=ih (by omega);omega
theorem NX {n:Nat}(h:oE L n=0): ∀k,k<n→L k=true:=by
 induction n with
 |zero=>intro k hk;omega
 |succ m ih=>
  rw[oE] at h;intro k hk;by_cases e:k=m
  ·subst e;cases hl:L k with
   |true=>rfl
   |false=>rw[hl] at h;simp at h
  ·exact ih (by omega) k (by omega)
theorem wZ {a b:Value}(h:zS a b=true):a=b:=by
 unfold zS at h;split at h
 ·simpa using h
 ·simp only[Bool.and_eq_true,decide_eq_true_eq,beq_iff_eq] at h;rw[h.1,h.2]
 ·simpa using h
 ·simpa using h
 ·simp only[Bool.and_eq_true,decide_eq_true_eq,beq_iff_eq] at h;rw[h.1.1,h.1.2,h.2]
 ·simpa using h
 ·rfl
 ·rfl
 ·cases h
theorem rF: ∀{a b:List Value},sX zS a b=true→a=b
 | [],[],_=>rfl
 |a::x,b::y,h=>by
  simp only[sX,Bool.and_eq_true] at h;rw[wZ h.1,rF h.2]
 | [],_::_,h=>by simp[sX] at h
 |_::_,[],h=>by simp[sX] at h
theorem AQ {a b:Value}(h:oj a b=true):a=b:=by
 unfold oj at h;split at h
 ·have:=rF h
  rw[Array.toList_inj] at this;rw[this]
 ·exact wZ h
theorem Kf {r e:Nat}{x y:Oper}(hx:ops[r]? =some x)(hy:ops[e]? =some y)(h1:cls P x.op= .read)(h2:cls P y.op= .zL)(h3:vm (Region.before ops) r e=false)(h4:vm (Region.before ops) e r=false):(r,e)∈mE P ops:=by
 unfold mE;rw[List.mem_flatMap];refine⟨r,List.mem_range.2 (Array.getElem?_eq_some_iff.1 hx).1,?_⟩;rw[List.mem_filterMap];refine⟨e,List.mem_range.2 (Array.getElem?_eq_some_iff.1 hy).1,?_⟩;simp[hx,hy,h1,h2,h3,h4]
structure rG (P:Program) (C:ae) (F:List Nat) (base:Nat) (ops:Array Oper) (S:Nat→Env×aa) (val:Nat→Value):Prop where
 st: ∀(k:Nat) (o:Oper),ops[k]? =some o→wX P C F base ops k o (S k) (S (k+1)) (val k)
 NY:vn ops=true
 aam: ∀(k:Nat) (o:Oper),ops[k]? =some o→cls P o.op≠ .bad
 pair: ∀(i j:Nat),i<j→j<ops.size→BC P F (Region.before ops) ops i j=true
 acA: ∀(r e:Nat) (x y:Oper),ops[r]? =some x→ops[e]? =some y→cls P x.op= .read→cls P y.op= .zL→vm (Region.before ops) r e=false→vm (Region.before ops) e r=false→
  dE ops x (S r).1=some true→fv P ops S e=true→(gV P (eF (S r).1) (S r).2 x.op).map Prod.fst=(gV P (eF (S r).1) (S e).2 x.op).map Prod.fst∧
   (gV P (eF (S r).1) (S r).2 x.op).map Prod.fst=(gV P (eF (S r).1) (S (e+1)).2 x.op).map Prod.fst
 lay: ∀k,F.contains k=true→∃o,ops[k]? =some o∧sW o=true
 free: ∀k,F.contains k=true→ca (S 0).2 (base+F.idxOf k)
 hole:gJ C
theorem qA {o:Oper}(h:sW o=true):cls P o.op= .zL∧o.guard=none:=by
 unfold sW at h;simp only[Bool.and_eq_true,Option.isNone_iff_eq_none] at h;obtain⟨h1,h2⟩:=h;refine⟨?_,h1⟩;split at h2
 ·rename_i e;rw[e];rfl
 ·rename_i e;rw[e];rfl
 ·rename_i e;rw[e];rfl
 ·cases h2
theorem F9 (H:aa){n k:Nat}(h:k<n):ca (H.cE n) (H.length+k):=by
 unfold ca aa.cE;rw[List.getElem?_append_right (by omega),List.getElem?_replicate]
 rw[if_pos (by omega)]
theorem rG.of {E E':Env}(hH:gJ C)(dH:FD P ops=true)(dI:fg P C ops true E H=some (E',H')):
  ∃F base S val,rG P C F base ops S val∧S 0=(E,H.cE F.length)∧S ops.size=(E',H'):=by
 unfold fg at dI;simp only[if_true] at dI;have aan:da P C (lM P ops) H.length ops ops.toList 0 E (H.cE (lM P ops).length)=some (E',H')∧(mE P ops).all (iN P ops (eB P C (lM P ops) H.length ops ops.toList 0 E (H.cE (lM P ops).length)))=true:=by
  cases hF:lM P ops with
  |nil=>
   rw[hF] at dI;simp only at dI;have e0:H.cE ([]:List Nat).length=H:=by simp[aa.cE]
   rw[e0,(iV ops.toList 0 E H).1,(iV ops.toList 0 E H).2];split at dI
   ·rename_i hc;exact⟨dI,by rw[hc];rfl⟩
   ·rename_i cs hc;split at dI
    ·rename_i jz;exact⟨dI,jz⟩
    ·cases dI
  |cons f F=>
   rw[hF] at dI;simp only at dI;split at dI
   ·rename_i hc;exact⟨dI,by rw[hc];rfl⟩
   ·rename_i cs hc;split at dI
    ·rename_i jz;exact⟨dI,jz⟩
    ·cases dI
 obtain⟨hr,aao⟩:=aan;obtain⟨S,val,h0,hl,kx,htr⟩:=F6 ops.toList 0 E _ _ hr;simp only[FD,Bool.and_eq_true,List.all_eq_true,List.mem_range,decide_eq_true_eq] at dH;obtain⟨⟨aap,NZ⟩,aaq⟩:=dH;refine⟨lM P ops,H.length,S,val,⟨λk o ho=>by have:=kx k o (by simpa using ho);rwa [Nat.zero_add] at this,aap,?_,λi j Nj hj=>aaq j hj i Nj,?_,?_,?_,hH⟩,h0,by simpa using hl⟩
 ·intro k o ho;exact NZ o (by simpa using Array.mem_of_getElem? ho)
 ·intro r e x y hx hy aar rH h1 h2 hw Q9;have hm:=Kf (ops:=ops) hx hy aar rH h1 h2;have hc:=List.all_eq_true.1 aao _ hm;have hrs:r<ops.size:=(Array.getElem?_eq_some_iff.1 hx).1;have hes:e<ops.size:=(Array.getElem?_eq_some_iff.1 hy).1;have t1:=htr r (by simp;omega)
  have t2:=htr e (by simp;omega)
  have t3:=htr (e+1) (by simp;omega)
  unfold iN at hc;simp only[t1,t2,t3,hx,hy] at hc;have hwe:dE ops y (S e).1=some true:=by simpa[fv,hy,rH] using Q9
  simp only[hw,hwe] at hc;split at hc
  ·rename_i u _ u1 _ u2 _ e1 e2 e3;simp only[Bool.and_eq_true] at hc;rw[e1,e2,e3];simp only[Option.map_some];rw[←AQ hc.1, ←AQ hc.2];exact⟨rfl,rfl⟩
  ·cases hc
 ·intro k hk;have hk':k∈lM P ops:=by simpa using hk
  unfold lM at hk';simp only[List.mem_filter,List.mem_range] at hk';obtain⟨_,h2⟩:=hk';split at h2
  ·rename_i y hy;simp only[Bool.and_eq_true] at h2;exact⟨y,hy,h2.1⟩
  ·cases h2
 ·intro k hk;rw[h0];exact F9 H (List.idxOf_lt_length_of_mem (by simpa using hk))
theorem rG.Ry (h:rG P C F base ops S val): ∀k,F.contains k=true→fv P ops S k=true:=by
 intro k hk;obtain⟨o,ho,hf⟩:=h.lay k hk;obtain⟨h1,h2⟩:=qA (P:=P) hf;simp[fv,ho,h1,dE,h2]
theorem rG.same (h:rG P C F base ops S val): ∀k,k<ops.size→fv P ops S k=false→(S (k+1)).2=(S k).2:=by
 intro k hk he;have ho:ops[k]? =some ops[k]:=Array.getElem?_eq_getElem hk;refine Ke (h.st k _ ho) ho (h.aam k _ ho) (λhF=>?_) he
 obtain⟨o,Nl,hf⟩:=h.lay k hF;rw[ho] at Nl;cases Nl;exact(qA hf).1
theorem rG.Gb (h:rG P C F base ops S val)(k:Nat)(hk:F.contains k=true): ∃o mk,ops[k]? =some o∧ca (S k).2 (base+F.idxOf k)∧AA P (eF (S k).1) o.op=some (mk,bOf F base S k)∧val k=mk (base+F.idxOf k)∧(S (k+1)).2=rC F base S k (S k).2:=by
 obtain⟨o,ho,hf⟩:=h.lay k hk;obtain⟨_,hg⟩:=qA (P:=P) hf;rcases(h.st k o ho).2 with⟨hw,hx⟩|⟨hw,_⟩
 ·unfold dA at hx;rw[if_pos hk] at hx;unfold pN at hx;split at hx
  case h_2=>cases hx
  rename_i kW;split at hx
  case h_2=>cases hx
  rename_i mk b hb;have DR:=Option.some.inj hx;have e1:mk (base+F.idxOf k)=val k:=congrArg Prod.fst DR;have e2:(S k).2.set (base+F.idxOf k) (.zK b)=(S (k+1)).2:=congrArg Prod.snd DR;have aas:ca (S k).2 (base+F.idxOf k):=kW;have eb:bOf F base S k=b:=by
   unfold bOf;rw[←e2];have:aa.get (List.set (S k).2 (base+F.idxOf k) (.zK b)) (base+F.idxOf k)=some b:=nc aas.lt;rw[this]
  refine⟨o,mk,ho,aas,by rw[eb];exact hb,e1.symm,?_⟩
  rw[←e2];unfold rC;rw[eb];rfl
 ·simp[dE,hg] at hw
theorem rG.Gc (h:rG P C F base ops S val){k:Nat}(hk:F.contains k=true): ∀m,m≤k→ca (S m).2 (base+F.idxOf k):=by
 intro m;induction m with
 |zero=>intro _;exact h.free k hk
 |succ m ih=>
  intro hm;have hfm:=ih (by omega)
  obtain⟨ok,dH,_⟩:=h.lay k hk;have hkl:k<ops.size:=(Array.getElem?_eq_some_iff.1 dH).1;have ho:ops[m]? =some ops[m]:=Array.getElem?_eq_getElem (by omega)
  rcases(h.st m _ ho).2 with⟨hw,hx⟩|⟨_,_,hx⟩
  ·rw[←uy] at hx;exact(uz (b:=default) h.hole (λhc=>F7 hc (by omega)) hfm _ _ hx).1
  ·rw[hx];exact hfm
theorem rG.comes (h:rG P C F base ops S val){i:Nat}{o:Oper}(ho:ops[i]? =some o)(hi:L i=false)(hLi:L' i=true)(N0: ∀k,k≠i→L' k=L k)(D5: ∀k,k<i→L k=false→vm (Region.before ops) k i=false)(HO: ∀k,L k=true→vm (Region.before ops) i k=false):
  (∀t∈o.looksAt ops,mr ops S val L ops.size t=(S i).1.get t)∧(∀t,o.dst=some t→∀k,i<k→k<ops.size→jA ops k=some t→L k=false)∧
  (dE ops o (S i).1=some true→gh P C F base i (S i).1.get (nJ P F base ops S L ops.size) o=some (val i,nJ P F base ops S L' ops.size))∧
  (fv P ops S i=false→nJ P F base ops S L' ops.size=nJ P F base ops S L ops.size):=by
 have pU:i<ops.size:=(Array.getElem?_eq_some_iff.1 ho).1;have low: ∀(k:Nat) (x:Oper),k<i→ops[k]? =some x→L k=false→x.apart ops o=true∧(cls P x.op= .zL→cls P o.op= .zL→F.contains i=true):=by
  intro k x hk hx hl;have hp:=h.pair k i hk pU;unfold BC at hp;rw[hx,ho] at hp;simp only[D5 k hk hl,Bool.false_or,Bool.and_eq_true] at hp;obtain⟨h1,h2⟩:=hp;refine⟨h1,λa b=>?_⟩
  rw[a,b] at h2;simpa using h2
 have high: ∀(k:Nat) (y:Oper),i<k→ops[k]? =some y→L k=true→o.apart ops y=true∧(cls P o.op= .zL→cls P y.op= .zL→F.contains k=true):=by
  intro k y hk hy hl;have Wx:k<ops.size:=(Array.getElem?_eq_some_iff.1 hy).1;have hp:=h.pair i k hk Wx;unfold BC at hp;rw[hy,ho] at hp;simp only[HO k hl,Bool.false_or,Bool.and_eq_true] at hp;obtain⟨h1,h2⟩:=hp;refine⟨h1,λa b=>?_⟩
  rw[a,b] at h2;simpa using h2
 have D8: ∀(k:Nat),fv P ops S k=true→∃x,ops[k]? =some x∧cls P x.op= .zL∧dE ops x (S k).1=some true:=by
  intro k hk;unfold fv at hk;split at hk
  ·rename_i x hx;simp only[Bool.and_eq_true,decide_eq_true_eq,beq_iff_eq] at hk;exact⟨x,hx,hk.1,hk.2⟩
  ·cases hk
 have quiet:fv P ops S i=false→nJ P F base ops S L' ops.size=nJ P F base ops S L ops.size:=λhe=>
  D6 λk _ hk=>N0 k (by rintro rfl;rw[he] at hk;cases hk)
 obtain⟨m,hmn,NK,Kg,US⟩:=NW (P:=P) (base:=base) (ops:=ops) (S:=S) (L:=L) h.Ry ops.size;have down: ∀a,m≤a→a<i→(fv P ops S a=false∨L a=true)→bP F base S L (S a).2 a (ops.size-a)=bP F base S L (S (a+1)).2 (a+1) (ops.size-(a+1)):=by
  intro a h1 h2 h3;rw[show ops.size-a=(ops.size-(a+1))+1 by omega,rD]
  by_cases he:fv P ops S a=true
  ·have hl:L a=true:=by
    rcases h3 with h3|h3
    ·rw[he] at h3;cases h3
    ·exact h3
   have hf:=US a h1 (by omega) hl he
   rw[if_pos ⟨hl,hf⟩];obtain⟨_,_,_,_,_,_,e⟩:=h.Gb a hf;rw[e]
  ·have he':fv P ops S a=false:=by simpa using he
   rw[if_neg (λx=>he (h.Ry a x.2)),h.same a (by omega) he']
 refine⟨?_,?_,?_,quiet⟩
 ·intro t ht;rw[D4 (i:=i) (by omega),HM (P:=P) (C:=C) (F:=F) (base:=base) h.st (by omega)]
  ·intro k hk hd;cases hl:L k with
   |true=>rfl
   |false=>
    have Wx:k<ops.size:=by omega
    have hx:ops[k]? =some ops[k]:=Array.getElem?_eq_getElem Wx;obtain⟨h1,_,_⟩:=Oper.apart_spec (low k _ hk hx hl).1;exact absurd ht (h1 t (by simpa[jA,hx] using hd))
  ·intro k hk Wx hd;by_cases e:k=i
   ·subst e;exact hi
   ·cases hl:L k with
    |false=>rfl
    |true=>
     have hy:ops[k]? =some ops[k]:=Array.getElem?_eq_getElem Wx;obtain⟨_,_,h3⟩:=Oper.apart_spec (high k _ (by omega) hy hl).1
     exact absurd ht (h3 t (by simpa[jA,hy] using hd))
 ·intro t ht k hk Wx hd;cases hl:L k with
  |false=>rfl
  |true=>
   have hy:ops[k]? =some ops[k]:=Array.getElem?_eq_getElem Wx;obtain⟨_,h2,_⟩:=Oper.apart_spec (high k _ hk hy hl).1;exact absurd (by simpa[jA,hy] using hd) (h2 t ht)
 ·intro hw;have kx:=h.st i o ho;have hx:dA P C F base i (S i).1 (S i).2 o=some (val i,(S (i+1)).2):=by
   rcases kx.2 with⟨_,hx⟩|⟨w5,_,_⟩
   ·exact hx
   ·rw[hw] at w5;cases w5
  have DR:=hx;rw[←uy] at DR;have acB:cls P o.op= .zL→m≤i:=by
   intro rH;rcases Kg with rfl|⟨p,rfl,FU,Gd,hp3⟩
   ·omega
   ·have dx:p≠i:=by rintro rfl;rw[hi] at FU;cases FU
    have hpn:p<ops.size:=by omega
    obtain⟨y,hy,hye,_⟩:=D8 p Gd;by_cases gF:i<p
    ·have:=(high p y gF hy FU).2 rH hye
     rw[hp3] at this;cases this
    ·omega
  by_cases rH:cls P o.op= .zL
  ·have Q9:fv P ops S i=true:=by simp[fv,ho,rH,hw]
   have hmi:=acB rH;by_cases hF:F.contains i=true
   ·
    obtain⟨o',mk,Nl,kW,hb,hv,_⟩:=h.Gb i hF;rw[ho] at Nl;cases Nl;have Wy:ca (nJ P F base ops S L ops.size) (base+F.idxOf i):=by
     rw[NK];exact nd hF (h.Gc hF m hmi) _ (λk _ _ hk e=>by subst e;rw[hi] at hk;cases hk)
    have Kh:nJ P F base ops S L' ops.size=rC F base S i (nJ P F base ops S L ops.size):=by
     have key: ∀n,i<n→nJ P F base ops S L' n=rC F base S i (nJ P F base ops S L n)∨∃p,i<p∧p<n∧L p=true∧fv P ops S p=true∧F.contains p=false:=by
      intro n;induction n with
      |zero=>intro h;omega
      |succ n ih=>
       intro hn;by_cases e:i=n
       ·subst e;left
        rw[nJ,nJ,if_pos ⟨hLi,Q9⟩,if_pos hF,if_neg (by rw[hi];simp),D6 (λk hk _=>N0 k (by omega))]
       ·rcases ih (by omega) with ih|⟨p,a1,a2,a3⟩
        ·rw[nJ,nJ,N0 n (Ne.symm e)];by_cases c:L n=true∧fv P ops S n=true
         ·rw[if_pos c,if_pos c];by_cases hFn:F.contains n=true
          ·left
           rw[if_pos hFn,if_pos hFn,ih,AP hFn (Ne.symm e)]
          ·right
           exact⟨n,by omega,by omega,c.1,c.2,by simpa using hFn⟩
         ·rw[if_neg c,if_neg c];exact .inl ih
        ·exact .inr ⟨p,a1,by omega,a3⟩
     rcases key ops.size pU with e|⟨p,a1,a2,a3,a4,a5⟩
     ·exact e
     ·obtain⟨y,hy,hye,_⟩:=D8 p a4;have:=(high p y a1 hy a3).2 rH hye
      rw[a5] at this;cases this
    unfold gh;rw[if_pos hF];unfold pN;have acC:(nJ P F base ops S L ops.size)[base+F.idxOf i]? =some .hole:=Wy;rw[acC];simp only[gg,hb,hv,Kh];rfl
   ·
    have hF':F.contains i=false:=by simpa using hF
    have Rz: ∀q,q<i→fv P ops S q=true→L q=true:=by
     intro q hq he;obtain⟨x,Ra,hx2,_⟩:=D8 q he;cases hl:L q with
     |true=>rfl
     |false=>exact absurd ((low q x hq Ra hl).2 hx2 rH) hF
    have hS: ∀d a,a+d=i→m≤a→bP F base S L (S a).2 a (ops.size-a)=bP F base S L (S i).2 i (ops.size-i):=by
     intro d;induction d with
     |zero=>
      intro a e _;have:a=i:=by omega
      subst this;rfl
     |succ d ih=>
      intro a e hma;rw[down a hma (by omega) (by
       cases he:fv P ops S a with
       |false=>exact .inl rfl
       |true=>exact .inr (Rz a (by omega) he))]
      exact ih (a+1) (by omega) (by omega)
    have hh:nJ P F base ops S L ops.size=bP F base S L (S i).2 (i+1) (ops.size-(i+1)):=by
     rw[NK,hS (i-m) m (by omega) (Nat.le_refl _),show ops.size-i=(ops.size-(i+1))+1 by omega,rD,if_neg (λx=>hF x.2)]
    have hh':nJ P F base ops S L' ops.size=bP F base S L (S (i+1)).2 (i+1) (ops.size-(i+1)):=by
     have hi1:nJ P F base ops S L' (i+1)=(S (i+1)).2:=by
      rw[nJ,if_pos ⟨hLi,Q9⟩,if_neg hF]
     have:=D7 (base:=base) (L:=L') h.Ry (m:=i+1) (ops.size-(i+1)) (λk a b c e=>by
      rw[N0 k (by omega)] at c
      obtain⟨y,hy,hye,_⟩:=D8 k e;exact(high k y (by omega) hy c).2 rH hye)
     rw[show i+1+(ops.size-(i+1))=ops.size by omega,hi1] at this
     rw[this];exact rE _ (λk a _=>N0 k (by omega))
    rw[hh,hh'];refine BY (f:=λX=>gh P C F base i (S i).1.get X o) (λk hk hki Y b=>uz h.hole (λhc=>by rw[hF'] at hc;cases hc)) DR _ (λk hk hkF=>h.Gc hkF i (by omega))
  ·have Q9:fv P ops S i=false:=by simp[fv,ho,rH]
   have hnF:F.contains i=false:=by
    cases hc:F.contains i with
    |false=>rfl
    |true=>
     have:=h.Ry i hc
     rw[Q9] at this;cases this
   have nK:=h.same i pU Q9;rw[quiet Q9];have vp: ∀H2,gh P C F base i (S i).1.get H2 o=gV P (iu (S i).1.get) H2 o.op:=by
    intro H2;unfold gh;rw[if_neg (by rw[hnF];simp)]
    unfold jO;split
    ·rename_i e;rw[e] at rH;exact absurd rfl rH
    ·rfl
   rw[vp] at DR ⊢;have NZ:=h.aam i o ho;cases DL:cls P o.op with
   |zL=>exact absurd DL rH
   |bad=>exact absurd DL NZ
   |pure=>exact NV DL DR _
   |read=>
    have hu:(gV P (eF (S i).1) (S i).2 o.op).map Prod.fst=some (val i):=by rw[←gg,DR];rfl
    have uZ: ∀H2,(gV P (eF (S i).1) H2 o.op).map Prod.fst=some (val i)→gV P (iu (S i).1.get) H2 o.op=some (val i,H2):=by
     intro H2 h2;rw[Option.map_eq_some_iff] at h2;obtain⟨⟨u,H3⟩,h3,e⟩:=h2;cases e;rw[gg,h3];rw[AN (P:=P) (by rw[DL];simp) (by rw[DL];simp) h3]
    refine uZ _ ?_;have cf: ∀(e:Nat) (y:Oper),ops[e]? =some y→fv P ops S e=true→vm (Region.before ops) i e=false→vm (Region.before ops) e i=false→
      (gV P (eF (S i).1) (S e).2 o.op).map Prod.fst=some (val i)∧(gV P (eF (S i).1) (S (e+1)).2 o.op).map Prod.fst=some (val i):=by
     intro e y hy aat h1 h2;obtain⟨x,Ra,hx2,hx3⟩:=D8 e aat;rw[hy] at Ra;cases Ra;obtain⟨c1,c2⟩:=h.acA i e o y ho hy DL hx2 h1 h2 hw aat;rw[hu] at c1 c2;exact⟨c1.symm,c2.symm⟩
    have aau: ∀q,i≤q→vm (Region.before ops) q i=false:=by
     intro q hq;cases hb:vm (Region.before ops) q i with
     |false=>rfl
     |true=>have:=NU h.NY i q hb;omega
    have Wz: ∀q,q≤i→vm (Region.before ops) i q=false:=by
     intro q hq;cases hb:vm (Region.before ops) i q with
     |false=>rfl
     |true=>have:=NU h.NY q i hb;omega
    have told: ∀(a d:Nat),(∀k,a≤k→k<a+d→F.contains k=true→ca (S a).2 (base+F.idxOf k))→(gV P (eF (S i).1) (S a).2 o.op).map Prod.fst=some (val i)→
      (gV P (eF (S i).1) (bP F base S L (S a).2 a d) o.op).map Prod.fst=some (val i):=by
     intro a d kW ha;have ha2:gV P (eF (S i).1) (S a).2 o.op=some (val i,(S a).2):=by have:=uZ _ ha;rwa [gg] at this
     have key: ∀d',d'≤d→gV P (eF (S i).1) (bP F base S L (S a).2 a d') o.op=some (val i,bP F base S L (S a).2 a d'):=by
      intro d';induction d' with
      |zero=>intro _;exact ha2
      |succ d' ih=>
       intro hd;have:=ih (by omega)
       rw[bP];by_cases c:L (a+d')=true∧F.contains (a+d')=true
       ·rw[if_pos c];have Wy:ca (bP F base S L (S a).2 a d') (base+F.idxOf (a+d')):=nd c.2 (kW _ (by omega) (by omega) c.2) d' (λk h1 h2 _=>by omega)
        exact(pc Wy _ _ this).2
       ·rw[if_neg c];exact this
     rw[key d (Nat.le_refl _)];rfl
    have frs: ∀a,∀k,a≤k→k<a+(ops.size-a)→F.contains k=true→ca (S a).2 (base+F.idxOf k):=λa k h1 _ hk=>h.Gc hk a h1
    rw[NK];by_cases hmi:m≤i
    ·
     have A: ∀d a,a+d=i→m≤a→(gV P (eF (S i).1) (bP F base S L (S a).2 a (ops.size-a)) o.op).map Prod.fst=some (val i):=by
      intro d;induction d with
      |zero=>
       intro a e _;have:a=i:=by omega
       subst this;exact told a _ (frs a) hu
      |succ d ih=>
       intro a e hma;by_cases hd:fv P ops S a=false∨L a=true
       ·rw[down a hma (by omega) hd];exact ih (a+1) (by omega) (by omega)
       ·have he:fv P ops S a=true:=by
         cases hh:fv P ops S a with
         |true=>rfl
         |false=>exact absurd (.inl hh) hd
        have hl:L a=false:=by
         cases hh:L a with
         |false=>rfl
         |true=>exact absurd (.inr hh) hd
        exact told a _ (frs a) (cf a _ (Array.getElem?_eq_getElem (by omega)) he (Wz a (by omega)) (D5 a (by omega) hl)).1
     exact A (i-m) m (by omega) (Nat.le_refl _)
    ·rcases Kg with rfl|⟨p,rfl,FU,Gd,hp3⟩
     ·omega
     ·have hpi:i≤p:=by omega
      exact told (p+1) _ (frs (p+1)) (cf p _ (Array.getElem?_eq_getElem (by omega)) Gd (HO p FU) (aau p hpi)).2
structure Inv (P:Program) (F:List Nat) (base:Nat) (ops:Array Oper) (S:Nat→Env×aa) (val:Nat→Value) (N B:Nat) (a0:Act) (w0:World) (μ0:Mu) (bC:Array Bool) (a:Act) (w:World) (μ:Mu):Prop where
 size:bC.size=ops.size
 shut: ∀(j:Nat) (o:Oper),ops[j]? =some o→bC.getD j false=true→∀e∈o.after,Region.binds .any e=true→bC.getD e.on false=true
 env:gW μ (mr ops S val (λk=>bC.getD k false) ops.size) a.tmps
 sim:cO P μ (nJ P F base ops S (λk=>bC.getD k false) ops.size) w B
 tmps:N≤a.tmps.size
 UT:a.tmps.size=a0.tmps.size
 defers:a.defers=a0.defers
 below:eW B w0 w
 le:μ0.le μ
theorem Ac {ro:Option Nat}{n:Nat}{C:ae}{F:List Nat}{base k:Nat}{E:Nat→Value}{o:Oper}{v:Value}{a:Act}{K:Act→World→Prop}{Q:Exit→Act→World→Prop}(hC:z9 P B C)(hS:cO P μ H w B)(hE:gW μ E a.tmps)(HN:F.contains k=true→sW o=true)(h:gh P C F base k E H o=some (v,H'))(hK: ∀v' μ' w',μ.le μ'→VR μ' v v'→cO P μ' H' w' B→eW B w w'→K (a.put o.dst v') w'):o.wpIn (FR ro) n P a w K Q:=by
 unfold gh at h;split at h
 ·rename_i hc;have hnd: ∀c,o.op≠ .defer c:=by
   intro c e;have:=HN hc
   unfold sW at this;rw[e] at this;simp at this
  refine⟨λ_ _=>trivial,?_⟩
  rw[Oper.semAt_eq _ _ _ hnd];obtain⟨v',μ',w',hr,hle,hv,s9,hB⟩:=D2 (o:=o) hS hE.eval h;rcases hr with hr|⟨hr,rfl⟩
  ·rw[hr];exact hK v' μ' w' hle hv s9 hB
  ·rw[hr];exact hK undef μ' w' hle hv s9 hB
 ·exact rB hC hS hE h hK
theorem cO.cE (h:cO P μ H w B)(n:Nat):cO P μ (H.cE n) w B:=by
 have hg: ∀{i:Nat} {b:eS},(H.cE n).get i=some b→H.get i=some b:=by
  intro i b hb;rw[aa.qW] at hb ⊢;unfold aa.cE at hb;by_cases e:i<H.length
  ·rwa [List.getElem?_append_left e] at hb
  ·rw[List.getElem?_append_right (by omega),List.getElem?_replicate] at hb
   split at hb<;>cases hb
 have ho: ∀{i:Nat} {b:dD},(H.cE n).dZ i=some b→H.dZ i=some b:=by
  intro i b hb;rw[aa.qX] at hb ⊢;unfold aa.cE at hb;by_cases e:i<H.length
  ·rwa [List.getElem?_append_left e] at hb
  ·rw[List.getElem?_append_right (by omega),List.getElem?_replicate] at hb
   split at hb<;>cases hb
 refine⟨h.base,λi b hb=>h.ok i b (hg hb),λi hi=>h.BF i (by simp[aa.cE] at hi;omega),λi j b c l m hb hc=>h.inj i j b c l m (hg hb) (hg hc),λi b l hb=>h.own i b l (hg hb),
  h.dZ.keep μ.le_refl (λ_ _=>ho) (λ_ _ h _=>h),λi hi=>?_⟩
 by_cases e:i<H.length
 ·unfold aa.cE at hi;rw[List.getElem?_append_left e] at hi;exact h.wv i hi
 ·exact h.BF i (by omega)
theorem AR {bC:Array Bool}{i:Nat}(hi:i∈Region.ready .any ops bC)(hs:bC.size=ops.size):
  ∃o,ops[i]? =some o∧bC.getD i false=false∧∀e∈o.after,Region.binds .any e=true→bC.getD e.on false=true:=by
 unfold Region.ready at hi;rw[List.mem_filter] at hi;obtain⟨h1,h2⟩:=hi;have pU:=List.mem_range.1 h1;simp only[Bool.and_eq_true,Bool.not_eq_true'] at h2;refine⟨ops[i],Array.getElem?_eq_getElem pU,?_,?_⟩
 ·have:=h2.1
  rw[Array.getD_eq_getD_getElem?,Array.getElem?_eq_getElem (by omega)] at this ⊢
  exact this
 ·intro e he hb;have h3:=h2.2;rw[Array.getElem?_eq_getElem pU] at h3;simp only[Option.map_some,Option.getD_some] at h3;have:=Array.all_eq_true_iff_forall_mem.1 h3 e he
  simpa[hb] using this
theorem Ki {bC:Array Bool}(he:vn ops=true)(hs:bC.size=ops.size)(h:Region.ready .any ops bC=[]): ∀k,k<ops.size→bC.getD k false=true:=by
 intro k;induction k using Nat.strongRecOn with
 |_ k ih=>
  intro hk;cases hl:bC.getD k false with
  |true=>rfl
  |false=>
   exfalso
   have hm:k∈Region.ready .any ops bC:=by
    unfold Region.ready;rw[List.mem_filter];refine⟨List.mem_range.2 hk,?_⟩;simp only[Bool.and_eq_true,Bool.not_eq_true'];constructor
    ·rw[Array.getD_eq_getD_getElem?,Array.getElem?_eq_getElem (by omega)] at hl ⊢
     exact hl
    ·rw[Array.getElem?_eq_getElem hk];simp only[Option.map_some,Option.getD_some];rw[Array.all_eq_true_iff_forall_mem];intro e hem;have h1:=List.all_eq_true.1 he k (List.mem_range.2 hk);rw[Array.getElem?_eq_getElem hk] at h1;have h2:=Array.all_eq_true_iff_forall_mem.1 h1 e hem;cases hb:Region.binds .any e with
     |false=>rfl
     |true=>
      have h3:e.on<k:=by simpa[hb] using h2
      rw[ih e.on h3 (by omega)];rfl
   rw[h] at hm;cases hm
theorem Ge {ro:Option Nat}{n:Nat}{N:Nat}{Q:Exit→Act→World→Prop}{a0:Act}{w0:World}{μ0:Mu}(hC:z9 P B C)(hp:rG P C F base ops S val)(hd: ∀o∈ops.toList,∀d,o.dst=some d→d<N)(hQ: ∀a w μ,μ0.le μ→gW μ (S ops.size).1.get a.tmps→a.defers=a0.defers→a.tmps.size=a0.tmps.size→cO P μ (S ops.size).2 w B→eW B w0 w→Q .normal a w):
  ∀(fuel:Nat) (bC:Array Bool) (a:Act) (w:World) (μ:Mu),oE (λk=>bC.getD k false) ops.size≤fuel→Inv P F base ops S val N B a0 w0 μ0 bC a w μ→wpAnyIn (FR ro) n P .any ops Q fuel bC a w:=by
 have fin: ∀(bC:Array Bool) (a:Act) (w:World) (μ:Mu),(∀k,k<ops.size→bC.getD k false=true)→Inv P F base ops S val N B a0 w0 μ0 bC a w μ→Q .normal a w:=by
  intro bC a w μ jz h;refine hQ a w μ h.le ?_ h.defers h.UT ?_ h.below
  ·intro t;have:=h.env t
   rw[HM (P:=P) (C:=C) (F:=F) (base:=base) hp.st (Nat.le_refl _) (λk hk _=>jz k hk)] at this
   exact this
  ·have:=h.sim
   rw[Wu (λk hk=>hp.same k hk) (λk _ hF _=>by obtain⟨_,_,_,_,_,_,e⟩:=hp.Gb k hF;exact e) (λk hk _=>jz k hk)] at this
   exact this
 intro fuel;induction fuel with
 |zero=>
  intro bC a w μ hc h;have jz:=NX (Nat.le_zero.1 hc);refine⟨?_,fin bC a w μ jz h⟩;cases hr:Region.ready .any ops bC with
  |nil=>rfl
  |cons i r=>
   exfalso
   obtain⟨o,ho,hl,_⟩:=AR (ops:=ops) (i:=i) (by rw[hr];simp) h.size
   rw[jz i (Array.getElem?_eq_some_iff.1 ho).1] at hl;cases hl
 |succ fuel ih=>
  intro bC a w μ hc h;refine⟨λhr=>fin bC a w μ (Ki hp.NY h.size hr) h,?_⟩
  intro i hi;obtain⟨o,ho,hl,acD⟩:=AR hi h.size;have pU:i<ops.size:=(Array.getElem?_eq_some_iff.1 ho).1;have acE:i<bC.size:=by rw[h.size];exact pU
  have u3: ∀k,(bC.setIfInBounds i true).getD k false=if k=i then true else bC.getD k false:=by
   intro k;rw[Array.getD_eq_getD_getElem?,Array.getElem?_setIfInBounds];by_cases e:i=k
   ·subst e;simp[acE]
   ·rw[if_neg e,if_neg (Ne.symm e),Array.getD_eq_getD_getElem?]
  have UU: ∀(j:Nat) (o':Oper),ops[j]? =some o'→(bC.setIfInBounds i true).getD j false=true→∀e∈o'.after,Region.binds .any e=true→(bC.setIfInBounds i true).getD e.on false=true:=by
   intro j o' Nl hj e he hb;rw[u3] at hj ⊢;by_cases e1:e.on=i
   ·rw[if_pos e1]
   ·rw[if_neg e1];by_cases e2:j=i
    ·subst e2;rw[ho] at Nl;cases Nl;exact acD e he hb
    ·rw[if_neg e2] at hj;exact h.shut j o' Nl hj e he hb
  have D5: ∀k,k<i→bC.getD k false=false→vm (Region.before ops) k i=false:=by
   intro k hk hlk;cases hb:vm (Region.before ops) k i with
   |false=>rfl
   |true=>
    have:=wW (L:=λk=>(bC.setIfInBounds i true).getD k false) UU i (by show(bC.setIfInBounds i true).getD i false=true;rw[u3,if_pos rfl]) k hb
    simp only[u3,if_neg (show k≠i by omega),hlk] at this
    cases this
  have HO: ∀k,bC.getD k false=true→vm (Region.before ops) i k=false:=by
   intro k hk;cases hb:vm (Region.before ops) i k with
   |false=>rfl
   |true=>
    have:=wW (L:=λk=>bC.getD k false) h.shut k hk i hb
    simp only[hl] at this;cases this
  obtain⟨c1,c2,c3,c4⟩:=hp.comes (L:=λk=>bC.getD k false) (L':=λk=>(bC.setIfInBounds i true).getD k false) ho hl (by simp[u3]) (λk hk=>by simp[u3,hk]) D5 HO
  have WA: ∀t,o.dst=some t→t<a.tmps.size:=λt ht=>Nat.lt_of_lt_of_le (hd o (by simpa using Array.mem_of_getElem? ho) t ht) h.tmps
  have Wr:jA ops i=o.dst:=by simp[jA,ho]
  have acF:oE (λk=>(bC.setIfInBounds i true).getD k false) ops.size≤fuel:=by
   have:=Ww (L:=λk=>bC.getD k false) (L':=λk=>(bC.setIfInBounds i true).getD k false) pU hl (by simp[u3]) (λk hk=>by simp[u3,hk])
   omega
  have hfe: ∀t,mr ops S val (λk=>(bC.setIfInBounds i true).getD k false) ops.size t=if o.dst=some t then val i else mr ops S val (λk=>bC.getD k false) ops.size t:=by
   intro t;rw[Rx (L:=λk=>bC.getD k false) (L':=λk=>(bC.setIfInBounds i true).getD k false) pU (by simp[u3]) (λk hk=>by simp[u3,hk]) (λe k h1 h2 h3=>c2 t (by rw[←Wr];exact e) k h1 h2 h3),Wr]
  have kx:=hp.st i o ho;have haw:qx ops o (mr ops S val (λk=>bC.getD k false) ops.size)=dE ops o (S i).1:=by
   rw[←qy];exact BX c1
  have next: ∀(v':Value) (μ':Mu) (w':World),μ.le μ'→VR μ' (val i) v'→cO P μ' (nJ P F base ops S (λk=>(bC.setIfInBounds i true).getD k false) ops.size) w' B→eW B w w'→
    wpAnyIn (FR ro) n P .any ops Q fuel (bC.setIfInBounds i true) (a.put o.dst v') w':=by
   intro v' μ' w' hle hv s9 hB;refine ih _ _ _ μ' acF ⟨by simp[h.size],UU,?_,s9,by rw[mJ];exact h.tmps,by rw[mJ];exact h.UT,by rw[put_defers];exact h.defers,h.below.trans hB,Mu.le_trans h.le hle⟩
   have:=gW.put (h.env.mono hle) hv o.dst WA
   intro t;rw[hfe];exact this t
  unfold wpOpIn;rw[ho];simp only;rcases kx.2 with⟨hw,_⟩|⟨hw,oF,_⟩
  ·rw[lR h.env (by rw[haw];exact hw),if_pos rfl]
   have hx:=c3 hw;rw[←Ab c1] at hx;refine Ac hC h.sim h.env (λhc=>?_) hx ?_
   ·obtain⟨o',Nl,hf⟩:=hp.lay i hc;rw[ho] at Nl;cases Nl;exact hf
   ·intro v' μ' w' hle hv s9 hB;exact next v' μ' w' hle hv s9 hB
  ·rw[lR h.env (by rw[haw];exact hw)]
   simp only[Bool.false_eq_true,if_false];have Q9:fv P ops S i=false:=by simp[fv,ho,hw]
   refine⟨λ_ _=>trivial,?_⟩
   refine next undef μ w μ.le_refl (by rw[oF];exact cU.tuple (c:=#[]) (c':=#[]) .nil) ?_ (eW.refl _ _)
   rw[c4 Q9];exact h.sim
theorem D9 {ro:Option Nat}{n:Nat}{N id:Nat}{E E':Env}{Q:Exit→Act→World→Prop}{a:Act}(hC:z9 P B C)(hm:P.follows .mixedOrders=true)(dH:om P N ops true=true)(dI:fg P C ops true E H=some (E',H'))(hN:N≤a.tmps.size)(hS:cO P μ H w B)(hE:gW μ E.get a.tmps)(hQ: ∀a' w' μ',μ.le μ'→gW μ' E'.get a'.tmps→a'.defers=a.defers→a'.tmps.size=a.tmps.size→cO P μ' H' w' B→eW B w w'→Q .normal a' w'):(Code.region id ops true).wpIn (FR ro) n P Q a w:=by
 simp only[om,Bool.and_eq_true,Bool.not_true,Bool.false_or,List.all_eq_true] at dH;obtain⟨WA,aav⟩:=dH;obtain⟨F,base,S,val,hp,h0,hn⟩:=rG.of (P:=P) (C:=C) hC.hole aav dI;refine wpIn_region_any hm ?_;have N1: ∀k,(Array.replicate ops.size false).getD k false=false:=by
  intro k;rw[Array.getD_eq_getD_getElem?,Array.getElem?_replicate];split<;>rfl
 have WB:eW B w {w with drawn:=w.drawn+1}:=(eW.refl B w).drew
 refine Ge (a0:=a) (w0:=w) (μ0:=μ) hC hp (N:=N) ?_ ?_ ops.size _ a _ μ ?_ ⟨by simp,?_,?_,?_,hN,rfl,rfl,WB,μ.le_refl⟩
 ·intro o ho d hd;have:=WA o ho
  rw[hd] at this;simpa using this
 ·intro a' w' μ' h1 h2 h3 h4 h5 h6;rw[hn] at h2 h5;exact hQ a' w' μ' h1 h2 h3 h4 h5 h6
 ·have: ∀m,oE (λk=>(Array.replicate ops.size false).getD k false) m≤m:=by
   intro m;induction m with
   |zero=>exact Nat.le_refl _
   |succ m ih=>rw[oE];split<;>omega
  exact this _
 ·intro j o _ hj;rw[N1] at hj;cases hj
 ·intro t;rw[D4 (i:=0) (by omega) (λk _ _ _=>N1 k)]
  show VR μ ((S 0).1.get t) _
  rw[h0];exact hE t
 ·have e: ∀n,nJ P F base ops S (λk=>(Array.replicate ops.size false).getD k false) n=(S 0).2:=by
   intro n;induction n with
   |zero=>rfl
   |succ n ih=>rw[nJ,if_neg (by rw[N1];simp),ih]
  rw[e,h0];exact(hS.cE _).heap rfl
end Go.Proofs.YtgfgglponbmgmaaGreatA.Am
end
