/- Texts of the proof of linearChecks_holds, put together by a small program of ours (names shortened, spaces taken out). No condition beyond the given statement. -/
import Derived.Test.YtjgmnoaalbbonaaGreatLCQ6
set_option linter.unusedVariables false
set_option linter.unusedSimpArgs false
set_option linter.unnecessarySimpa false
noncomputable section
section
namespace Go.Proofs.YtjgmnoaalbbonaaGreatA.Am
open Go.RowKit (Below)
variable {P:Program} {μ:Mu} {H H':ae} {w:World} {B:Nat}
section
variable (P:Program) (F:List Nat) (base:Nat) (ops:Array Oper) (S:Nat→Env×ae) (val:Nat→Value) (L:Nat→Bool)
def kD (k:Nat):Option Nat:=(ops[k]?).bind (·.dst)
def nO:Nat→Nat→Value
 |0,t=>(S 0).1.get t
 |k+1,t=>if L k=true∧kD ops k=some t then val k else nO k t
def gF (k:Nat):Bool:=match ops[k]? with
 |some o=>decide (cls P o.op= .Cj)&&(eW ops o (S k).1==some true)
 |none=>false
def bOf (k:Nat):eY:=match (S (k+1)).2.get (base+F.idxOf k) with|some b=>b|none=>default
def wh (k:Nat)(X:ae):ae:=X.lay (base+F.idxOf k) (bOf F base S k)
def pP:Nat→ae
 |0=>(S 0).2
 |k+1=>if L k=true∧gF P ops S k=true then(if F.contains k then wh F base S k (pP k) else(S (k+1)).2) else pP k
def cY (X:ae)(m:Nat):Nat→ae
 |0=>X
 |d+1=>if L (m+d)=true∧F.contains (m+d)=true then wh F base S (m+d) (cY X m d) else cY X m d
def qJ:Nat→Nat
 |0=>0
 |k+1=>qJ k+if L k then 0 else 1
end
variable {F:List Nat} {base:Nat} {ops:Array Oper} {S:Nat→Env×ae} {val:Nat→Value} {L L':Nat→Bool} {C:ag}
theorem Lz {i t:Nat}(ky: ∀k o,ops[k]? =some o→zG P C F base ops k o (S k) (S (k+1)) (val k))(hn:i≤ops.size)(h: ∀k,k<i→kD ops k=some t→L k=true):
  nO ops S val L i t=(S i).1.get t:=by
 induction i with
 |zero=>rfl
 |succ k ih=>
  have hk:k<ops.size:=by omega
  have ho:ops[k]? =some ops[k]:=Array.getElem?_eq_getElem hk;have h1:=(ky k _ ho).1;rw[h1,Env.aH,nO];have hd:kD ops k=ops[k].dst:=by simp[kD,ho]
  by_cases e:kD ops k=some t
  ·rw[if_pos ⟨h k (by omega) e,e⟩,if_pos (by rw[←hd];exact e)]
  ·rw[if_neg (λx=>e x.2),if_neg (by rw[←hd];exact e)]
   exact ih (by omega) (λj hj=>h j (by omega))
theorem Hj {i n t:Nat}(Nv:i≤n)(h: ∀k,i≤k→k<n→kD ops k=some t→L k=false):nO ops S val L n t=nO ops S val L i t:=by
 induction n with
 |zero=>
  have:i=0:=by omega
  subst this;rfl
 |succ k ih=>
  by_cases e:i=k+1
  ·subst e;rfl
  ·rw[nO,if_neg]
   ·exact ih (by omega) (λj h1 h2=>h j h1 (by omega))
   ·rintro⟨h1,h2⟩;rw[h k (by omega) (by omega) h2] at h1;cases h1
theorem UX {i n t:Nat}(Nv:i<n)(hi:L' i=true)(eC: ∀k,k≠i→L' k=L k)(h:kD ops i=some t→∀k,i<k→k<n→kD ops k=some t→L k=false):
  nO ops S val L' n t=if kD ops i=some t then val i else nO ops S val L n t:=by
 induction n with
 |zero=>omega
 |succ k ih=>
  by_cases e:i=k
  ·subst e;rw[nO,nO];have CF: ∀m,m≤i→nO ops S val L' m t=nO ops S val L m t:=by
    intro m hm;induction m with
    |zero=>rfl
    |succ j ihj=>rw[nO,nO,eC j (by omega),ihj (by omega)]
   by_cases hd:kD ops i=some t
   ·rw[if_pos ⟨hi,hd⟩,if_pos hd]
   ·rw[if_neg (λx=>hd x.2),if_neg hd,if_neg (λx=>hd x.2)];exact CF i (Nat.le_refl _)
  ·rw[nO,nO,eC k (by omega),ih (by omega) (λa b c d=>h a b c (by omega))]
   by_cases hd:kD ops i=some t
   ·rw[if_pos hd];by_cases hk:L k=true∧kD ops k=some t
    ·rw[h hd k (by omega) (by omega) hk.2] at hk;cases hk.1
    ·rw[if_neg hk,if_pos hd]
   ·rw[if_neg hd,if_neg hd]
theorem Nw {k:Nat}{o:Oper}(ky:zG P C F base ops k o (S k) (S (k+1)) (val k))(ho:ops[k]? =some o)(hb:cls P o.op≠ .bad)(hF:F.contains k=true→cls P o.op= .Cj)(h:gF P ops S k=false):(S (k+1)).2=(S k).2:=by
 rcases ky.2 with⟨hw,hx⟩|⟨hw,_,hx⟩
 ·have hc:cls P o.op≠ .Cj:=by
   intro e;simp[gF,ho,e,hw] at h
  have hnF: ¬F.contains k=true:=λe=>hc (hF e)
  unfold eQ at hx;rw[if_neg hnF, ←te] at hx;unfold kR at hx;split at hx
  ·rename_i e;rw[e] at hc;exact absurd rfl hc
  ·exact DE hc hb hx
 ·exact hx
theorem Jp {j k:Nat}(hj:F.contains j=true)(Ek:j≠k):base+F.idxOf j≠base+F.idxOf k:=by
 intro e;have e':F.idxOf j=F.idxOf k:=by omega
 have GV:j∈F:=by simpa using hj
 have dH:=List.idxOf_lt_length_of_mem GV;have h1:=List.getElem_idxOf dH;have Jq:F.idxOf k<F.length:=by omega
 have h2:=List.getElem_idxOf Jq;apply Ek;rw[←h1, ←h2];simp only[e']
theorem Zb {i:Nat}(qK: ∀k,k<i→gF P ops S k=false→(S (k+1)).2=(S k).2)(LD: ∀k,k<i→F.contains k=true→gF P ops S k=true→(S (k+1)).2=wh F base S k (S k).2)(h: ∀k,k<i→gF P ops S k=true→L k=true):pP P F base ops S L i=(S i).2:=by
 induction i with
 |zero=>rfl
 |succ k ih=>
  have ihk:=ih (λj hj=>qK j (by omega)) (λj hj=>LD j (by omega)) (λj hj=>h j (by omega))
  rw[pP];by_cases e:gF P ops S k=true
  ·rw[if_pos ⟨h k (by omega) e,e⟩]
   by_cases hF:F.contains k=true
   ·rw[if_pos hF,ihk];exact(LD k (by omega) hF e).symm
   ·rw[if_neg hF]
  ·rw[if_neg (λx=>e x.2),ihk,qK k (by omega) (by simpa using e)]
theorem Hl {n:Nat}(h: ∀k,k<n→gF P ops S k=true→L' k=L k):pP P F base ops S L' n=pP P F base ops S L n:=by
 induction n with
 |zero=>rfl
 |succ k ih=>
  rw[pP,pP,ih (λj hj=>h j (by omega))]
  by_cases e:gF P ops S k=true
  ·rw[h k (by omega) e]
  ·rw[if_neg (λx=>e x.2),if_neg (λx=>e x.2)]
theorem Hm {m:Nat}(hF: ∀k,F.contains k=true→gF P ops S k=true): ∀d,(∀k,m≤k→k<m+d→L k=true→gF P ops S k=true→F.contains k=true)→
  pP P F base ops S L (m+d)=cY F base S L (pP P F base ops S L m) m d:=by
 intro d;induction d with
 |zero=>intro _;rfl
 |succ d ih=>
  intro h;have ihd:=ih (λk h1 h2=>h k h1 (by omega))
  rw[←Nat.add_assoc,pP,cY,ihd];by_cases e:L (m+d)=true∧gF P ops S (m+d)=true
  ·have hf:=h (m+d) (by omega) (by omega) e.1 e.2
   rw[if_pos e,if_pos hf,if_pos ⟨e.1,hf⟩]
  ·rw[if_neg e,if_neg (λx=>e ⟨x.1,hF _ x.2⟩)]
theorem QG (hF: ∀k,F.contains k=true→gF P ops S k=true)(n:Nat):
  ∃m,m≤n∧pP P F base ops S L n=cY F base S L (S m).2 m (n-m)∧(m=0∨∃p,m=p+1∧L p=true∧gF P ops S p=true∧F.contains p=false)∧
   (∀k,m≤k→k<n→L k=true→gF P ops S k=true→F.contains k=true):=by
 have key: ∃m,m≤n∧pP P F base ops S L m=(S m).2∧(m=0∨∃p,m=p+1∧L p=true∧gF P ops S p=true∧F.contains p=false)∧
   (∀k,m≤k→k<n→L k=true→gF P ops S k=true→F.contains k=true):=by
  induction n with
  |zero=>exact⟨0,Nat.le_refl _,rfl,.inl rfl,λk _ hk=>by omega⟩
  |succ k ih=>
   by_cases e:L k=true∧gF P ops S k=true∧F.contains k=false
   ·refine⟨k+1,Nat.le_refl _,?_,.inr ⟨k,rfl,e.1,e.2.1,e.2.2⟩,λj h1 h2=>by omega⟩
    rw[pP,if_pos ⟨e.1,e.2.1⟩,if_neg (by rw[e.2.2];simp)]
   ·obtain⟨m,h1,h2,h3,h4⟩:=ih;refine⟨m,by omega,h2,h3,λj a1 a2 a3 a4=>?_⟩
    by_cases ej:j=k
    ·subst ej;cases hf:F.contains j with
     |true=>rfl
     |false=>exact absurd ⟨a3,a4,hf⟩ e
    ·exact h4 j a1 (by omega) a3 a4
 obtain⟨m,h1,h2,h3,h4⟩:=key;refine⟨m,h1,?_,h3,h4⟩;have:=Hm (base:=base) (L:=L) hF (m:=m) (n-m) (λk a b=>h4 k a (by omega))
 rw[show m+(n-m)=n by omega] at this
 rw[this,h2]
theorem Nx {j k:Nat}(hj:F.contains j=true)(Ek:j≠k)(X:ae):wh F base S j (wh F base S k X)=wh F base S k (wh F base S j X):=by
 unfold wh;exact uy (Jp hj Ek) _
theorem uD (X:ae)(m:Nat): ∀d,cY F base S L X m (d+1)=cY F base S L (if L m=true∧F.contains m=true then wh F base S m X else X) (m+1) d:=by
 intro d;induction d with
 |zero=>simp only[cY,Nat.add_zero]
 |succ d ih=>
  rw[cY,ih]
  conv=>rhs;rw[cY]
  rw[show m+1+d=m+(d+1) by omega]
theorem EF {X:ae}{m:Nat}: ∀d,(∀k,m≤k→k<m+d→L' k=L k)→cY F base S L' X m d=cY F base S L X m d:=by
 intro d;induction d with
 |zero=>intro _;rfl
 |succ d ih=>
  intro h;rw[cY,cY,ih (λk h1 h2=>h k h1 (by omega)),h (m+d) (by omega) (by omega)]
theorem pe {X:ae}{m j:Nat}(_hj:F.contains j=true)(hf:cX X (base+F.idxOf j)): ∀d,(∀k,m≤k→k<m+d→L k=true→k≠j)→cX (cY F base S L X m d) (base+F.idxOf j):=by
 intro d;induction d with
 |zero=>intro _;exact hf
 |succ d ih=>
  intro h;rw[cY];have:=ih (λk h1 h2=>h k h1 (by omega))
  by_cases c:L (m+d)=true∧F.contains (m+d)=true
  ·rw[if_pos c];exact this.set (Jp c.2 (h _ (by omega) (by omega) c.1)) _
  ·rw[if_neg c];exact this
theorem EG {f:ae→Option (Value×ae)}{X X':ae}{v:Value}{m:Nat}(hup: ∀k,F.contains k=true→m≤k→∀Y b,Up (base+F.idxOf k) b Y (f Y) (f (Y.lay (base+F.idxOf k) b)))(h:f X=some (v,X')):
  ∀d,(∀k,m≤k→F.contains k=true→cX X (base+F.idxOf k))→f (cY F base S L X m d)=some (v,cY F base S L X' m d):=by
 intro d;induction d with
 |zero=>intro _;exact h
 |succ d ih=>
  intro hf;have:=ih hf
  rw[cY,cY];by_cases c:L (m+d)=true∧F.contains (m+d)=true
  ·rw[if_pos c,if_pos c];have nN:cX (cY F base S L X m d) (base+F.idxOf (m+d)):=pe c.2 (hf _ (by omega) c.2) d (λk h1 h2 _=>by omega)
   exact(hup _ c.2 (by omega) _ _ nN _ _ this).2
  ·rw[if_neg c,if_neg c];exact this
theorem Zc {i n:Nat}(Nv:i<n)(h0:L i=false)(h1:L' i=true)(eC: ∀k,k≠i→L' k=L k):qJ L' n+1=qJ L n:=by
 induction n with
 |zero=>omega
 |succ k ih=>
  have CF: ∀m,m≤i→qJ L' m=qJ L m:=by
   intro m hm;induction m with
   |zero=>rfl
   |succ j ihj=>rw[qJ,qJ,eC j (by omega),ihj (by omega)]
  by_cases e:i=k
  ·subst e;rw[qJ,qJ,h0,h1,CF i (Nat.le_refl _)];simp
  ·rw[qJ,qJ,eC k (by omega)];have:=ih (by omega);omega
theorem QH {n:Nat}(h:qJ L n=0): ∀k,k<n→L k=true:=by
 induction n with
 |zero=>intro k hk;omega
 |succ m ih=>
  rw[qJ] at h;intro k hk;by_cases e:k=m
  ·subst e;cases hl:L k with
   |true=>rfl
   |false=>rw[hl] at h;simp at h
  ·exact ih (by omega) k (by omega)
theorem zI {a b:Value}(h:n8 a b=true):a=b:=by
 unfold n8 at h;split at h
 ·simpa using h
 ·simp only[Bool.and_eq_true,decide_eq_true_eq,beq_iff_eq] at h;rw[h.1,h.2]
 ·simpa using h
 ·simpa using h
 ·simp only[Bool.and_eq_true,decide_eq_true_eq,beq_iff_eq] at h;rw[h.1.1,h.1.2,h.2]
 ·simpa using h
 ·rfl
 ·rfl
 ·cases h
theorem uE: ∀{a b:List Value},qy n8 a b=true→a=b
 | [],[],_=>rfl
 |a::x,b::y,h=>by
  simp only[qy,Bool.and_eq_true] at h;rw[zI h.1,uE h.2]
 | [],_::_,h=>by simp[qy] at h
 |_::_,[],h=>by simp[qy] at h
theorem DG {a b:Value}(h:jd a b=true):a=b:=by
 unfold jd at h;split at h
 ·have:=uE h
  rw[Array.toList_inj] at this;rw[this]
 ·exact zI h
theorem Ny {r e:Nat}{x y:Oper}(hx:ops[r]? =some x)(hy:ops[e]? =some y)(h1:cls P x.op= .read)(h2:cls P y.op= .Cj)(h3:yi (Region.before ops) r e=false)(h4:yi (Region.before ops) e r=false):(r,e)∈n7 P ops:=by
 unfold n7;rw[List.mem_flatMap];refine⟨r,List.mem_range.2 (Array.getElem?_eq_some_iff.1 hx).1,?_⟩;rw[List.mem_filterMap];refine⟨e,List.mem_range.2 (Array.getElem?_eq_some_iff.1 hy).1,?_⟩;simp[hx,hy,h1,h2,h3,h4]
structure uF (P:Program) (C:ag) (F:List Nat) (base:Nat) (ops:Array Oper) (S:Nat→Env×ae) (val:Nat→Value):Prop where
 st: ∀(k:Nat) (o:Oper),ops[k]? =some o→zG P C F base ops k o (S k) (S (k+1)) (val k)
 QI:yj ops=true
 adI: ∀(k:Nat) (o:Oper),ops[k]? =some o→cls P o.op≠ .bad
 pair: ∀(i j:Nat),i<j→j<ops.size→Eg P F (Region.before ops) ops i j=true
 agb: ∀(r e:Nat) (x y:Oper),ops[r]? =some x→ops[e]? =some y→cls P x.op= .read→cls P y.op= .Cj→yi (Region.before ops) r e=false→yi (Region.before ops) e r=false→
  eW ops x (S r).1=some true→gF P ops S e=true→(iW P (fP (S r).1) (S r).2 x.op).map Prod.fst=(iW P (fP (S r).1) (S e).2 x.op).map Prod.fst∧
   (iW P (fP (S r).1) (S r).2 x.op).map Prod.fst=(iW P (fP (S r).1) (S (e+1)).2 x.op).map Prod.fst
 lay: ∀k,F.contains k=true→∃o,ops[k]? =some o∧vS o=true
 free: ∀k,F.contains k=true→cX (S 0).2 (base+F.idxOf k)
 hole:im C
theorem tj {o:Oper}(h:vS o=true):cls P o.op= .Cj∧o.guard=none:=by
 unfold vS at h;simp only[Bool.and_eq_true,Option.isNone_iff_eq_none] at h;obtain⟨h1,h2⟩:=h;refine⟨?_,h1⟩;split at h2
 ·rename_i e;rw[e];rfl
 ·rename_i e;rw[e];rfl
 ·rename_i e;rw[e];rfl
 ·cases h2
theorem Jr (H:ae){n k:Nat}(h:k<n):cX (H.dy n) (H.length+k):=by
 unfold cX ae.dy;rw[List.getElem?_append_right (by omega),List.getElem?_replicate]
 rw[if_pos (by omega)]
theorem uF.of {E E':Env}(hH:im C)(gJ:I4 P ops=true)(eK:gz P C ops true E H=some (E',H')):
  ∃F base S val,uF P C F base ops S val∧S 0=(E,H.dy F.length)∧S ops.size=(E',H'):=by
 unfold gz at eK;simp only[if_true] at eK;have adJ:eo P C (ng P ops) H.length ops ops.toList 0 E (H.dy (ng P ops).length)=some (E',H')∧(n7 P ops).all (jN P ops (fJ P C (ng P ops) H.length ops ops.toList 0 E (H.dy (ng P ops).length)))=true:=by
  cases hF:ng P ops with
  |nil=>
   rw[hF] at eK;simp only at eK;have e0:H.dy ([]:List Nat).length=H:=by simp[ae.dy]
   rw[e0,(jU ops.toList 0 E H).1,(jU ops.toList 0 E H).2];split at eK
   ·rename_i hc;exact⟨eK,by rw[hc];rfl⟩
   ·rename_i cs hc;split at eK
    ·rename_i fE;exact⟨eK,fE⟩
    ·cases eK
  |cons f F=>
   rw[hF] at eK;simp only at eK;split at eK
   ·rename_i hc;exact⟨eK,by rw[hc];rfl⟩
   ·rename_i cs hc;split at eK
    ·rename_i fE;exact⟨eK,fE⟩
    ·cases eK
 obtain⟨hr,adK⟩:=adJ;obtain⟨S,val,h0,hl,ky,htr⟩:=Jo ops.toList 0 E _ _ hr;simp only[I4,Bool.and_eq_true,List.all_eq_true,List.mem_range,decide_eq_true_eq] at gJ;obtain⟨⟨adL,CG⟩,adM⟩:=gJ;refine⟨ng P ops,H.length,S,val,⟨λk o ho=>by have:=ky k o (by simpa using ho);rwa [Nat.zero_add] at this,adL,?_,λi j GF hj=>adM j hj i GF,?_,?_,?_,hH⟩,h0,by simpa using hl⟩
 ·intro k o ho;exact CG o (by simpa using Array.mem_of_getElem? ho)
 ·intro r e x y hx hy adN uG h1 h2 hw Uq;have hm:=Ny (ops:=ops) hx hy adN uG h1 h2;have hc:=List.all_eq_true.1 adK _ hm;have hrs:r<ops.size:=(Array.getElem?_eq_some_iff.1 hx).1;have Ck:e<ops.size:=(Array.getElem?_eq_some_iff.1 hy).1;have t1:=htr r (by simp;omega)
  have t2:=htr e (by simp;omega)
  have t3:=htr (e+1) (by simp;omega)
  unfold jN at hc;simp only[t1,t2,t3,hx,hy] at hc;have hwe:eW ops y (S e).1=some true:=by simpa[gF,hy,uG] using Uq
  simp only[hw,hwe] at hc;split at hc
  ·rename_i u _ u1 _ u2 _ e1 e2 e3;simp only[Bool.and_eq_true] at hc;rw[e1,e2,e3];simp only[Option.map_some];rw[←DG hc.1, ←DG hc.2];exact⟨rfl,rfl⟩
  ·cases hc
 ·intro k hk;have Js:k∈ng P ops:=by simpa using hk
  unfold ng at Js;simp only[List.mem_filter,List.mem_range] at Js;obtain⟨_,h2⟩:=Js;split at h2
  ·rename_i y hy;simp only[Bool.and_eq_true] at h2;exact⟨y,hy,h2.1⟩
  ·cases h2
 ·intro k hk;rw[h0];exact Jr H (List.idxOf_lt_length_of_mem (by simpa using hk))
theorem uF.UY (h:uF P C F base ops S val): ∀k,F.contains k=true→gF P ops S k=true:=by
 intro k hk;obtain⟨o,ho,hf⟩:=h.lay k hk;obtain⟨h1,h2⟩:=tj (P:=P) hf;simp[gF,ho,h1,eW,h2]
theorem uF.same (h:uF P C F base ops S val): ∀k,k<ops.size→gF P ops S k=false→(S (k+1)).2=(S k).2:=by
 intro k hk he;have ho:ops[k]? =some ops[k]:=Array.getElem?_eq_getElem hk;refine Nw (h.st k _ ho) ho (h.adI k _ ho) (λhF=>?_) he
 obtain⟨o,Qc,hf⟩:=h.lay k hF;rw[ho] at Qc;cases Qc;exact(tj hf).1
theorem uF.Jt (h:uF P C F base ops S val)(k:Nat)(hk:F.contains k=true): ∃o mk,ops[k]? =some o∧cX (S k).2 (base+F.idxOf k)∧Dn P (fP (S k).1) o.op=some (mk,bOf F base S k)∧val k=mk (base+F.idxOf k)∧(S (k+1)).2=wh F base S k (S k).2:=by
 obtain⟨o,ho,hf⟩:=h.lay k hk;obtain⟨_,hg⟩:=tj (P:=P) hf;rcases(h.st k o ho).2 with⟨hw,hx⟩|⟨hw,_⟩
 ·unfold eQ at hx;rw[if_pos hk] at hx;unfold sF at hx;split at hx
  case h_2=>cases hx
  rename_i nN;split at hx
  case h_2=>cases hx
  rename_i mk b hb;have Nr:=Option.some.inj hx;have e1:mk (base+F.idxOf k)=val k:=congrArg Prod.fst Nr;have e2:(S k).2.set (base+F.idxOf k) (.hZ b)=(S (k+1)).2:=congrArg Prod.snd Nr;have adO:cX (S k).2 (base+F.idxOf k):=nN;have eb:bOf F base S k=b:=by
   unfold bOf;rw[←e2];have:ae.get (List.set (S k).2 (base+F.idxOf k) (.hZ b)) (base+F.idxOf k)=some b:=pd adO.lt;rw[this]
  refine⟨o,mk,ho,adO,by rw[eb];exact hb,e1.symm,?_⟩
  rw[←e2];unfold wh;rw[eb];rfl
 ·simp[eW,hg] at hw
theorem uF.Ju (h:uF P C F base ops S val){k:Nat}(hk:F.contains k=true): ∀m,m≤k→cX (S m).2 (base+F.idxOf k):=by
 intro m;induction m with
 |zero=>intro _;exact h.free k hk
 |succ m ih=>
  intro hm;have hfm:=ih (by omega)
  obtain⟨ok,gJ,_⟩:=h.lay k hk;have hkl:k<ops.size:=(Array.getElem?_eq_some_iff.1 gJ).1;have ho:ops[m]? =some ops[m]:=Array.getElem?_eq_getElem (by omega)
  rcases(h.st m _ ho).2 with⟨hw,hx⟩|⟨_,_,hx⟩
  ·rw[←xg] at hx;exact(xi (b:=default) h.hole (λhc=>Jp hc (by omega)) hfm _ _ hx).1
  ·rw[hx];exact hfm
theorem uF.comes (h:uF P C F base ops S val){i:Nat}{o:Oper}(ho:ops[i]? =some o)(hi:L i=false)(hLi:L' i=true)(QJ: ∀k,k≠i→L' k=L k)(CF: ∀k,k<i→L k=false→yi (Region.before ops) k i=false)(LF: ∀k,L k=true→yi (Region.before ops) i k=false):
  (∀t∈o.looksAt ops,nO ops S val L ops.size t=(S i).1.get t)∧(∀t,o.dst=some t→∀k,i<k→k<ops.size→kD ops k=some t→L k=false)∧
  (eW ops o (S i).1=some true→iu P C F base i (S i).1.get (pP P F base ops S L ops.size) o=some (val i,pP P F base ops S L' ops.size))∧
  (gF P ops S i=false→pP P F base ops S L' ops.size=pP P F base ops S L ops.size):=by
 have Nv:i<ops.size:=(Array.getElem?_eq_some_iff.1 ho).1;have low: ∀(k:Nat) (x:Oper),k<i→ops[k]? =some x→L k=false→x.apart ops o=true∧(cls P x.op= .Cj→cls P o.op= .Cj→F.contains i=true):=by
  intro k x hk hx hl;have hp:=h.pair k i hk Nv;unfold Eg at hp;rw[hx,ho] at hp;simp only[CF k hk hl,Bool.false_or,Bool.and_eq_true] at hp;obtain⟨h1,h2⟩:=hp;refine⟨h1,λa b=>?_⟩
  rw[a,b] at h2;simpa using h2
 have high: ∀(k:Nat) (y:Oper),i<k→ops[k]? =some y→L k=true→o.apart ops y=true∧(cls P o.op= .Cj→cls P y.op= .Cj→F.contains k=true):=by
  intro k y hk hy hl;have Zd:k<ops.size:=(Array.getElem?_eq_some_iff.1 hy).1;have hp:=h.pair i k hk Zd;unfold Eg at hp;rw[hy,ho] at hp;simp only[LF k hl,Bool.false_or,Bool.and_eq_true] at hp;obtain⟨h1,h2⟩:=hp;refine⟨h1,λa b=>?_⟩
  rw[a,b] at h2;simpa using h2
 have Hn: ∀(k:Nat),gF P ops S k=true→∃x,ops[k]? =some x∧cls P x.op= .Cj∧eW ops x (S k).1=some true:=by
  intro k hk;unfold gF at hk;split at hk
  ·rename_i x hx;simp only[Bool.and_eq_true,decide_eq_true_eq,beq_iff_eq] at hk;exact⟨x,hx,hk.1,hk.2⟩
  ·cases hk
 have quiet:gF P ops S i=false→pP P F base ops S L' ops.size=pP P F base ops S L ops.size:=λhe=>
  Hl λk _ hk=>QJ k (by rintro rfl;rw[he] at hk;cases hk)
 obtain⟨m,hmn,Np,GI,QK⟩:=QG (P:=P) (base:=base) (ops:=ops) (S:=S) (L:=L) h.UY ops.size;have down: ∀a,m≤a→a<i→(gF P ops S a=false∨L a=true)→cY F base S L (S a).2 a (ops.size-a)=cY F base S L (S (a+1)).2 (a+1) (ops.size-(a+1)):=by
  intro a h1 h2 h3;rw[show ops.size-a=(ops.size-(a+1))+1 by omega,uD]
  by_cases he:gF P ops S a=true
  ·have hl:L a=true:=by
    rcases h3 with h3|h3
    ·rw[he] at h3;cases h3
    ·exact h3
   have hf:=QK a h1 (by omega) hl he
   rw[if_pos ⟨hl,hf⟩];obtain⟨_,_,_,_,_,_,e⟩:=h.Jt a hf;rw[e]
  ·have UZ:gF P ops S a=false:=by simpa using he
   rw[if_neg (λx=>he (h.UY a x.2)),h.same a (by omega) UZ]
 refine⟨?_,?_,?_,quiet⟩
 ·intro t ht;rw[Hj (i:=i) (by omega),Lz (P:=P) (C:=C) (F:=F) (base:=base) h.st (by omega)]
  ·intro k hk hd;cases hl:L k with
   |true=>rfl
   |false=>
    have Zd:k<ops.size:=by omega
    have hx:ops[k]? =some ops[k]:=Array.getElem?_eq_getElem Zd;obtain⟨h1,_,_⟩:=Oper.apart_spec (low k _ hk hx hl).1;exact absurd ht (h1 t (by simpa[kD,hx] using hd))
  ·intro k hk Zd hd;by_cases e:k=i
   ·subst e;exact hi
   ·cases hl:L k with
    |false=>rfl
    |true=>
     have hy:ops[k]? =some ops[k]:=Array.getElem?_eq_getElem Zd;obtain⟨_,_,h3⟩:=Oper.apart_spec (high k _ (by omega) hy hl).1
     exact absurd ht (h3 t (by simpa[kD,hy] using hd))
 ·intro t ht k hk Zd hd;cases hl:L k with
  |false=>rfl
  |true=>
   have hy:ops[k]? =some ops[k]:=Array.getElem?_eq_getElem Zd;obtain⟨_,h2,_⟩:=Oper.apart_spec (high k _ hk hy hl).1;exact absurd (by simpa[kD,hy] using hd) (h2 t ht)
 ·intro hw;have ky:=h.st i o ho;have hx:eQ P C F base i (S i).1 (S i).2 o=some (val i,(S (i+1)).2):=by
   rcases ky.2 with⟨_,hx⟩|⟨uH,_,_⟩
   ·exact hx
   ·rw[hw] at uH;cases uH
  have Nr:=hx;rw[←xg] at Nr;have agc:cls P o.op= .Cj→m≤i:=by
   intro uG;rcases GI with rfl|⟨p,rfl,Qa,hp2,hp3⟩
   ·omega
   ·have eC:p≠i:=by rintro rfl;rw[hi] at Qa;cases Qa
    have hpn:p<ops.size:=by omega
    obtain⟨y,hy,hye,_⟩:=Hn p hp2;by_cases dH:i<p
    ·have:=(high p y dH hy Qa).2 uG hye
     rw[hp3] at this;cases this
    ·omega
  by_cases uG:cls P o.op= .Cj
  ·have Uq:gF P ops S i=true:=by simp[gF,ho,uG,hw]
   have hmi:=agc uG;by_cases hF:F.contains i=true
   ·
    obtain⟨o',mk,Qc,nN,hb,hv,_⟩:=h.Jt i hF;rw[ho] at Qc;cases Qc;have Ze:cX (pP P F base ops S L ops.size) (base+F.idxOf i):=by
     rw[Np];exact pe hF (h.Ju hF m hmi) _ (λk _ _ hk e=>by subst e;rw[hi] at hk;cases hk)
    have CH:pP P F base ops S L' ops.size=wh F base S i (pP P F base ops S L ops.size):=by
     have key: ∀n,i<n→pP P F base ops S L' n=wh F base S i (pP P F base ops S L n)∨∃p,i<p∧p<n∧L p=true∧gF P ops S p=true∧F.contains p=false:=by
      intro n;induction n with
      |zero=>intro h;omega
      |succ n ih=>
       intro hn;by_cases e:i=n
       ·subst e;left
        rw[pP,pP,if_pos ⟨hLi,Uq⟩,if_pos hF,if_neg (by rw[hi];simp),Hl (λk hk _=>QJ k (by omega))]
       ·rcases ih (by omega) with ih|⟨p,a1,a2,a3⟩
        ·rw[pP,pP,QJ n (Ne.symm e)];by_cases c:L n=true∧gF P ops S n=true
         ·rw[if_pos c,if_pos c];by_cases hFn:F.contains n=true
          ·left
           rw[if_pos hFn,if_pos hFn,ih,Nx hFn (Ne.symm e)]
          ·right
           exact⟨n,by omega,by omega,c.1,c.2,by simpa using hFn⟩
         ·rw[if_neg c,if_neg c];exact .inl ih
        ·exact .inr ⟨p,a1,by omega,a3⟩
     rcases key ops.size Nv with e|⟨p,a1,a2,a3,a4,a5⟩
     ·exact e
     ·obtain⟨y,hy,hye,_⟩:=Hn p a4;have:=(high p y a1 hy a3).2 uG hye
      rw[a5] at this;cases this
    unfold iu;rw[if_pos hF];unfold sF;have agd:(pP P F base ops S L ops.size)[base+F.idxOf i]? =some .hole:=Ze;rw[agd];simp only[ir,hb,hv,CH];rfl
   ·
    have hF':F.contains i=false:=by simpa using hF
    have U0: ∀q,q<i→gF P ops S q=true→L q=true:=by
     intro q hq he;obtain⟨x,xN,Ur,_⟩:=Hn q he;cases hl:L q with
     |true=>rfl
     |false=>exact absurd ((low q x hq xN hl).2 Ur uG) hF
    have hS: ∀d a,a+d=i→m≤a→cY F base S L (S a).2 a (ops.size-a)=cY F base S L (S i).2 i (ops.size-i):=by
     intro d;induction d with
     |zero=>
      intro a e _;have:a=i:=by omega
      subst this;rfl
     |succ d ih=>
      intro a e hma;rw[down a hma (by omega) (by
       cases he:gF P ops S a with
       |false=>exact .inl rfl
       |true=>exact .inr (U0 a (by omega) he))]
      exact ih (a+1) (by omega) (by omega)
    have hh:pP P F base ops S L ops.size=cY F base S L (S i).2 (i+1) (ops.size-(i+1)):=by
     rw[Np,hS (i-m) m (by omega) (Nat.le_refl _),show ops.size-i=(ops.size-(i+1))+1 by omega,uD,if_neg (λx=>hF x.2)]
    have hh':pP P F base ops S L' ops.size=cY F base S L (S (i+1)).2 (i+1) (ops.size-(i+1)):=by
     have Nz:pP P F base ops S L' (i+1)=(S (i+1)).2:=by
      rw[pP,if_pos ⟨hLi,Uq⟩,if_neg hF]
     have:=Hm (base:=base) (L:=L') h.UY (m:=i+1) (ops.size-(i+1)) (λk a b c e=>by
      rw[QJ k (by omega)] at c
      obtain⟨y,hy,hye,_⟩:=Hn k e;exact(high k y (by omega) hy c).2 uG hye)
     rw[show i+1+(ops.size-(i+1))=ops.size by omega,Nz] at this
     rw[this];exact EF _ (λk a _=>QJ k (by omega))
    rw[hh,hh'];refine EG (f:=λX=>iu P C F base i (S i).1.get X o) (λk hk hki Y b=>xi h.hole (λhc=>by rw[hF'] at hc;cases hc)) Nr _ (λk hk hkF=>h.Ju hkF i (by omega))
  ·have Uq:gF P ops S i=false:=by simp[gF,ho,uG]
   have hnF:F.contains i=false:=by
    cases hc:F.contains i with
    |false=>rfl
    |true=>
     have:=h.UY i hc
     rw[Uq] at this;cases this
   have qK:=h.same i Nv Uq;rw[quiet Uq];have Du: ∀H2,iu P C F base i (S i).1.get H2 o=iW P (jy (S i).1.get) H2 o.op:=by
    intro H2;unfold iu;rw[if_neg (by rw[hnF];simp)]
    unfold kR;split
    ·rename_i e;rw[e] at uG;exact absurd rfl uG
    ·rfl
   rw[Du] at Nr ⊢;have CG:=h.adI i o ho;cases um:cls P o.op with
   |Cj=>exact absurd um uG
   |bad=>exact absurd um CG
   |pure=>exact QE um Nr _
   |read=>
    have hu:(iW P (fP (S i).1) (S i).2 o.op).map Prod.fst=some (val i):=by rw[←ir,Nr];rfl
    have Ho: ∀H2,(iW P (fP (S i).1) H2 o.op).map Prod.fst=some (val i)→iW P (jy (S i).1.get) H2 o.op=some (val i,H2):=by
     intro H2 h2;rw[Option.map_eq_some_iff] at h2;obtain⟨⟨u,H3⟩,h3,e⟩:=h2;cases e;rw[ir,h3];rw[DE (P:=P) (by rw[um];simp) (by rw[um];simp) h3]
    refine Ho _ ?_;have cf: ∀(e:Nat) (y:Oper),ops[e]? =some y→gF P ops S e=true→yi (Region.before ops) i e=false→yi (Region.before ops) e i=false→
      (iW P (fP (S i).1) (S e).2 o.op).map Prod.fst=some (val i)∧(iW P (fP (S i).1) (S (e+1)).2 o.op).map Prod.fst=some (val i):=by
     intro e y hy adP h1 h2;obtain⟨x,xN,Ur,hx3⟩:=Hn e adP;rw[hy] at xN;cases xN;obtain⟨c1,c2⟩:=h.agb i e o y ho hy um Ur h1 h2 hw adP;rw[hu] at c1 c2;exact⟨c1.symm,c2.symm⟩
    have adQ: ∀q,i≤q→yi (Region.before ops) q i=false:=by
     intro q hq;cases hb:yi (Region.before ops) q i with
     |false=>rfl
     |true=>have:=QD h.QI i q hb;omega
    have Zf: ∀q,q≤i→yi (Region.before ops) i q=false:=by
     intro q hq;cases hb:yi (Region.before ops) i q with
     |false=>rfl
     |true=>have:=QD h.QI q i hb;omega
    have told: ∀(a d:Nat),(∀k,a≤k→k<a+d→F.contains k=true→cX (S a).2 (base+F.idxOf k))→(iW P (fP (S i).1) (S a).2 o.op).map Prod.fst=some (val i)→
      (iW P (fP (S i).1) (cY F base S L (S a).2 a d) o.op).map Prod.fst=some (val i):=by
     intro a d nN ha;have ha2:iW P (fP (S i).1) (S a).2 o.op=some (val i,(S a).2):=by have:=Ho _ ha;rwa [ir] at this
     have key: ∀d',d'≤d→iW P (fP (S i).1) (cY F base S L (S a).2 a d') o.op=some (val i,cY F base S L (S a).2 a d'):=by
      intro d';induction d' with
      |zero=>intro _;exact ha2
      |succ d' ih=>
       intro hd;have:=ih (by omega)
       rw[cY];by_cases c:L (a+d')=true∧F.contains (a+d')=true
       ·rw[if_pos c];have Ze:cX (cY F base S L (S a).2 a d') (base+F.idxOf (a+d')):=pe c.2 (nN _ (by omega) (by omega) c.2) d' (λk h1 h2 _=>by omega)
        exact(rH Ze _ _ this).2
       ·rw[if_neg c];exact this
     rw[key d (Nat.le_refl _)];rfl
    have frs: ∀a,∀k,a≤k→k<a+(ops.size-a)→F.contains k=true→cX (S a).2 (base+F.idxOf k):=λa k h1 _ hk=>h.Ju hk a h1
    rw[Np];by_cases hmi:m≤i
    ·
     have A: ∀d a,a+d=i→m≤a→(iW P (fP (S i).1) (cY F base S L (S a).2 a (ops.size-a)) o.op).map Prod.fst=some (val i):=by
      intro d;induction d with
      |zero=>
       intro a e _;have:a=i:=by omega
       subst this;exact told a _ (frs a) hu
      |succ d ih=>
       intro a e hma;by_cases hd:gF P ops S a=false∨L a=true
       ·rw[down a hma (by omega) hd];exact ih (a+1) (by omega) (by omega)
       ·have he:gF P ops S a=true:=by
         cases hh:gF P ops S a with
         |true=>rfl
         |false=>exact absurd (.inl hh) hd
        have hl:L a=false:=by
         cases hh:L a with
         |false=>rfl
         |true=>exact absurd (.inr hh) hd
        exact told a _ (frs a) (cf a _ (Array.getElem?_eq_getElem (by omega)) he (Zf a (by omega)) (CF a (by omega) hl)).1
     exact A (i-m) m (by omega) (Nat.le_refl _)
    ·rcases GI with rfl|⟨p,rfl,Qa,hp2,hp3⟩
     ·omega
     ·have hpi:i≤p:=by omega
      exact told (p+1) _ (frs (p+1)) (cf p _ (Array.getElem?_eq_getElem (by omega)) hp2 (LF p Qa) (adQ p hpi)).2
structure Inv (P:Program) (F:List Nat) (base:Nat) (ops:Array Oper) (S:Nat→Env×ae) (val:Nat→Value) (N B:Nat) (a0:Act) (w0:World) (μ0:Mu) (cw:Array Bool) (a:Act) (w:World) (μ:Mu):Prop where
 size:cw.size=ops.size
 shut: ∀(j:Nat) (o:Oper),ops[j]? =some o→cw.getD j false=true→∀e∈o.after,Region.binds .any e=true→cw.getD e.on false=true
 env:fX μ (nO ops S val (λk=>cw.getD k false) ops.size) a.tmps
 sim:da P μ (pP P F base ops S (λk=>cw.getD k false) ops.size) w B
 tmps:N≤a.tmps.size
 X5:a.tmps.size=a0.tmps.size
 defers:a.defers=a0.defers
 below:gE B w0 w
 le:μ0.le μ
theorem CI {ro:Option Nat}{n:Nat}{C:ag}{F:List Nat}{base k:Nat}{E:Nat→Value}{o:Oper}{v:Value}{a:Act}{K:Act→World→Prop}{Q:Exit→Act→World→Prop}(hC:xK P B C)(hS:da P μ H w B)(hE:fX μ E a.tmps)(LD:F.contains k=true→vS o=true)(h:iu P C F base k E H o=some (v,H'))(hK: ∀v' μ' w',μ.le μ'→VR μ' v v'→da P μ' H' w' B→gE B w w'→K (a.put o.dst v') w'):o.wpIn (FR ro) n P a w K Q:=by
 unfold iu at h;split at h
 ·rename_i hc;have Qb: ∀c,o.op≠ .defer c:=by
   intro c e;have:=LD hc
   unfold vS at this;rw[e] at this;simp at this
  refine⟨λ_ _=>trivial,?_⟩
  rw[Oper.semAt_eq _ _ _ Qb];obtain⟨v',μ',w',hr,hle,hv,pY,hB⟩:=Hg (o:=o) hS hE.eval h;rcases hr with hr|⟨hr,rfl⟩
  ·rw[hr];exact hK v' μ' w' hle hv pY hB
  ·rw[hr];exact hK undef μ' w' hle hv pY hB
 ·exact uB hC hS hE h hK
theorem da.dy (h:da P μ H w B)(n:Nat):da P μ (H.dy n) w B:=by
 have hg: ∀{i:Nat} {b:eY},(H.dy n).get i=some b→H.get i=some b:=by
  intro i b hb;rw[ae.tY] at hb ⊢;unfold ae.dy at hb;by_cases e:i<H.length
  ·rwa [List.getElem?_append_left e] at hb
  ·rw[List.getElem?_append_right (by omega),List.getElem?_replicate] at hb
   split at hb<;>cases hb
 have ho: ∀{i:Nat} {b:dq},(H.dy n).db i=some b→H.db i=some b:=by
  intro i b hb;rw[ae.tZ] at hb ⊢;unfold ae.dy at hb;by_cases e:i<H.length
  ·rwa [List.getElem?_append_left e] at hb
  ·rw[List.getElem?_append_right (by omega),List.getElem?_replicate] at hb
   split at hb<;>cases hb
 refine⟨h.base,λi b hb=>h.ok i b (hg hb),λi hi=>h.Cv i (by simp[ae.dy] at hi;omega),λi j b c l m hb hc=>h.inj i j b c l m (hg hb) (hg hc),λi b l hb=>h.own i b l (hg hb),
  h.db.keep μ.le_refl (λ_ _=>ho) (λ_ _ h _=>h),λi hi=>?_⟩
 by_cases e:i<H.length
 ·unfold ae.dy at hi;rw[List.getElem?_append_left e] at hi;exact h.yl i hi
 ·exact h.Cv i (by omega)
theorem DH {cw:Array Bool}{i:Nat}(hi:i∈Region.ready .any ops cw)(hs:cw.size=ops.size):
  ∃o,ops[i]? =some o∧cw.getD i false=false∧∀e∈o.after,Region.binds .any e=true→cw.getD e.on false=true:=by
 unfold Region.ready at hi;rw[List.mem_filter] at hi;obtain⟨h1,h2⟩:=hi;have Nv:=List.mem_range.1 h1;simp only[Bool.and_eq_true,Bool.not_eq_true'] at h2;refine⟨ops[i],Array.getElem?_eq_getElem Nv,?_,?_⟩
 ·have:=h2.1
  rw[Array.getD_eq_getD_getElem?,Array.getElem?_eq_getElem (by omega)] at this ⊢
  exact this
 ·intro e he hb;have h3:=h2.2;rw[Array.getElem?_eq_getElem Nv] at h3;simp only[Option.map_some,Option.getD_some] at h3;have:=Array.all_eq_true_iff_forall_mem.1 h3 e he
  simpa[hb] using this
theorem NA {cw:Array Bool}(he:yj ops=true)(hs:cw.size=ops.size)(h:Region.ready .any ops cw=[]): ∀k,k<ops.size→cw.getD k false=true:=by
 intro k;induction k using Nat.strongRecOn with
 |_ k ih=>
  intro hk;cases hl:cw.getD k false with
  |true=>rfl
  |false=>
   exfalso
   have hm:k∈Region.ready .any ops cw:=by
    unfold Region.ready;rw[List.mem_filter];refine⟨List.mem_range.2 hk,?_⟩;simp only[Bool.and_eq_true,Bool.not_eq_true'];constructor
    ·rw[Array.getD_eq_getD_getElem?,Array.getElem?_eq_getElem (by omega)] at hl ⊢
     exact hl
    ·rw[Array.getElem?_eq_getElem hk];simp only[Option.map_some,Option.getD_some];rw[Array.all_eq_true_iff_forall_mem];intro e hem;have h1:=List.all_eq_true.1 he k (List.mem_range.2 hk);rw[Array.getElem?_eq_getElem hk] at h1;have h2:=Array.all_eq_true_iff_forall_mem.1 h1 e hem;cases hb:Region.binds .any e with
     |false=>rfl
     |true=>
      have h3:e.on<k:=by simpa[hb] using h2
      rw[ih e.on h3 (by omega)];rfl
   rw[h] at hm;cases hm
theorem Jv {ro:Option Nat}{n:Nat}{N:Nat}{Q:Exit→Act→World→Prop}{a0:Act}{w0:World}{μ0:Mu}(hC:xK P B C)(hp:uF P C F base ops S val)(hd: ∀o∈ops.toList,∀d,o.dst=some d→d<N)(hQ: ∀a w μ,μ0.le μ→fX μ (S ops.size).1.get a.tmps→a.defers=a0.defers→a.tmps.size=a0.tmps.size→da P μ (S ops.size).2 w B→gE B w0 w→Q .normal a w):
  ∀(fuel:Nat) (cw:Array Bool) (a:Act) (w:World) (μ:Mu),qJ (λk=>cw.getD k false) ops.size≤fuel→Inv P F base ops S val N B a0 w0 μ0 cw a w μ→wpAnyIn (FR ro) n P .any ops Q fuel cw a w:=by
 have fin: ∀(cw:Array Bool) (a:Act) (w:World) (μ:Mu),(∀k,k<ops.size→cw.getD k false=true)→Inv P F base ops S val N B a0 w0 μ0 cw a w μ→Q .normal a w:=by
  intro cw a w μ fE h;refine hQ a w μ h.le ?_ h.defers h.X5 ?_ h.below
  ·intro t;have:=h.env t
   rw[Lz (P:=P) (C:=C) (F:=F) (base:=base) hp.st (Nat.le_refl _) (λk hk _=>fE k hk)] at this
   exact this
  ·have:=h.sim
   rw[Zb (λk hk=>hp.same k hk) (λk _ hF _=>by obtain⟨_,_,_,_,_,_,e⟩:=hp.Jt k hF;exact e) (λk hk _=>fE k hk)] at this
   exact this
 intro fuel;induction fuel with
 |zero=>
  intro cw a w μ hc h;have fE:=QH (Nat.le_zero.1 hc);refine⟨?_,fin cw a w μ fE h⟩;cases hr:Region.ready .any ops cw with
  |nil=>rfl
  |cons i r=>
   exfalso
   obtain⟨o,ho,hl,_⟩:=DH (ops:=ops) (i:=i) (by rw[hr];simp) h.size
   rw[fE i (Array.getElem?_eq_some_iff.1 ho).1] at hl;cases hl
 |succ fuel ih=>
  intro cw a w μ hc h;refine⟨λhr=>fin cw a w μ (NA hp.QI h.size hr) h,?_⟩
  intro i hi;obtain⟨o,ho,hl,NB⟩:=DH hi h.size;have Nv:i<ops.size:=(Array.getElem?_eq_some_iff.1 ho).1;have age:i<cw.size:=by rw[h.size];exact Nv
  have EH: ∀k,(cw.setIfInBounds i true).getD k false=if k=i then true else cw.getD k false:=by
   intro k;rw[Array.getD_eq_getD_getElem?,Array.getElem?_setIfInBounds];by_cases e:i=k
   ·subst e;simp[age]
   ·rw[if_neg e,if_neg (Ne.symm e),Array.getD_eq_getD_getElem?]
  have X6: ∀(j:Nat) (o':Oper),ops[j]? =some o'→(cw.setIfInBounds i true).getD j false=true→∀e∈o'.after,Region.binds .any e=true→(cw.setIfInBounds i true).getD e.on false=true:=by
   intro j o' Qc hj e he hb;rw[EH] at hj ⊢;by_cases e1:e.on=i
   ·rw[if_pos e1]
   ·rw[if_neg e1];by_cases e2:j=i
    ·subst e2;rw[ho] at Qc;cases Qc;exact NB e he hb
    ·rw[if_neg e2] at hj;exact h.shut j o' Qc hj e he hb
  have CF: ∀k,k<i→cw.getD k false=false→yi (Region.before ops) k i=false:=by
   intro k hk hlk;cases hb:yi (Region.before ops) k i with
   |false=>rfl
   |true=>
    have:=zF (L:=λk=>(cw.setIfInBounds i true).getD k false) X6 i (by show(cw.setIfInBounds i true).getD i false=true;rw[EH,if_pos rfl]) k hb
    simp only[EH,if_neg (show k≠i by omega),hlk] at this
    cases this
  have LF: ∀k,cw.getD k false=true→yi (Region.before ops) i k=false:=by
   intro k hk;cases hb:yi (Region.before ops) i k with
   |false=>rfl
   |true=>
    have:=zF (L:=λk=>cw.getD k false) h.shut k hk i hb
    simp only[hl] at this;cases this
  obtain⟨c1,c2,c3,c4⟩:=hp.comes (L:=λk=>cw.getD k false) (L':=λk=>(cw.setIfInBounds i true).getD k false) ho hl (by simp[EH]) (λk hk=>by simp[EH,hk]) CF LF
  have Zg: ∀t,o.dst=some t→t<a.tmps.size:=λt ht=>Nat.lt_of_lt_of_le (hd o (by simpa using Array.mem_of_getElem? ho) t ht) h.tmps
  have hdo:kD ops i=o.dst:=by simp[kD,ho]
  have agf:qJ (λk=>(cw.setIfInBounds i true).getD k false) ops.size≤fuel:=by
   have:=Zc (L:=λk=>cw.getD k false) (L':=λk=>(cw.setIfInBounds i true).getD k false) Nv hl (by simp[EH]) (λk hk=>by simp[EH,hk])
   omega
  have hfe: ∀t,nO ops S val (λk=>(cw.setIfInBounds i true).getD k false) ops.size t=if o.dst=some t then val i else nO ops S val (λk=>cw.getD k false) ops.size t:=by
   intro t;rw[UX (L:=λk=>cw.getD k false) (L':=λk=>(cw.setIfInBounds i true).getD k false) Nv (by simp[EH]) (λk hk=>by simp[EH,hk]) (λe k h1 h2 h3=>c2 t (by rw[←hdo];exact e) k h1 h2 h3),hdo]
  have ky:=hp.st i o ho;have haw:s9 ops o (nO ops S val (λk=>cw.getD k false) ops.size)=eW ops o (S i).1:=by
   rw[←td];exact EE c1
  have next: ∀(v':Value) (μ':Mu) (w':World),μ.le μ'→VR μ' (val i) v'→da P μ' (pP P F base ops S (λk=>(cw.setIfInBounds i true).getD k false) ops.size) w' B→gE B w w'→
    wpAnyIn (FR ro) n P .any ops Q fuel (cw.setIfInBounds i true) (a.put o.dst v') w':=by
   intro v' μ' w' hle hv pY hB;refine ih _ _ _ μ' agf ⟨by simp[h.size],X6,?_,pY,by rw[cM];exact h.tmps,by rw[cM];exact h.X5,by rw[put_defers];exact h.defers,h.below.trans hB,Mu.le_trans h.le hle⟩
   have:=fX.put (h.env.mono hle) hv o.dst Zg
   intro t;rw[hfe];exact this t
  unfold wpOpIn;rw[ho];simp only;rcases ky.2 with⟨hw,_⟩|⟨hw,qL,_⟩
  ·rw[nt h.env (by rw[haw];exact hw),if_pos rfl]
   have hx:=c3 hw;rw[←CE c1] at hx;refine CI hC h.sim h.env (λhc=>?_) hx ?_
   ·obtain⟨o',Qc,hf⟩:=hp.lay i hc;rw[ho] at Qc;cases Qc;exact hf
   ·intro v' μ' w' hle hv pY hB;exact next v' μ' w' hle hv pY hB
  ·rw[nt h.env (by rw[haw];exact hw)]
   simp only[Bool.false_eq_true,if_false];have Uq:gF P ops S i=false:=by simp[gF,ho,hw]
   refine⟨λ_ _=>trivial,?_⟩
   refine next undef μ w μ.le_refl (by rw[qL];exact dR.tuple (c:=#[]) (c':=#[]) .nil) ?_ (gE.refl _ _)
   rw[c4 Uq];exact h.sim
theorem Hp {ro:Option Nat}{n:Nat}{N id:Nat}{E E':Env}{Q:Exit→Act→World→Prop}{a:Act}(hC:xK P B C)(hm:P.follows .mixedOrders=true)(gJ:qA P N ops true=true)(eK:gz P C ops true E H=some (E',H'))(hN:N≤a.tmps.size)(hS:da P μ H w B)(hE:fX μ E.get a.tmps)(hQ: ∀a' w' μ',μ.le μ'→fX μ' E'.get a'.tmps→a'.defers=a.defers→a'.tmps.size=a.tmps.size→da P μ' H' w' B→gE B w w'→Q .normal a' w'):(Code.region id ops true).wpIn (FR ro) n P Q a w:=by
 simp only[qA,Bool.and_eq_true,Bool.not_true,Bool.false_or,List.all_eq_true] at gJ;obtain⟨Zg,adR⟩:=gJ;obtain⟨F,base,S,val,hp,h0,hn⟩:=uF.of (P:=P) (C:=C) hC.hole adR eK;refine wpIn_region_any hm ?_;have QL: ∀k,(Array.replicate ops.size false).getD k false=false:=by
  intro k;rw[Array.getD_eq_getD_getElem?,Array.getElem?_replicate];split<;>rfl
 have Zh:gE B w {w with drawn:=w.drawn+1}:=(gE.refl B w).drew
 refine Jv (a0:=a) (w0:=w) (μ0:=μ) hC hp (N:=N) ?_ ?_ ops.size _ a _ μ ?_ ⟨by simp,?_,?_,?_,hN,rfl,rfl,Zh,μ.le_refl⟩
 ·intro o ho d hd;have:=Zg o ho
  rw[hd] at this;simpa using this
 ·intro a' w' μ' h1 h2 h3 h4 h5 h6;rw[hn] at h2 h5;exact hQ a' w' μ' h1 h2 h3 h4 h5 h6
 ·have: ∀m,qJ (λk=>(Array.replicate ops.size false).getD k false) m≤m:=by
   intro m;induction m with
   |zero=>exact Nat.le_refl _
   |succ m ih=>rw[qJ];split<;>omega
  exact this _
 ·intro j o _ hj;rw[QL] at hj;cases hj
 ·intro t;rw[Hj (i:=0) (by omega) (λk _ _ _=>QL k)]
  show VR μ ((S 0).1.get t) _
  rw[h0];exact hE t
 ·have e: ∀n,pP P F base ops S (λk=>(Array.replicate ops.size false).getD k false) n=(S 0).2:=by
   intro n;induction n with
   |zero=>rfl
   |succ n ih=>rw[pP,if_neg (by rw[QL];simp),ih]
  rw[e,h0];exact(hS.dy _).heap rfl
end Go.Proofs.YtjgmnoaalbbonaaGreatA.Am
end
