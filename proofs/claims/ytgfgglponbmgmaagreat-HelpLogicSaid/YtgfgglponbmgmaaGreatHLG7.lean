/- Texts of the proof of helpLogic_holds, put together by a small program of ours (names shortened, spaces taken out). No condition beyond the given statement. -/
import Derived.Test.YtgfgglponbmgmaaGreatHLG6
set_option linter.unusedVariables false
set_option linter.unusedSimpArgs false
set_option linter.unnecessarySimpa false
noncomputable section
section
namespace Go.Proofs.YtgfgglponbmgmaaGreatA.Am
open Go.RowKit (Below)
variable {P:Program} {μ:Mu} {H H':aa} {w:World} {B:Nat}
section
variable (P:Program) (F:List Nat) (base:Nat) (ops:Array Oper) (S:Nat→Env×aa) (val:Nat→Value) (L:Nat→Bool)
def jn (k:Nat):Option Nat:=(ops[k]?).bind (·.dst)
def lZ:Nat→Nat→Value
 |0,t=>(S 0).1.get t
 |k+1,t=>if L k=true∧jn ops k=some t then val k else lZ k t
def fg (k:Nat):Bool:=match ops[k]? with
 |some o=>decide (cls P o.op= .y8)&&(dB ops o (S k).1==some true)
 |none=>false
def bOf (k:Nat):eM:=match (S (k+1)).2.get (base+F.idxOf k) with|some b=>b|none=>default
def rl (k:Nat)(X:aa):aa:=X.lay (base+F.idxOf k) (bOf F base S k)
def nF:Nat→aa
 |0=>(S 0).2
 |k+1=>if L k=true∧fg P ops S k=true then(if F.contains k then rl F base S k (nF k) else(S (k+1)).2) else nF k
def bN (X:aa)(m:Nat):Nat→aa
 |0=>X
 |d+1=>if L (m+d)=true∧F.contains (m+d)=true then rl F base S (m+d) (bN X m d) else bN X m d
def oB:Nat→Nat
 |0=>0
 |k+1=>oB k+if L k then 0 else 1
end
variable {F:List Nat} {base:Nat} {ops:Array Oper} {S:Nat→Env×aa} {val:Nat→Value} {L L':Nat→Bool} {C:ae}
theorem Gv {i t:Nat}(mj: ∀k o,ops[k]? =some o→wB P C F base ops k o (S k) (S (k+1)) (val k))(hn:i≤ops.size)(h: ∀k,k<i→jn ops k=some t→L k=true):
  lZ ops S val L i t=(S i).1.get t:=by
 induction i with
 |zero=>rfl
 |succ k ih=>
  have hk:k<ops.size:=by omega
  have ho:ops[k]? =some ops[k]:=Array.getElem?_eq_getElem hk;have h1:=(mj k _ ho).1;rw[h1,Env.aG,lZ];have hd:jn ops k=ops[k].dst:=by simp[jn,ho]
  by_cases e:jn ops k=some t
  ·rw[if_pos ⟨h k (by omega) e,e⟩,if_pos (by rw[←hd];exact e)]
  ·rw[if_neg (λx=>e x.2),if_neg (by rw[←hd];exact e)]
   exact ih (by omega) (λj hj=>h j (by omega))
theorem Dx {i n t:Nat}(pd:i≤n)(h: ∀k,i≤k→k<n→jn ops k=some t→L k=false):lZ ops S val L n t=lZ ops S val L i t:=by
 induction n with
 |zero=>
  have:i=0:=by omega
  subst this;rfl
 |succ k ih=>
  by_cases e:i=k+1
  ·subst e;rfl
  ·rw[lZ,if_neg]
   ·exact ih (by omega) (λj h1 h2=>h j h1 (by omega))
   ·rintro⟨h1,h2⟩;rw[h k (by omega) (by omega) h2] at h1;cases h1
theorem P6 {i n t:Nat}(pd:i<n)(hi:L' i=true)(dy: ∀k,k≠i→L' k=L k)(h:jn ops i=some t→∀k,i<k→k<n→jn ops k=some t→L k=false):
  lZ ops S val L' n t=if jn ops i=some t then val i else lZ ops S val L n t:=by
 induction n with
 |zero=>omega
 |succ k ih=>
  by_cases e:i=k
  ·subst e;rw[lZ,lZ];have Dy: ∀m,m≤i→lZ ops S val L' m t=lZ ops S val L m t:=by
    intro m hm;induction m with
    |zero=>rfl
    |succ j ihj=>rw[lZ,lZ,dy j (by omega),ihj (by omega)]
   by_cases hd:jn ops i=some t
   ·rw[if_pos ⟨hi,hd⟩,if_pos hd]
   ·rw[if_neg (λx=>hd x.2),if_neg hd,if_neg (λx=>hd x.2)];exact Dy i (Nat.le_refl _)
  ·rw[lZ,lZ,dy k (by omega),ih (by omega) (λa b c d=>h a b c (by omega))]
   by_cases hd:jn ops i=some t
   ·rw[if_pos hd];by_cases hk:L k=true∧jn ops k=some t
    ·rw[h hd k (by omega) (by omega) hk.2] at hk;cases hk.1
    ·rw[if_neg hk,if_pos hd]
   ·rw[if_neg hd,if_neg hd]
theorem I0 {k:Nat}{o:Oper}(mj:wB P C F base ops k o (S k) (S (k+1)) (val k))(ho:ops[k]? =some o)(hb:cls P o.op≠ .bad)(hF:F.contains k=true→cls P o.op= .y8)(h:fg P ops S k=false):(S (k+1)).2=(S k).2:=by
 rcases mj.2 with⟨hw,hx⟩|⟨hw,_,hx⟩
 ·have hc:cls P o.op≠ .y8:=by
   intro e;simp[fg,ho,e,hw] at h
  have hnF: ¬F.contains k=true:=λe=>hc (hF e)
  unfold du at hx;rw[if_neg hnF, ←qz] at hx;unfold jF at hx;split at hx
  ·rename_i e;rw[e] at hc;exact absurd rfl hc
  ·exact Aj hc hb hx
 ·exact hx
theorem Fh {j k:Nat}(hj:F.contains j=true)(z9:j≠k):base+F.idxOf j≠base+F.idxOf k:=by
 intro e;have e':F.idxOf j=F.idxOf k:=by omega
 have y9:j∈F:=by simpa using hj
 have gB:=List.idxOf_lt_length_of_mem y9;have h1:=List.getElem_idxOf gB;have abl:F.idxOf k<F.length:=by omega
 have h2:=List.getElem_idxOf abl;apply z9;rw[←h1, ←h2];simp only[e']
theorem Uw {i:Nat}(nG: ∀k,k<i→fg P ops S k=false→(S (k+1)).2=(S k).2)(Gw: ∀k,k<i→F.contains k=true→fg P ops S k=true→(S (k+1)).2=rl F base S k (S k).2)(h: ∀k,k<i→fg P ops S k=true→L k=true):nF P F base ops S L i=(S i).2:=by
 induction i with
 |zero=>rfl
 |succ k ih=>
  have ihk:=ih (λj hj=>nG j (by omega)) (λj hj=>Gw j (by omega)) (λj hj=>h j (by omega))
  rw[nF];by_cases e:fg P ops S k=true
  ·rw[if_pos ⟨h k (by omega) e,e⟩]
   by_cases hF:F.contains k=true
   ·rw[if_pos hF,ihk];exact(Gw k (by omega) hF e).symm
   ·rw[if_neg hF]
  ·rw[if_neg (λx=>e x.2),ihk,nG k (by omega) (by simpa using e)]
theorem Dz {n:Nat}(h: ∀k,k<n→fg P ops S k=true→L' k=L k):nF P F base ops S L' n=nF P F base ops S L n:=by
 induction n with
 |zero=>rfl
 |succ k ih=>
  rw[nF,nF,ih (λj hj=>h j (by omega))]
  by_cases e:fg P ops S k=true
  ·rw[h k (by omega) e]
  ·rw[if_neg (λx=>e x.2),if_neg (λx=>e x.2)]
theorem DA {m:Nat}(hF: ∀k,F.contains k=true→fg P ops S k=true): ∀d,(∀k,m≤k→k<m+d→L k=true→fg P ops S k=true→F.contains k=true)→
  nF P F base ops S L (m+d)=bN F base S L (nF P F base ops S L m) m d:=by
 intro d;induction d with
 |zero=>intro _;rfl
 |succ d ih=>
  intro h;have ihd:=ih (λk h1 h2=>h k h1 (by omega))
  rw[←Nat.add_assoc,nF,bN,ihd];by_cases e:L (m+d)=true∧fg P ops S (m+d)=true
  ·have hf:=h (m+d) (by omega) (by omega) e.1 e.2
   rw[if_pos e,if_pos hf,if_pos ⟨e.1,hf⟩]
  ·rw[if_neg e,if_neg (λx=>e ⟨x.1,hF _ x.2⟩)]
theorem ME (hF: ∀k,F.contains k=true→fg P ops S k=true)(n:Nat):
  ∃m,m≤n∧nF P F base ops S L n=bN F base S L (S m).2 m (n-m)∧(m=0∨∃p,m=p+1∧L p=true∧fg P ops S p=true∧F.contains p=false)∧
   (∀k,m≤k→k<n→L k=true→fg P ops S k=true→F.contains k=true):=by
 have key: ∃m,m≤n∧nF P F base ops S L m=(S m).2∧(m=0∨∃p,m=p+1∧L p=true∧fg P ops S p=true∧F.contains p=false)∧
   (∀k,m≤k→k<n→L k=true→fg P ops S k=true→F.contains k=true):=by
  induction n with
  |zero=>exact⟨0,Nat.le_refl _,rfl,.inl rfl,λk _ hk=>by omega⟩
  |succ k ih=>
   by_cases e:L k=true∧fg P ops S k=true∧F.contains k=false
   ·refine⟨k+1,Nat.le_refl _,?_,.inr ⟨k,rfl,e.1,e.2.1,e.2.2⟩,λj h1 h2=>by omega⟩
    rw[nF,if_pos ⟨e.1,e.2.1⟩,if_neg (by rw[e.2.2];simp)]
   ·obtain⟨m,h1,h2,h3,h4⟩:=ih;refine⟨m,by omega,h2,h3,λj a1 a2 a3 a4=>?_⟩
    by_cases ej:j=k
    ·subst ej;cases hf:F.contains j with
     |true=>rfl
     |false=>exact absurd ⟨a3,a4,hf⟩ e
    ·exact h4 j a1 (by omega) a3 a4
 obtain⟨m,h1,h2,h3,h4⟩:=key;refine⟨m,h1,?_,h3,h4⟩;have:=DA (base:=base) (L:=L) hF (m:=m) (n-m) (λk a b=>h4 k a (by omega))
 rw[show m+(n-m)=n by omega] at this
 rw[this,h2]
theorem Al {j k:Nat}(hj:F.contains j=true)(z9:j≠k)(X:aa):rl F base S j (rl F base S k X)=rl F base S k (rl F base S j X):=by
 unfold rl;exact rh (Fh hj z9) _
theorem rp (X:aa)(m:Nat): ∀d,bN F base S L X m (d+1)=bN F base S L (if L m=true∧F.contains m=true then rl F base S m X else X) (m+1) d:=by
 intro d;induction d with
 |zero=>simp only[bN,Nat.add_zero]
 |succ d ih=>
  rw[bN,ih]
  conv=>rhs;rw[bN]
  rw[show m+1+d=m+(d+1) by omega]
theorem rq {X:aa}{m:Nat}: ∀d,(∀k,m≤k→k<m+d→L' k=L k)→bN F base S L' X m d=bN F base S L X m d:=by
 intro d;induction d with
 |zero=>intro _;rfl
 |succ d ih=>
  intro h;rw[bN,bN,ih (λk h1 h2=>h k h1 (by omega)),h (m+d) (by omega) (by omega)]
theorem Ux {X:aa}{m i:Nat}(hi:F.contains i=true)(h0:L i=false)(h1:L' i=true)(dy: ∀k,k≠i→L' k=L k): ∀d,m≤i→i<m+d→bN F base S L' X m d=rl F base S i (bN F base S L X m d):=by
 intro d;induction d with
 |zero=>intro h2 h3;omega
 |succ d ih=>
  intro h2 h3;rw[bN,bN];by_cases e:i=m+d
  ·subst e;rw[if_pos ⟨h1,hi⟩,if_neg (by rw[h0];simp),rq d (λk a b=>dy k (by omega))]
  ·rw[dy (m+d) (Ne.symm e),ih h2 (by omega)]
   by_cases c:L (m+d)=true∧F.contains (m+d)=true
   ·rw[if_pos c,if_pos c,Al c.2 (Ne.symm e)]
   ·rw[if_neg c,if_neg c]
theorem mR {X:aa}{m j:Nat}(_hj:F.contains j=true)(hf:bX X (base+F.idxOf j)): ∀d,(∀k,m≤k→k<m+d→L k=true→k≠j)→bX (bN F base S L X m d) (base+F.idxOf j):=by
 intro d;induction d with
 |zero=>intro _;exact hf
 |succ d ih=>
  intro h;rw[bN];have:=ih (λk h1 h2=>h k h1 (by omega))
  by_cases c:L (m+d)=true∧F.contains (m+d)=true
  ·rw[if_pos c];exact this.set (Fh c.2 (h _ (by omega) (by omega) c.1)) _
  ·rw[if_neg c];exact this
theorem BA {f:aa→Option (Value×aa)}{X X':aa}{v:Value}{m:Nat}(hup: ∀k,F.contains k=true→m≤k→∀Y b,Up (base+F.idxOf k) b Y (f Y) (f (Y.lay (base+F.idxOf k) b)))(h:f X=some (v,X')):
  ∀d,(∀k,m≤k→F.contains k=true→bX X (base+F.idxOf k))→f (bN F base S L X m d)=some (v,bN F base S L X' m d):=by
 intro d;induction d with
 |zero=>intro _;exact h
 |succ d ih=>
  intro hf;have:=ih hf
  rw[bN,bN];by_cases c:L (m+d)=true∧F.contains (m+d)=true
  ·rw[if_pos c,if_pos c];have kO:bX (bN F base S L X m d) (base+F.idxOf (m+d)):=mR c.2 (hf _ (by omega) c.2) d (λk h1 h2 _=>by omega)
   exact(hup _ c.2 (by omega) _ _ kO _ _ this).2
  ·rw[if_neg c,if_neg c];exact this
theorem Uy {i n:Nat}(pd:i<n)(h0:L i=false)(h1:L' i=true)(dy: ∀k,k≠i→L' k=L k):oB L' n+1=oB L n:=by
 induction n with
 |zero=>omega
 |succ k ih=>
  have Dy: ∀m,m≤i→oB L' m=oB L m:=by
   intro m hm;induction m with
   |zero=>rfl
   |succ j ihj=>rw[oB,oB,dy j (by omega),ihj (by omega)]
  by_cases e:i=k
  ·subst e;rw[oB,oB,h0,h1,Dy i (Nat.le_refl _)];simp
  ·rw[oB,oB,dy k (by omega)];have:=ih (by omega);omega
theorem MF {n:Nat}(h:oB L n=0): ∀k,k<n→L k=true:=by
 induction n with
 |zero=>intro k hk;omega
 |succ m ih=>
  rw[oB] at h;intro k hk;by_cases e:k=m
  ·subst e;cases hl:L k with
   |true=>rfl
   |false=>rw[hl] at h;simp at h
  ·exact ih (by omega) k (by omega)
theorem wD {a b:Value}(h:Bc a b=true):a=b:=by
 unfold Bc at h;split at h
 ·simpa using h
 ·simp only[Bool.and_eq_true,decide_eq_true_eq,beq_iff_eq] at h;rw[h.1,h.2]
 ·simpa using h
 ·simpa using h
 ·simp only[Bool.and_eq_true,decide_eq_true_eq,beq_iff_eq] at h;rw[h.1.1,h.1.2,h.2]
 ·simpa using h
 ·rfl
 ·rfl
 ·cases h
theorem ry: ∀{a b:List Value},sK Bc a b=true→a=b
 | [],[],_=>rfl
 |a::x,b::y,h=>by
  simp only[sK,Bool.and_eq_true] at h;rw[wD h.1,ry h.2]
 | [],_::_,h=>by simp[sK] at h
 |_::_,[],h=>by simp[sK] at h
theorem An {a b:Value}(h:pG a b=true):a=b:=by
 unfold pG at h;split at h
 ·have:=ry h
  rw[Array.toList_inj] at this;rw[this]
 ·exact wD h
theorem I1 {r e:Nat}{x y:Oper}(hx:ops[r]? =some x)(hy:ops[e]? =some y)(h1:cls P x.op= .read)(h2:cls P y.op= .y8)(h3:uY (Region.before ops) r e=false)(h4:uY (Region.before ops) e r=false):(r,e)∈mq P ops:=by
 unfold mq;rw[List.mem_flatMap];refine⟨r,List.mem_range.2 (Array.getElem?_eq_some_iff.1 hx).1,?_⟩;rw[List.mem_filterMap];refine⟨e,List.mem_range.2 (Array.getElem?_eq_some_iff.1 hy).1,?_⟩;simp[hx,hy,h1,h2,h3,h4]
structure rz (P:Program) (C:ae) (F:List Nat) (base:Nat) (ops:Array Oper) (S:Nat→Env×aa) (val:Nat→Value):Prop where
 st: ∀(k:Nat) (o:Oper),ops[k]? =some o→wB P C F base ops k o (S k) (S (k+1)) (val k)
 MG:uZ ops=true
 Y1: ∀(k:Nat) (o:Oper),ops[k]? =some o→cls P o.op≠ .bad
 pair: ∀(i j:Nat),i<j→j<ops.size→Bb P F (Region.before ops) ops i j=true
 abm: ∀(r e:Nat) (x y:Oper),ops[r]? =some x→ops[e]? =some y→cls P x.op= .read→cls P y.op= .y8→uY (Region.before ops) r e=false→uY (Region.before ops) e r=false→
  dB ops x (S r).1=some true→fg P ops S e=true→(gO P (n3 (S r).1) (S r).2 x.op).map Prod.fst=(gO P (n3 (S r).1) (S e).2 x.op).map Prod.fst∧
   (gO P (n3 (S r).1) (S r).2 x.op).map Prod.fst=(gO P (n3 (S r).1) (S (e+1)).2 x.op).map Prod.fst
 lay: ∀k,F.contains k=true→∃o,ops[k]? =some o∧sJ o=true
 free: ∀k,F.contains k=true→bX (S 0).2 (base+F.idxOf k)
 hole:gE C
theorem qA {o:Oper}(h:sJ o=true):cls P o.op= .y8∧o.guard=none:=by
 unfold sJ at h;simp only[Bool.and_eq_true,Option.isNone_iff_eq_none] at h;obtain⟨h1,h2⟩:=h;refine⟨?_,h1⟩;split at h2
 ·rename_i e;rw[e];rfl
 ·rename_i e;rw[e];rfl
 ·rename_i e;rw[e];rfl
 ·cases h2
theorem Fi (H:aa){n k:Nat}(h:k<n):bX (H.cB n) (H.length+k):=by
 unfold bX aa.cB;rw[List.getElem?_append_right (by omega),List.getElem?_replicate]
 rw[if_pos (by omega)]
theorem rz.of {E E':Env}(hH:gE C)(eA:EK P ops=true)(dF:eV P C ops true E H=some (E',H')):
  ∃F base S val,rz P C F base ops S val∧S 0=(E,H.cB F.length)∧S ops.size=(E',H'):=by
 unfold eV at dF;simp only[if_true] at dF;have Y2:cV P C (lG P ops) H.length ops ops.toList 0 E (H.cB (lG P ops).length)=some (E',H')∧(mq P ops).all (iH P ops (ef P C (lG P ops) H.length ops ops.toList 0 E (H.cB (lG P ops).length)))=true:=by
  cases hF:lG P ops with
  |nil=>
   rw[hF] at dF;simp only at dF;have e0:H.cB ([]:List Nat).length=H:=by simp[aa.cB]
   rw[e0,(iQ ops.toList 0 E H).1,(iQ ops.toList 0 E H).2];split at dF
   ·rename_i hc;exact⟨dF,by rw[hc];rfl⟩
   ·rename_i cs hc;split at dF
    ·rename_i jk;exact⟨dF,jk⟩
    ·cases dF
  |cons f F=>
   rw[hF] at dF;simp only at dF;split at dF
   ·rename_i hc;exact⟨dF,by rw[hc];rfl⟩
   ·rename_i cs hc;split at dF
    ·rename_i jk;exact⟨dF,jk⟩
    ·cases dF
 obtain⟨hr,Y3⟩:=Y2;obtain⟨S,val,h0,hl,mj,Y0⟩:=Fg ops.toList 0 E _ _ hr;simp only[EK,Bool.and_eq_true,List.all_eq_true,List.mem_range,decide_eq_true_eq] at eA;obtain⟨⟨Y4,MH⟩,Y5⟩:=eA;refine⟨lG P ops,H.length,S,val,⟨λk o ho=>by have:=mj k o (by simpa using ho);rwa [Nat.zero_add] at this,Y4,?_,λi j LO hj=>Y5 j hj i LO,?_,?_,?_,hH⟩,h0,by simpa using hl⟩
 ·intro k o ho;exact MH o (by simpa using Array.mem_of_getElem? ho)
 ·intro r e x y hx hy Y6 rA h1 h2 hw PE;have hm:=I1 (ops:=ops) hx hy Y6 rA h1 h2;have hc:=List.all_eq_true.1 Y3 _ hm;have hrs:r<ops.size:=(Array.getElem?_eq_some_iff.1 hx).1;have YN:e<ops.size:=(Array.getElem?_eq_some_iff.1 hy).1;have t1:=Y0 r (by simp;omega)
  have t2:=Y0 e (by simp;omega)
  have t3:=Y0 (e+1) (by simp;omega)
  unfold iH at hc;simp only[t1,t2,t3,hx,hy] at hc;have hwe:dB ops y (S e).1=some true:=by simpa[fg,hy,rA] using PE
  simp only[hw,hwe] at hc;split at hc
  ·rename_i u _ u1 _ u2 _ e1 e2 e3;simp only[Bool.and_eq_true] at hc;rw[e1,e2,e3];simp only[Option.map_some];rw[←An hc.1, ←An hc.2];exact⟨rfl,rfl⟩
  ·cases hc
 ·intro k hk;have hk':k∈lG P ops:=by simpa using hk
  unfold lG at hk';simp only[List.mem_filter,List.mem_range] at hk';obtain⟨_,h2⟩:=hk';split at h2
  ·rename_i y hy;simp only[Bool.and_eq_true] at h2;exact⟨y,hy,h2.1⟩
  ·cases h2
 ·intro k hk;rw[h0];exact Fi H (List.idxOf_lt_length_of_mem (by simpa using hk))
theorem rz.P7 (h:rz P C F base ops S val): ∀k,F.contains k=true→fg P ops S k=true:=by
 intro k hk;obtain⟨o,ho,hf⟩:=h.lay k hk;obtain⟨h1,h2⟩:=qA (P:=P) hf;simp[fg,ho,h1,dB,h2]
theorem rz.same (h:rz P C F base ops S val): ∀k,k<ops.size→fg P ops S k=false→(S (k+1)).2=(S k).2:=by
 intro k hk he;have ho:ops[k]? =some ops[k]:=Array.getElem?_eq_getElem hk;refine I0 (h.st k _ ho) ho (h.Y1 k _ ho) (λhF=>?_) he
 obtain⟨o,LQ,hf⟩:=h.lay k hF;rw[ho] at LQ;cases LQ;exact(qA hf).1
theorem rz.Fj (h:rz P C F base ops S val)(k:Nat)(hk:F.contains k=true): ∃o mk,ops[k]? =some o∧bX (S k).2 (base+F.idxOf k)∧z5 P (n3 (S k).1) o.op=some (mk,bOf F base S k)∧val k=mk (base+F.idxOf k)∧(S (k+1)).2=rl F base S k (S k).2:=by
 obtain⟨o,ho,hf⟩:=h.lay k hk;obtain⟨_,hg⟩:=qA (P:=P) hf;rcases(h.st k o ho).2 with⟨hw,hx⟩|⟨hw,_⟩
 ·unfold du at hx;rw[if_pos hk] at hx;unfold pT at hx;split at hx
  case h_2=>cases hx
  rename_i kO;split at hx
  case h_2=>cases hx
  rename_i mk b hb;have Dk:=Option.some.inj hx;have e1:mk (base+F.idxOf k)=val k:=congrArg Prod.fst Dk;have e2:(S k).2.set (base+F.idxOf k) (.y7 b)=(S (k+1)).2:=congrArg Prod.snd Dk;have Y7:bX (S k).2 (base+F.idxOf k):=kO;have eb:bOf F base S k=b:=by
   unfold bOf;rw[←e2];have:aa.get (List.set (S k).2 (base+F.idxOf k) (.y7 b)) (base+F.idxOf k)=some b:=mQ Y7.lt;rw[this]
  refine⟨o,mk,ho,Y7,by rw[eb];exact hb,e1.symm,?_⟩
  rw[←e2];unfold rl;rw[eb];rfl
 ·simp[dB,hg] at hw
theorem rz.Fk (h:rz P C F base ops S val){k:Nat}(hk:F.contains k=true): ∀m,m≤k→bX (S m).2 (base+F.idxOf k):=by
 intro m;induction m with
 |zero=>intro _;exact h.free k hk
 |succ m ih=>
  intro hm;have hfm:=ih (by omega)
  obtain⟨ok,eA,_⟩:=h.lay k hk;have hkl:k<ops.size:=(Array.getElem?_eq_some_iff.1 eA).1;have ho:ops[m]? =some ops[m]:=Array.getElem?_eq_getElem (by omega)
  rcases(h.st m _ ho).2 with⟨hw,hx⟩|⟨_,_,hx⟩
  ·rw[←tV] at hx;exact(tW (b:=default) h.hole (λhc=>Fh hc (by omega)) hfm _ _ hx).1
  ·rw[hx];exact hfm
theorem rz.comes (h:rz P C F base ops S val){i:Nat}{o:Oper}(ho:ops[i]? =some o)(hi:L i=false)(hLi:L' i=true)(MI: ∀k,k≠i→L' k=L k)(Dy: ∀k,k<i→L k=false→uY (Region.before ops) k i=false)(Gx: ∀k,L k=true→uY (Region.before ops) i k=false):
  (∀t∈o.looksAt ops,lZ ops S val L ops.size t=(S i).1.get t)∧(∀t,o.dst=some t→∀k,i<k→k<ops.size→jn ops k=some t→L k=false)∧
  (dB ops o (S i).1=some true→fZ P C F base i (S i).1.get (nF P F base ops S L ops.size) o=some (val i,nF P F base ops S L' ops.size))∧
  (fg P ops S i=false→nF P F base ops S L' ops.size=nF P F base ops S L ops.size):=by
 have pd:i<ops.size:=(Array.getElem?_eq_some_iff.1 ho).1;have low: ∀(k:Nat) (x:Oper),k<i→ops[k]? =some x→L k=false→x.apart ops o=true∧(cls P x.op= .y8→cls P o.op= .y8→F.contains i=true):=by
  intro k x hk hx hl;have hp:=h.pair k i hk pd;unfold Bb at hp;rw[hx,ho] at hp;simp only[Dy k hk hl,Bool.false_or,Bool.and_eq_true] at hp;obtain⟨h1,h2⟩:=hp;refine⟨h1,λa b=>?_⟩
  rw[a,b] at h2;simpa using h2
 have high: ∀(k:Nat) (y:Oper),i<k→ops[k]? =some y→L k=true→o.apart ops y=true∧(cls P o.op= .y8→cls P y.op= .y8→F.contains k=true):=by
  intro k y hk hy hl;have Uz:k<ops.size:=(Array.getElem?_eq_some_iff.1 hy).1;have hp:=h.pair i k hk Uz;unfold Bb at hp;rw[hy,ho] at hp;simp only[Gx k hl,Bool.false_or,Bool.and_eq_true] at hp;obtain⟨h1,h2⟩:=hp;refine⟨h1,λa b=>?_⟩
  rw[a,b] at h2;simpa using h2
 have DB: ∀(k:Nat),fg P ops S k=true→∃x,ops[k]? =some x∧cls P x.op= .y8∧dB ops x (S k).1=some true:=by
  intro k hk;unfold fg at hk;split at hk
  ·rename_i x hx;simp only[Bool.and_eq_true,decide_eq_true_eq,beq_iff_eq] at hk;exact⟨x,hx,hk.1,hk.2⟩
  ·cases hk
 have quiet:fg P ops S i=false→nF P F base ops S L' ops.size=nF P F base ops S L ops.size:=λhe=>
  Dz λk _ hk=>MI k (by rintro rfl;rw[he] at hk;cases hk)
 obtain⟨m,hmn,Mr,I2,SZ⟩:=ME (P:=P) (base:=base) (ops:=ops) (S:=S) (L:=L) h.P7 ops.size;have down: ∀a,m≤a→a<i→(fg P ops S a=false∨L a=true)→bN F base S L (S a).2 a (ops.size-a)=bN F base S L (S (a+1)).2 (a+1) (ops.size-(a+1)):=by
  intro a h1 h2 h3;rw[show ops.size-a=(ops.size-(a+1))+1 by omega,rp]
  by_cases he:fg P ops S a=true
  ·have hl:L a=true:=by
    rcases h3 with h3|h3
    ·rw[he] at h3;cases h3
    ·exact h3
   have hf:=SZ a h1 (by omega) hl he
   rw[if_pos ⟨hl,hf⟩];obtain⟨_,_,_,_,_,_,e⟩:=h.Fj a hf;rw[e]
  ·have he':fg P ops S a=false:=by simpa using he
   rw[if_neg (λx=>he (h.P7 a x.2)),h.same a (by omega) he']
 refine⟨?_,?_,?_,quiet⟩
 ·intro t ht;rw[Dx (i:=i) (by omega),Gv (P:=P) (C:=C) (F:=F) (base:=base) h.st (by omega)]
  ·intro k hk hd;cases hl:L k with
   |true=>rfl
   |false=>
    have Uz:k<ops.size:=by omega
    have hx:ops[k]? =some ops[k]:=Array.getElem?_eq_getElem Uz;obtain⟨h1,_,_⟩:=Oper.apart_spec (low k _ hk hx hl).1;exact absurd ht (h1 t (by simpa[jn,hx] using hd))
  ·intro k hk Uz hd;by_cases e:k=i
   ·subst e;exact hi
   ·cases hl:L k with
    |false=>rfl
    |true=>
     have hy:ops[k]? =some ops[k]:=Array.getElem?_eq_getElem Uz;obtain⟨_,_,h3⟩:=Oper.apart_spec (high k _ (by omega) hy hl).1
     exact absurd ht (h3 t (by simpa[jn,hy] using hd))
 ·intro t ht k hk Uz hd;cases hl:L k with
  |false=>rfl
  |true=>
   have hy:ops[k]? =some ops[k]:=Array.getElem?_eq_getElem Uz;obtain⟨_,h2,_⟩:=Oper.apart_spec (high k _ hk hy hl).1;exact absurd (by simpa[jn,hy] using hd) (h2 t ht)
 ·intro hw;have mj:=h.st i o ho;have hx:du P C F base i (S i).1 (S i).2 o=some (val i,(S (i+1)).2):=by
   rcases mj.2 with⟨_,hx⟩|⟨uA,_,_⟩
   ·exact hx
   ·rw[hw] at uA;cases uA
  have Dk:=hx;rw[←tV] at Dk;have abn:cls P o.op= .y8→m≤i:=by
   intro rA;rcases I2 with rfl|⟨p,rfl,EY,I3,hp3⟩
   ·omega
   ·have dy:p≠i:=by rintro rfl;rw[hi] at EY;cases EY
    have hpn:p<ops.size:=by omega
    obtain⟨y,hy,Y8,_⟩:=DB p I3;by_cases gB:i<p
    ·have:=(high p y gB hy EY).2 rA Y8
     rw[hp3] at this;cases this
    ·omega
  by_cases rA:cls P o.op= .y8
  ·have PE:fg P ops S i=true:=by simp[fg,ho,rA,hw]
   have hmi:=abn rA;by_cases hF:F.contains i=true
   ·
    obtain⟨o',mk,LQ,kO,hb,hv,_⟩:=h.Fj i hF;rw[ho] at LQ;cases LQ;have UA:bX (nF P F base ops S L ops.size) (base+F.idxOf i):=by
     rw[Mr];exact mR hF (h.Fk hF m hmi) _ (λk _ _ hk e=>by subst e;rw[hi] at hk;cases hk)
    have I4:nF P F base ops S L' ops.size=rl F base S i (nF P F base ops S L ops.size):=by
     have key: ∀n,i<n→nF P F base ops S L' n=rl F base S i (nF P F base ops S L n)∨∃p,i<p∧p<n∧L p=true∧fg P ops S p=true∧F.contains p=false:=by
      intro n;induction n with
      |zero=>intro h;omega
      |succ n ih=>
       intro hn;by_cases e:i=n
       ·subst e;left
        rw[nF,nF,if_pos ⟨hLi,PE⟩,if_pos hF,if_neg (by rw[hi];simp),Dz (λk hk _=>MI k (by omega))]
       ·rcases ih (by omega) with ih|⟨p,a1,a2,a3⟩
        ·rw[nF,nF,MI n (Ne.symm e)];by_cases c:L n=true∧fg P ops S n=true
         ·rw[if_pos c,if_pos c];by_cases hFn:F.contains n=true
          ·left
           rw[if_pos hFn,if_pos hFn,ih,Al hFn (Ne.symm e)]
          ·right
           exact⟨n,by omega,by omega,c.1,c.2,by simpa using hFn⟩
         ·rw[if_neg c,if_neg c];exact .inl ih
        ·exact .inr ⟨p,a1,by omega,a3⟩
     rcases key ops.size pd with e|⟨p,a1,a2,a3,a4,a5⟩
     ·exact e
     ·obtain⟨y,hy,Y8,_⟩:=DB p a4;have:=(high p y a1 hy a3).2 rA Y8
      rw[a5] at this;cases this
    unfold fZ;rw[if_pos hF];unfold pT;have abo:(nF P F base ops S L ops.size)[base+F.idxOf i]? =some .hole:=UA;rw[abo];simp only[fY,hb,hv,I4];rfl
   ·
    have hF':F.contains i=false:=by simpa using hF
    have P8: ∀q,q<i→fg P ops S q=true→L q=true:=by
     intro q hq he;obtain⟨x,PG,hx2,_⟩:=DB q he;cases hl:L q with
     |true=>rfl
     |false=>exact absurd ((low q x hq PG hl).2 hx2 rA) hF
    have hS: ∀d a,a+d=i→m≤a→bN F base S L (S a).2 a (ops.size-a)=bN F base S L (S i).2 i (ops.size-i):=by
     intro d;induction d with
     |zero=>
      intro a e _;have:a=i:=by omega
      subst this;rfl
     |succ d ih=>
      intro a e hma;rw[down a hma (by omega) (by
       cases he:fg P ops S a with
       |false=>exact .inl rfl
       |true=>exact .inr (P8 a (by omega) he))]
      exact ih (a+1) (by omega) (by omega)
    have hh:nF P F base ops S L ops.size=bN F base S L (S i).2 (i+1) (ops.size-(i+1)):=by
     rw[Mr,hS (i-m) m (by omega) (Nat.le_refl _),show ops.size-i=(ops.size-(i+1))+1 by omega,rp,if_neg (λx=>hF x.2)]
    have hh':nF P F base ops S L' ops.size=bN F base S L (S (i+1)).2 (i+1) (ops.size-(i+1)):=by
     have hi1:nF P F base ops S L' (i+1)=(S (i+1)).2:=by
      rw[nF,if_pos ⟨hLi,PE⟩,if_neg hF]
     have:=DA (base:=base) (L:=L') h.P7 (m:=i+1) (ops.size-(i+1)) (λk a b c e=>by
      rw[MI k (by omega)] at c
      obtain⟨y,hy,Y8,_⟩:=DB k e;exact(high k y (by omega) hy c).2 rA Y8)
     rw[show i+1+(ops.size-(i+1))=ops.size by omega,hi1] at this
     rw[this];exact rq _ (λk a _=>MI k (by omega))
    rw[hh,hh'];refine BA (f:=λX=>fZ P C F base i (S i).1.get X o) (λk hk hki Y b=>tW h.hole (λhc=>by rw[hF'] at hc;cases hc)) Dk _ (λk hk hkF=>h.Fk hkF i (by omega))
  ·have PE:fg P ops S i=false:=by simp[fg,ho,rA]
   have hnF:F.contains i=false:=by
    cases hc:F.contains i with
    |false=>rfl
    |true=>
     have:=h.P7 i hc
     rw[PE] at this;cases this
   have nG:=h.same i pd PE;rw[quiet PE];have hop: ∀H2,fZ P C F base i (S i).1.get H2 o=gO P (hY (S i).1.get) H2 o.op:=by
    intro H2;unfold fZ;rw[if_neg (by rw[hnF];simp)]
    unfold jF;split
    ·rename_i e;rw[e] at rA;exact absurd rfl rA
    ·rfl
   rw[hop] at Dk ⊢;have MH:=h.Y1 i o ho;cases Df:cls P o.op with
   |y8=>exact absurd Df rA
   |bad=>exact absurd Df MH
   |pure=>exact MD Df Dk _
   |read=>
    have hu:(gO P (n3 (S i).1) (S i).2 o.op).map Prod.fst=some (val i):=by rw[←fY,Dk];rfl
    have uB: ∀H2,(gO P (n3 (S i).1) H2 o.op).map Prod.fst=some (val i)→gO P (hY (S i).1.get) H2 o.op=some (val i,H2):=by
     intro H2 h2;rw[Option.map_eq_some_iff] at h2;obtain⟨⟨u,H3⟩,h3,e⟩:=h2;cases e;rw[fY,h3];rw[Aj (P:=P) (by rw[Df];simp) (by rw[Df];simp) h3]
    refine uB _ ?_;have cf: ∀(e:Nat) (y:Oper),ops[e]? =some y→fg P ops S e=true→uY (Region.before ops) i e=false→uY (Region.before ops) e i=false→
      (gO P (n3 (S i).1) (S e).2 o.op).map Prod.fst=some (val i)∧(gO P (n3 (S i).1) (S (e+1)).2 o.op).map Prod.fst=some (val i):=by
     intro e y hy Y9 h1 h2;obtain⟨x,PG,hx2,Ym⟩:=DB e Y9;rw[hy] at PG;cases PG;obtain⟨c1,c2⟩:=h.abm i e o y ho hy Df hx2 h1 h2 hw Y9;rw[hu] at c1 c2;exact⟨c1.symm,c2.symm⟩
    have Za: ∀q,i≤q→uY (Region.before ops) q i=false:=by
     intro q hq;cases hb:uY (Region.before ops) q i with
     |false=>rfl
     |true=>have:=MC h.MG i q hb;omega
    have UB: ∀q,q≤i→uY (Region.before ops) i q=false:=by
     intro q hq;cases hb:uY (Region.before ops) i q with
     |false=>rfl
     |true=>have:=MC h.MG q i hb;omega
    have told: ∀(a d:Nat),(∀k,a≤k→k<a+d→F.contains k=true→bX (S a).2 (base+F.idxOf k))→(gO P (n3 (S i).1) (S a).2 o.op).map Prod.fst=some (val i)→
      (gO P (n3 (S i).1) (bN F base S L (S a).2 a d) o.op).map Prod.fst=some (val i):=by
     intro a d kO ha;have ha2:gO P (n3 (S i).1) (S a).2 o.op=some (val i,(S a).2):=by have:=uB _ ha;rwa [fY] at this
     have key: ∀d',d'≤d→gO P (n3 (S i).1) (bN F base S L (S a).2 a d') o.op=some (val i,bN F base S L (S a).2 a d'):=by
      intro d';induction d' with
      |zero=>intro _;exact ha2
      |succ d' ih=>
       intro hd;have:=ih (by omega)
       rw[bN];by_cases c:L (a+d')=true∧F.contains (a+d')=true
       ·rw[if_pos c];have UA:bX (bN F base S L (S a).2 a d') (base+F.idxOf (a+d')):=mR c.2 (kO _ (by omega) (by omega) c.2) d' (λk h1 h2 _=>by omega)
        exact(pc UA _ _ this).2
       ·rw[if_neg c];exact this
     rw[key d (Nat.le_refl _)];rfl
    have frs: ∀a,∀k,a≤k→k<a+(ops.size-a)→F.contains k=true→bX (S a).2 (base+F.idxOf k):=λa k h1 _ hk=>h.Fk hk a h1
    rw[Mr];by_cases hmi:m≤i
    ·
     have A: ∀d a,a+d=i→m≤a→(gO P (n3 (S i).1) (bN F base S L (S a).2 a (ops.size-a)) o.op).map Prod.fst=some (val i):=by
      intro d;induction d with
      |zero=>
       intro a e _;have:a=i:=by omega
       subst this;exact told a _ (frs a) hu
      |succ d ih=>
       intro a e hma;by_cases hd:fg P ops S a=false∨L a=true
       ·rw[down a hma (by omega) hd];exact ih (a+1) (by omega) (by omega)
       ·have he:fg P ops S a=true:=by
         cases hh:fg P ops S a with
         |true=>rfl
         |false=>exact absurd (.inl hh) hd
        have hl:L a=false:=by
         cases hh:L a with
         |false=>rfl
         |true=>exact absurd (.inr hh) hd
        exact told a _ (frs a) (cf a _ (Array.getElem?_eq_getElem (by omega)) he (UB a (by omega)) (Dy a (by omega) hl)).1
     exact A (i-m) m (by omega) (Nat.le_refl _)
    ·rcases I2 with rfl|⟨p,rfl,EY,I3,hp3⟩
     ·omega
     ·have hpi:i≤p:=by omega
      exact told (p+1) _ (frs (p+1)) (cf p _ (Array.getElem?_eq_getElem (by omega)) I3 (Gx p EY) (Za p hpi)).2
structure Inv (P:Program) (F:List Nat) (base:Nat) (ops:Array Oper) (S:Nat→Env×aa) (val:Nat→Value) (N B:Nat) (a0:Act) (w0:World) (μ0:Mu) (bB:Array Bool) (a:Act) (w:World) (μ:Mu):Prop where
 size:bB.size=ops.size
 shut: ∀(j:Nat) (o:Oper),ops[j]? =some o→bB.getD j false=true→∀e∈o.after,Region.binds .any e=true→bB.getD e.on false=true
 env:gP μ (lZ ops S val (λk=>bB.getD k false) ops.size) a.tmps
 sim:cJ P μ (nF P F base ops S (λk=>bB.getD k false) ops.size) w B
 tmps:N≤a.tmps.size
 S0:a.tmps.size=a0.tmps.size
 defers:a.defers=a0.defers
 below:eN B w0 w
 le:μ0.le μ
theorem zA {ro:Option Nat}{n:Nat}{C:ae}{F:List Nat}{base k:Nat}{E:Nat→Value}{o:Oper}{v:Value}{a:Act}{K:Act→World→Prop}{Q:Exit→Act→World→Prop}(hC:zx P B C)(hS:cJ P μ H w B)(hE:gP μ E a.tmps)(Gw:F.contains k=true→sJ o=true)(h:fZ P C F base k E H o=some (v,H'))(hK: ∀v' μ' w',μ.le μ'→VR μ' v v'→cJ P μ' H' w' B→eN B w w'→K (a.put o.dst v') w'):o.wpIn (FR ro) n P a w K Q:=by
 unfold fZ at h;split at h
 ·rename_i hc;have hnd: ∀c,o.op≠ .defer c:=by
   intro c e;have:=Gw hc
   unfold sJ at this;rw[e] at this;simp at this
  refine⟨λ_ _=>trivial,?_⟩
  rw[Oper.semAt_eq _ _ _ hnd];obtain⟨v',μ',w',hr,hle,hv,sN,hB⟩:=Dv (o:=o) hS hE.eval h;rcases hr with hr|⟨hr,rfl⟩
  ·rw[hr];exact hK v' μ' w' hle hv sN hB
  ·rw[hr];exact hK undef μ' w' hle hv sN hB
 ·exact rk hC hS hE h hK
theorem cJ.cB (h:cJ P μ H w B)(n:Nat):cJ P μ (H.cB n) w B:=by
 have hg: ∀{i:Nat} {b:eM},(H.cB n).get i=some b→H.get i=some b:=by
  intro i b hb;rw[aa.qP] at hb ⊢;unfold aa.cB at hb;by_cases e:i<H.length
  ·rwa [List.getElem?_append_left e] at hb
  ·rw[List.getElem?_append_right (by omega),List.getElem?_replicate] at hb
   split at hb<;>cases hb
 have ho: ∀{i:Nat} {b:dA},(H.cB n).dT i=some b→H.dT i=some b:=by
  intro i b hb;rw[aa.qQ] at hb ⊢;unfold aa.cB at hb;by_cases e:i<H.length
  ·rwa [List.getElem?_append_left e] at hb
  ·rw[List.getElem?_append_right (by omega),List.getElem?_replicate] at hb
   split at hb<;>cases hb
 refine⟨h.base,λi b hb=>h.ok i b (hg hb),λi hi=>h.Bf i (by simp[aa.cB] at hi;omega),λi j b c l m hb hc=>h.inj i j b c l m (hg hb) (hg hc),λi b l hb=>h.own i b l (hg hb),
  h.dT.keep μ.le_refl (λ_ _=>ho) (λ_ _ h _=>h),λi hi=>?_⟩
 by_cases e:i<H.length
 ·unfold aa.cB at hi;rw[List.getElem?_append_left e] at hi;exact h.vN i hi
 ·exact h.Bf i (by omega)
theorem Ao {bB:Array Bool}{i:Nat}(hi:i∈Region.ready .any ops bB)(hs:bB.size=ops.size):
  ∃o,ops[i]? =some o∧bB.getD i false=false∧∀e∈o.after,Region.binds .any e=true→bB.getD e.on false=true:=by
 unfold Region.ready at hi;rw[List.mem_filter] at hi;obtain⟨h1,h2⟩:=hi;have pd:=List.mem_range.1 h1;simp only[Bool.and_eq_true,Bool.not_eq_true'] at h2;refine⟨ops[i],Array.getElem?_eq_getElem pd,?_,?_⟩
 ·have:=h2.1
  rw[Array.getD_eq_getD_getElem?,Array.getElem?_eq_getElem (by omega)] at this ⊢
  exact this
 ·intro e he hb;have h3:=h2.2;rw[Array.getElem?_eq_getElem pd] at h3;simp only[Option.map_some,Option.getD_some] at h3;have:=Array.all_eq_true_iff_forall_mem.1 h3 e he
  simpa[hb] using this
theorem I5 {bB:Array Bool}(he:uZ ops=true)(hs:bB.size=ops.size)(h:Region.ready .any ops bB=[]): ∀k,k<ops.size→bB.getD k false=true:=by
 intro k;induction k using Nat.strongRecOn with
 |_ k ih=>
  intro hk;cases hl:bB.getD k false with
  |true=>rfl
  |false=>
   exfalso
   have hm:k∈Region.ready .any ops bB:=by
    unfold Region.ready;rw[List.mem_filter];refine⟨List.mem_range.2 hk,?_⟩;simp only[Bool.and_eq_true,Bool.not_eq_true'];constructor
    ·rw[Array.getD_eq_getD_getElem?,Array.getElem?_eq_getElem (by omega)] at hl ⊢
     exact hl
    ·rw[Array.getElem?_eq_getElem hk];simp only[Option.map_some,Option.getD_some];rw[Array.all_eq_true_iff_forall_mem];intro e hem;have h1:=List.all_eq_true.1 he k (List.mem_range.2 hk);rw[Array.getElem?_eq_getElem hk] at h1;have h2:=Array.all_eq_true_iff_forall_mem.1 h1 e hem;cases hb:Region.binds .any e with
     |false=>rfl
     |true=>
      have h3:e.on<k:=by simpa[hb] using h2
      rw[ih e.on h3 (by omega)];rfl
   rw[h] at hm;cases hm
theorem Fl {ro:Option Nat}{n:Nat}{N:Nat}{Q:Exit→Act→World→Prop}{a0:Act}{w0:World}{μ0:Mu}(hC:zx P B C)(hp:rz P C F base ops S val)(hd: ∀o∈ops.toList,∀d,o.dst=some d→d<N)(hQ: ∀a w μ,μ0.le μ→gP μ (S ops.size).1.get a.tmps→a.defers=a0.defers→a.tmps.size=a0.tmps.size→cJ P μ (S ops.size).2 w B→eN B w0 w→Q .normal a w):
  ∀(fuel:Nat) (bB:Array Bool) (a:Act) (w:World) (μ:Mu),oB (λk=>bB.getD k false) ops.size≤fuel→Inv P F base ops S val N B a0 w0 μ0 bB a w μ→wpAnyIn (FR ro) n P .any ops Q fuel bB a w:=by
 have fin: ∀(bB:Array Bool) (a:Act) (w:World) (μ:Mu),(∀k,k<ops.size→bB.getD k false=true)→Inv P F base ops S val N B a0 w0 μ0 bB a w μ→Q .normal a w:=by
  intro bB a w μ jk h;refine hQ a w μ h.le ?_ h.defers h.S0 ?_ h.below
  ·intro t;have:=h.env t
   rw[Gv (P:=P) (C:=C) (F:=F) (base:=base) hp.st (Nat.le_refl _) (λk hk _=>jk k hk)] at this
   exact this
  ·have:=h.sim
   rw[Uw (λk hk=>hp.same k hk) (λk _ hF _=>by obtain⟨_,_,_,_,_,_,e⟩:=hp.Fj k hF;exact e) (λk hk _=>jk k hk)] at this
   exact this
 intro fuel;induction fuel with
 |zero=>
  intro bB a w μ hc h;have jk:=MF (Nat.le_zero.1 hc);refine⟨?_,fin bB a w μ jk h⟩;cases hr:Region.ready .any ops bB with
  |nil=>rfl
  |cons i r=>
   exfalso
   obtain⟨o,ho,hl,_⟩:=Ao (ops:=ops) (i:=i) (by rw[hr];simp) h.size
   rw[jk i (Array.getElem?_eq_some_iff.1 ho).1] at hl;cases hl
 |succ fuel ih=>
  intro bB a w μ hc h;refine⟨λhr=>fin bB a w μ (I5 hp.MG h.size hr) h,?_⟩
  intro i hi;obtain⟨o,ho,hl,abp⟩:=Ao hi h.size;have pd:i<ops.size:=(Array.getElem?_eq_some_iff.1 ho).1;have abq:i<bB.size:=by rw[h.size];exact pd
  have uC: ∀k,(bB.setIfInBounds i true).getD k false=if k=i then true else bB.getD k false:=by
   intro k;rw[Array.getD_eq_getD_getElem?,Array.getElem?_setIfInBounds];by_cases e:i=k
   ·subst e;simp[abq]
   ·rw[if_neg e,if_neg (Ne.symm e),Array.getD_eq_getD_getElem?]
  have S9: ∀(j:Nat) (o':Oper),ops[j]? =some o'→(bB.setIfInBounds i true).getD j false=true→∀e∈o'.after,Region.binds .any e=true→(bB.setIfInBounds i true).getD e.on false=true:=by
   intro j o' LQ hj e he hb;rw[uC] at hj ⊢;by_cases e1:e.on=i
   ·rw[if_pos e1]
   ·rw[if_neg e1];by_cases e2:j=i
    ·subst e2;rw[ho] at LQ;cases LQ;exact abp e he hb
    ·rw[if_neg e2] at hj;exact h.shut j o' LQ hj e he hb
  have Dy: ∀k,k<i→bB.getD k false=false→uY (Region.before ops) k i=false:=by
   intro k hk hlk;cases hb:uY (Region.before ops) k i with
   |false=>rfl
   |true=>
    have:=wA (L:=λk=>(bB.setIfInBounds i true).getD k false) S9 i (by show(bB.setIfInBounds i true).getD i false=true;rw[uC,if_pos rfl]) k hb
    simp only[uC,if_neg (show k≠i by omega),hlk] at this
    cases this
  have Gx: ∀k,bB.getD k false=true→uY (Region.before ops) i k=false:=by
   intro k hk;cases hb:uY (Region.before ops) i k with
   |false=>rfl
   |true=>
    have:=wA (L:=λk=>bB.getD k false) h.shut k hk i hb
    simp only[hl] at this;cases this
  obtain⟨c1,c2,c3,c4⟩:=hp.comes (L:=λk=>bB.getD k false) (L':=λk=>(bB.setIfInBounds i true).getD k false) ho hl (by simp[uC]) (λk hk=>by simp[uC,hk]) Dy Gx
  have UC: ∀t,o.dst=some t→t<a.tmps.size:=λt ht=>Nat.lt_of_lt_of_le (hd o (by simpa using Array.mem_of_getElem? ho) t ht) h.tmps
  have Us:jn ops i=o.dst:=by simp[jn,ho]
  have abr:oB (λk=>(bB.setIfInBounds i true).getD k false) ops.size≤fuel:=by
   have:=Uy (L:=λk=>bB.getD k false) (L':=λk=>(bB.setIfInBounds i true).getD k false) pd hl (by simp[uC]) (λk hk=>by simp[uC,hk])
   omega
  have hfe: ∀t,lZ ops S val (λk=>(bB.setIfInBounds i true).getD k false) ops.size t=if o.dst=some t then val i else lZ ops S val (λk=>bB.getD k false) ops.size t:=by
   intro t;rw[P6 (L:=λk=>bB.getD k false) (L':=λk=>(bB.setIfInBounds i true).getD k false) pd (by simp[uC]) (λk hk=>by simp[uC,hk]) (λe k h1 h2 h3=>c2 t (by rw[←Us];exact e) k h1 h2 h3),Us]
  have mj:=hp.st i o ho;have haw:qx ops o (lZ ops S val (λk=>bB.getD k false) ops.size)=dB ops o (S i).1:=by
   rw[←qy];exact Bz c1
  have next: ∀(v':Value) (μ':Mu) (w':World),μ.le μ'→VR μ' (val i) v'→cJ P μ' (nF P F base ops S (λk=>(bB.setIfInBounds i true).getD k false) ops.size) w' B→eN B w w'→
    wpAnyIn (FR ro) n P .any ops Q fuel (bB.setIfInBounds i true) (a.put o.dst v') w':=by
   intro v' μ' w' hle hv sN hB;refine ih _ _ _ μ' abr ⟨by simp[h.size],S9,?_,sN,by rw[mB];exact h.tmps,by rw[mB];exact h.S0,by rw[put_defers];exact h.defers,h.below.trans hB,Mu.le_trans h.le hle⟩
   have:=gP.put (h.env.mono hle) hv o.dst UC
   intro t;rw[hfe];exact this t
  unfold wpOpIn;rw[ho];simp only;rcases mj.2 with⟨hw,_⟩|⟨hw,oC,_⟩
  ·rw[lL h.env (by rw[haw];exact hw),if_pos rfl]
   have hx:=c3 hw;rw[←zz c1] at hx;refine zA hC h.sim h.env (λhc=>?_) hx ?_
   ·obtain⟨o',LQ,hf⟩:=hp.lay i hc;rw[ho] at LQ;cases LQ;exact hf
   ·intro v' μ' w' hle hv sN hB;exact next v' μ' w' hle hv sN hB
  ·rw[lL h.env (by rw[haw];exact hw)]
   simp only[Bool.false_eq_true,if_false];have PE:fg P ops S i=false:=by simp[fg,ho,hw]
   refine⟨λ_ _=>trivial,?_⟩
   refine next undef μ w μ.le_refl (by rw[oC];exact cT.tuple (c:=#[]) (c':=#[]) .nil) ?_ (eN.refl _ _)
   rw[c4 PE];exact h.sim
theorem DC {ro:Option Nat}{n:Nat}{N id:Nat}{E E':Env}{Q:Exit→Act→World→Prop}{a:Act}(hC:zx P B C)(hm:P.follows .mixedOrders=true)(eA:oh P N ops true=true)(dF:eV P C ops true E H=some (E',H'))(hN:N≤a.tmps.size)(hS:cJ P μ H w B)(hE:gP μ E.get a.tmps)(hQ: ∀a' w' μ',μ.le μ'→gP μ' E'.get a'.tmps→a'.defers=a.defers→a'.tmps.size=a.tmps.size→cJ P μ' H' w' B→eN B w w'→Q .normal a' w'):(Code.region id ops true).wpIn (FR ro) n P Q a w:=by
 simp only[oh,Bool.and_eq_true,Bool.not_true,Bool.false_or,List.all_eq_true] at eA;obtain⟨UC,Zb⟩:=eA;obtain⟨F,base,S,val,hp,h0,hn⟩:=rz.of (P:=P) (C:=C) hC.hole Zb dF;refine wpIn_region_any hm ?_;have MJ: ∀k,(Array.replicate ops.size false).getD k false=false:=by
  intro k;rw[Array.getD_eq_getD_getElem?,Array.getElem?_replicate];split<;>rfl
 have UD:eN B w {w with drawn:=w.drawn+1}:=(eN.refl B w).drew
 refine Fl (a0:=a) (w0:=w) (μ0:=μ) hC hp (N:=N) ?_ ?_ ops.size _ a _ μ ?_ ⟨by simp,?_,?_,?_,hN,rfl,rfl,UD,μ.le_refl⟩
 ·intro o ho d hd;have:=UC o ho
  rw[hd] at this;simpa using this
 ·intro a' w' μ' h1 h2 h3 h4 h5 h6;rw[hn] at h2 h5;exact hQ a' w' μ' h1 h2 h3 h4 h5 h6
 ·have: ∀m,oB (λk=>(Array.replicate ops.size false).getD k false) m≤m:=by
   intro m;induction m with
   |zero=>exact Nat.le_refl _
   |succ m ih=>rw[oB];split<;>omega
  exact this _
 ·intro j o _ hj;rw[MJ] at hj;cases hj
 ·intro t;rw[Dx (i:=0) (by omega) (λk _ _ _=>MJ k)]
  show VR μ ((S 0).1.get t) _
  rw[h0];exact hE t
 ·have e: ∀n,nF P F base ops S (λk=>(Array.replicate ops.size false).getD k false) n=(S 0).2:=by
   intro n;induction n with
   |zero=>rfl
   |succ n ih=>rw[nF,if_neg (by rw[MJ];simp),ih]
  rw[e,h0];exact(hS.cB _).heap rfl
end Go.Proofs.YtgfgglponbmgmaaGreatA.Am
end
