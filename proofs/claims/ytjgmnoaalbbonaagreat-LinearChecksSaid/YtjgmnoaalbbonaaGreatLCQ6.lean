/- Texts of the proof of linearChecks_holds, put together by a small program of ours (names shortened, spaces taken out). No condition beyond the given statement. -/
import Derived.Test.YtjgmnoaalbbonaaGreatLCQ4
import Derived.Test.YtjgmnoaalbbonaaGreatLCQ5
set_option linter.unusedVariables false
set_option linter.unusedSimpArgs false
set_option linter.unnecessarySimpa false
noncomputable section
section
namespace Go.Proofs.YtjgmnoaalbbonaaGreatA.Am
open Go.RowKit (Below)
variable {P:Program} {μ:Mu} {H H':ae} {w:World} {B:Nat}
theorem pd {i:Nat}{b:eY}(h:i<H.length):(H.lay i b).get i=some b:=ae.fg h
theorem Jl {i j:Nat}{b:eY}(h:j≠i):(H.lay i b).get j=H.get j:=ae.bt h
theorem He {i j:Nat}{b:eY}{o:dq}(h:(H.lay i b).db j=some o):H.db j=some o:=by
 by_cases e:j=i
 ·subst e;have hl:=ae.fi h;rw[jK] at hl;rw[ae.sV (pd hl)] at h;cases h
 ·rw[←h];exact(ae.kN (List.getElem?_set_ne (Ne.symm e))).symm
theorem da.fill {i:Nat}(h:da P μ H w B)(hf:cX H i)(cs:List Value)(ty t:TypeId)(es:Nat)(dg:Array Value)(n:Nat)(hn:n=dg.size)(Qo:cs.all aD=true)(hle:cs.length≤dg.size)(hv:dR μ cs (dg.toList.take cs.length))(Qp: ∀(k:Nat) (v:Value),cs.length≤k→dg[k]? =some v→cF v=true):
  μ.le (μ.up i ⟨w.heap.size,0,n,es⟩)∧da P (μ.up i ⟨w.heap.size,0,n,es⟩) (H.lay i ⟨cs,t,es,false⟩) (w.alloc (.cells dg ty)) B:=by
 subst hn;have kP:=Mu.Dq (l:=⟨w.heap.size,0,dg.size,es⟩) (h.yl i hf);have old: ∀{j:Nat} {c:eY},(H.lay i ⟨cs,t,es,false⟩).get j=some c→(j=i∧c=⟨cs,t,es,false⟩)∨(j≠i∧H.get j=some c):=by
  intro j c hc;by_cases e:j=i
  ·subst e;rw[pd hf.lt] at hc;cases hc;exact .inl ⟨rfl,rfl⟩
  ·rw[Jl e] at hc;exact .inr ⟨e,hc⟩
 refine⟨kP,by have:=h.base;simp;omega,?_,?_,?_,?_,h.db.keep kP (λ_ _=>He) (λb x hb _=>(Go.RowKit.Below.heap_alloc _ _ _ (Array.getElem?_eq_some_iff.1 hb).1).trans hb),λk hk=>by obtain⟨h1,h2⟩:=ud (by simp) hk;rw[Mu.dc h2];exact h.yl k h1⟩
 ·intro j b hb;rcases old hb with⟨rfl,rfl⟩|⟨e,hb⟩
  ·have lD:(w.heap.push (.cells dg ty (0,0)))[w.heap.size]? =some (.cells dg ty (0,0)):=by simp
   refine⟨_,Mu.aQ,rfl,Qo,(λ_ P7 nL UO h2 k v hk xF=>?_),dg,ty,(0,0),?_,rfl,λ_=>rfl,by simpa using hle,?_⟩
   ·have Nj:(w.heap.push (.cells dg ty (0,0)))[w.heap.size]? =some (.cells P7 nL UO):=h2;rw[lD] at Nj;cases Nj;exact Qp k v (by simpa using hk) xF
   ·show(w.heap.push _)[w.heap.size]? =_;simp
   ·simpa using hv.mono kP
  ·obtain⟨l,h1,h2⟩:=h.ok j b hb;refine⟨l,kP _ _ h1,(h2.mono kP).heap ?_⟩;exact Go.RowKit.Below.heap_alloc _ _ _ h2.lt
 ·intro j hj;rw[jK] at hj;have:=hf.lt
  rw[Mu.dc (by omega)];exact h.Cv j hj
 ·intro j k b c l m hb hc hl hm Ek fQ;rcases old hb with⟨rfl,rfl⟩|⟨e,QC⟩<;>rcases old hc with⟨rfl,rfl⟩|⟨e2,Uj⟩
  ·exact absurd rfl Ek
  ·rw[Mu.aQ] at hl;cases hl;rw[Mu.dc e2] at hm;obtain⟨m',em,k'⟩:=h.ok _ _ Uj;rw[hm] at em;cases em;have:=k'.lt;show w.heap.size≠m.b;omega
  ·rw[Mu.aQ] at hm;cases hm;rw[Mu.dc e] at hl;obtain⟨l',em,k'⟩:=h.ok _ _ QC;rw[hl] at em;cases em;have:=k'.lt;show l.b≠w.heap.size;omega
  ·rw[Mu.dc e] at hl;rw[Mu.dc e2] at hm;exact h.inj j k b c l m QC Uj hl hm Ek fQ
 ·intro j b l hb fQ hl;rcases old hb with⟨rfl,rfl⟩|⟨e,hb⟩
  ·rw[Mu.aQ] at hl;cases hl;exact h.base
  ·rw[Mu.dc e] at hl;exact h.own j b l hb fQ hl
theorem xM {i0:Nat}{v0:Value}{H0:ae}{t:TypeId}{l c l' c':Value}(hS:da P μ H w B)(nN:cX H i0)(hl:VR μ l l')(hc:VR μ c c')(h:il P t l c []=some (v0,H0)):
  ∃n m b,v0= .slice (some ⟨0,0,none⟩) n m∧H0=[.hZ b]∧Told P μ (.slice (some ⟨i0,0,none⟩) n m) (H.lay i0 b) w B ((Instr.makeSlice t l' c').run P w):=by
 unfold il at h;split at h
 ·rename_i elem k a k' b hu;obtain rfl:=hl.int;obtain rfl:=hc.int;split at h
  ·rename_i size bytes z hz hb hzv;split at h
   ·rename_i jS;obtain⟨h0,hab,adD,zg,Lq⟩:=jS;cases h;obtain⟨i,hi,X0⟩:=oX hb;obtain⟨_,qm,n,hn,yq⟩:=eG hzv w;rw[hz] at hn;cases hn;have w1:IntKind.i64.wrap a=a:=by rw[IntKind.wrap_i64];omega
    have w2:IntKind.i64.wrap b=b:=by rw[IntKind.wrap_i64];omega
    have oY:(0:Nat)<size:=by omega
    have eC:b.toNat*size=0↔b.toNat=0:=by simp[Nat.mul_eq_zero];omega
    have hmul:(i.bytes:Int)*b≤17592186044416:=by
     have h1:(i.bytes:Int)≤4096:=by omega
     have h2:0≤b:=by omega
     calc (i.bytes:Int)*b≤4096*b:=Int.mul_le_mul_of_nonneg_right h1 h2
      _≤17592186044416:=by omega
    have lD: ∃dg:Array Value,dg.toList=ct z.cells.toList b.toNat∧(Instr.makeSlice t (.int k a) (.int k' b)).run P w= .ok (.slice (some ⟨w.heap.size,0,none⟩) a.toNat b.toNat) (w.alloc (.cells dg elem)):=by
     have Y1: ¬(b<0∨(281474976710656:Int)<(i.bytes:Int)*b):=by omega
     by_cases X1:b.toNat=0
     ·refine⟨(Array.range 0).map (λ_=>default),by simp[X1,ct],?_⟩
      have:b=0:=by omega
      subst this;have:a=0:=by omega
      subst this;simp[Instr.makeSlice,run_underlying hu,asInt,asIntOf,mE hi,IntKind.wrap_i64,eZ hz,newRow]
     ·refine⟨(Array.range (b.toNat*size)).map (λi=>z.cells[i%z.cells.size]!),by rw[←og _ _ (by omega),yq],?_⟩
      have zh: ¬(a<0∨b<a):=by omega
      simp[Instr.makeSlice,run_underlying hu,asInt,asIntOf,mE hi,w1,w2,eZ hz,newRow,(eG hzv _).1];rw[if_neg (by rintro(((h|h)|h)|h)<;>omega),if_neg (λe=>X1 (eC.1 e))]
    obtain⟨dg,e,eK⟩:=lD;rw[eK];have hlen:dg.size=b.toNat*size:=by
     have:=congrArg List.length e
     rw[fL] at this;simp at this;rw[this,yq]
    obtain⟨h1,h2⟩:=hS.fill nN (ct z.cells.toList b.toNat) elem elem size dg dg.size rfl (oj qm _) (by rw[←e];simp) (by rw[←e,List.take_length,e];exact my qm _) (λk v hk hv=>by have:=(Array.getElem?_eq_some_iff.1 hv).1;rw[←e] at hk;simp at hk;omega)
    refine⟨a.toNat,b.toNat,_,rfl,rfl,_,_,_,rfl,h1,?_,h2,(gE.refl _ _).alloc hS.base _⟩;have:=VR.slice (μ:=μ.up i0 ⟨w.heap.size,0,dg.size,size⟩) i0 0 a.toNat b.toNat b.toNat _ Mu.aQ (by omega) (Nat.le_refl _) (by simp[hlen])
    simpa using this
   ·cases h
  ·cases h
 ·cases h
theorem wg {i0:Nat}{v0:Value}{H0:ae}{t:TypeId}{n:Nat}{ps Cm:List (Nat×Value)}(hS:da P μ H w B)(nN:cX H i0)(h1:ps.map (·.1)=Cm.map (·.1))(h2:dR μ (ps.map (·.2)) (Cm.map (·.2)))(h:aw P t n ps []=some (v0,H0)): ∃b,H0=[.hZ b]∧Told P μ (.slice (some ⟨i0,0,none⟩) n n) (H.lay i0 b) w B ((Instr.buildSlice t n Cm.toArray).run P w):=by
 unfold aw at h;split at h
 ·cases h
 ·rename_i hk;have Ls:ps.all (λp=>p.2.cells.toList.all aD)=true:=by simpa using hk
  have hk:ps.all (λp=>known p.2)=true:=by
   rw[List.all_eq_true] at Ls ⊢;intro p hp;have:=Ls p hp
   revert this
   cases p.2<;>simp[Value.cells,aD,known]
  split at h
  ·rename_i elem hu;split at h
   ·rename_i size z hs hz;split at h
    ·rename_i hc;simp only[Bool.and_eq_true,decide_eq_true_eq,ne_eq] at hc;obtain⟨zi,oY⟩:=hc;obtain⟨IU,qm,m,hm,yq⟩:=eG hz w;rw[hs] at hm;cases hm;cases hf:Instr.fill (λi=>some (i*size,size)) (ct z.cells.toList n).toArray ps with
     |none=>rw[hf] at h;cases h
     |some cs=>
      rw[hf] at h;cases h;obtain⟨dg,G3,hv⟩:=oZ (dg:=(ct z.cells.toList n).toArray) _ (by simpa using my qm n) h1 h2 hk hf
      have hlen:dg.size=n*size:=by
       rw[Dx _ G3];simp[fL,yq]
      have eK:(Instr.buildSlice t n Cm.toArray).run P w= .ok (.slice (some ⟨w.heap.size,0,none⟩) n n) (w.alloc (.cells dg elem)):=by
       have af9:(0:Nat)<size:=Nat.pos_of_ne_zero (by simpa using oY)
       have No: ¬(n*size>2^24):=by simpa using zi
       by_cases h0:n=0
       ·subst h0;have e:(ct z.cells.toList 0).toArray=(Array.range (0*size)).map (λi=>(#[]:Array Value)[i%(#[]:Array Value).size]!):=by simp[ct]
        rw[e] at G3;simp only[Instr.buildSlice,Sem.run_bind,run_underlying hu,eZ hs,Result.andThen_ok,Sem.run_ite,Sem.run_pure,Nat.zero_mul,if_true];simp only[Nat.zero_mul] at G3;simp only[G3];rfl
       ·have eC: ¬n*size=0:=by simp[Nat.mul_eq_zero];omega
        have e:(ct z.cells.toList n).toArray=(Array.range (n*size)).map (λi=>z.cells[i%z.cells.size]!):=by
         rw[←og _ _ (by omega),yq]
        rw[e] at G3;simp only[Instr.buildSlice,Sem.run_bind,run_underlying hu,eZ hs,Result.andThen_ok,Sem.run_ite,No,if_false,Sem.run_pure,eC,IU,G3];rfl
      rw[eK];obtain⟨g1,g2⟩:=hS.fill nN cs.toList elem elem size dg dg.size rfl (G2 _ (by simpa using oj qm n) Ls hf) (by have:=hv.1;simp at this ⊢;omega) (by rw[hv.1,List.take_length];exact hv) (λk v hk xF=>by have:=hv.1;have:=(Array.getElem?_eq_some_iff.1 xF).1;simp at *;omega)
      refine⟨_,rfl,_,_,_,rfl,g1,?_,g2,(gE.refl _ _).alloc hS.base _⟩;have:=VR.slice (μ:=μ.up i0 ⟨w.heap.size,0,dg.size,size⟩) i0 0 n n n _ Mu.aQ (Nat.le_refl _) (Nat.le_refl _) (by simp[hlen])
      simpa using this
    ·cases h
   ·cases h
  ·cases h
theorem Hg {i:Nat}{ρ ρ':Operand→Value}{o:Oper}{v:Value}(hS:da P μ H w B)(hρ: ∀x,VR μ (ρ x) (ρ' x))(h:sF P ρ i H o.op=some (v,H')):
  gQ P μ v H' w B ((execOp ρ' o).run P w):=by
 obtain⟨dst,op,type,pos,after,guard⟩:=o;simp only at h;unfold sF at h;split at h
 case h_2=>cases h
 rename_i hf;split at h
 case h_2=>cases h
 rename_i mk b hb;cases h;unfold Dn at hb;split at hb<;>(unfold execOp;try simp only)
 ·
  rename_i t;split at hb
  ·rename_i z hz;obtain⟨IU,qm,_⟩:=eG hz w;cases hb;have Qo:=sX qm;have ux:=lE (μ:=μ) qm;obtain⟨h1,h2⟩:=hS.fill hf z.cells.toList t t 1 z.cells z.cells.size rfl Qo (by simp) (by rw[List.take_of_length_le (by simp)];exact ux) (λk v hk hv=>by have:=(Array.getElem?_eq_some_iff.1 hv).1;simp at hk;omega)
   refine Told.next ?_;have e:(Instr.alloc t true (.tuple #[])).run P w= .ok (.pointer (some ⟨w.heap.size,0,none⟩)) (w.alloc (.cells z.cells t)):=by
    simp[Instr.alloc,IU,newVar,newRow]
   rw[e];refine⟨_,_,_,rfl,h1,?_,h2,(gE.refl _ _).alloc hS.base _⟩;have:=VR.ptr (μ:=μ.up i ⟨w.heap.size,0,z.cells.size,1⟩) i 0 _ Mu.aQ
   simpa using this
  ·cases hb
 ·
  rename_i t n ps;split at hb
  ·rename_i v0 b0 h0;cases hb;obtain⟨b1,e1,hT⟩:=wg (P:=P) hS hf (vX (ρ':=ρ') ps.toList) (dR.parts hρ ps.toList) h0;cases e1;have e:(ps.map λ(i,x)=>(i,ρ' x))=(ps.toList.map λ(i,x)=>(i,ρ' x)).toArray:=by
    rw[←Array.toList_inj];simp
   simp only[e];exact hT.next
  ·cases hb
 ·
  rename_i t l c;split at hb
  ·rename_i a0 n0 m0 b0 h0;cases hb;obtain⟨n1,m1,b1,e1,e2,hT⟩:=xM (P:=P) hS hf (hρ _) (hρ _) h0;cases e1;cases e2;exact hT.next
  ·cases hb
 ·cases hb
variable {P:Program} {μ:Mu} {H H':ae} {w:World} {B:Nat}
def EC (acc:Array Nat)(es:List Edge)(s:Nat):Nat:=
 es.foldl (λs e=>if Region.binds .any e then s ||| 2^e.on ||| acc.getD e.on 0 else s) s
theorem xe (acc:Array Nat): ∀(es:List Edge) (s i:Nat),(EC acc es s).testBit i=true→
  s.testBit i=true∨∃e∈es,Region.binds .any e=true∧(i=e.on∨(acc.getD e.on 0).testBit i=true)
 | [],s,i,h=>.inl h
 |e::r,s,i,h=>by
  have h':(EC acc r (if Region.binds .any e then s ||| 2^e.on ||| acc.getD e.on 0 else s)).testBit i=true:=h
  rcases xe acc r _ i h' with h1|⟨e',he,hb⟩
  ·split at h1
   ·rename_i hb;rw[Nat.testBit_or,Nat.testBit_or,Nat.testBit_two_pow] at h1;simp only[Bool.or_eq_true,decide_eq_true_eq] at h1;rcases h1 with(h1|h1)|h1
    ·exact .inl h1
    ·exact .inr ⟨e,by simp,hb,.inl h1.symm⟩
    ·exact .inr ⟨e,by simp,hb,.inr h1⟩
   ·exact .inl h1
  ·exact .inr ⟨e',by simp[he],hb⟩
def Jm (ops:Array Oper)(acc:Array Nat):Prop:=
 ∀j,j<acc.size→∀i,(acc.getD j 0).testBit i=true→∃o,ops[j]? =some o∧∃e∈o.after,Region.binds .any e=true∧(i=e.on∨(e.on<j∧(acc.getD e.on 0).testBit i=true))
theorem xf (ops:Array Oper): ∀(l:List Oper) (acc:Array Nat),(∀k o,l[k]? =some o→ops[acc.size+k]? =some o)→Jm ops acc→
  Jm ops (l.foldl (λacc o=>acc.push (o.after.foldl (λs e=>if Region.binds .any e then s ||| 2^e.on ||| acc.getD e.on 0 else s) 0)) acc)
 | [],acc,_,h=>h
 |o::r,acc,hl,h=>by
  rw[List.foldl_cons];refine xf ops r _ (λk o' hk=>?_) ?_
  ·have:=hl (k+1) o' (by simpa using hk)
   rw[Array.size_push,show acc.size+1+k=acc.size+(k+1) by omega];exact this
  ·intro j hj i hi;rw[Array.size_push] at hj;by_cases e:j=acc.size
   ·subst e;have e0: ∀x:Nat,(acc.push x).getD acc.size 0=x:=λx=>by simp[Array.getD_eq_getD_getElem?]
    rw[e0, ←Array.foldl_toList] at hi;have wZ:(EC acc o.after.toList 0).testBit i=true:=hi;rcases xe acc _ 0 i wZ with h0|⟨e,he,hb,h1⟩
    ·simp at h0
    ·refine⟨o,by simpa using hl 0 o rfl,e,by simpa using he,hb,?_⟩
     rcases h1 with h1|h1
     ·exact .inl h1
     ·right
      have dH:e.on<acc.size:=by
       by_cases hl:e.on<acc.size
       ·exact hl
       ·rw[Array.getD_eq_getD_getElem?,Array.getElem?_eq_none (by omega)] at h1;simp at h1
      refine⟨dH,?_⟩;rw[Array.getD_eq_getD_getElem?,Array.getElem?_push_lt dH];rw[Array.getD_eq_getD_getElem?,Array.getElem?_eq_getElem dH] at h1;exact h1
   ·have dH:j<acc.size:=by omega
    have e1: ∀k,k<acc.size→∀s,(acc.push s).getD k 0=acc.getD k 0:=by
     intro k hk s;rw[Array.getD_eq_getD_getElem?,Array.getD_eq_getD_getElem?,Array.getElem?_push_lt hk,Array.getElem?_eq_getElem hk]
    rw[e1 j dH] at hi;obtain⟨o',ho,e,he,hb,h1⟩:=h j dH i hi;refine⟨o',ho,e,he,hb,?_⟩;rcases h1 with h1|⟨h1,h2⟩
    ·exact .inl h1
    ·exact .inr ⟨h1,by rw[e1 _ (by omega)];exact h2⟩
theorem zD (ops:Array Oper):Jm ops (Region.before ops):=by
 unfold Region.before;rw[←Array.foldl_toList];exact xf ops ops.toList #[] (λk o hk=>by simpa using hk) (λj hj=>by simp at hj)
theorem zF {ops:Array Oper}{L:Nat→Bool}(um: ∀j o,ops[j]? =some o→L j=true→∀e∈o.after,Region.binds .any e=true→L e.on=true):
  ∀j,L j=true→∀i,yi (Region.before ops) i j=true→L i=true:=by
 intro j;induction j using Nat.strongRecOn with
 |_ j ih=>
  intro hj i hi;unfold yi at hi;have dH:j<(Region.before ops).size:=by
   by_cases h:j<(Region.before ops).size
   ·exact h
   ·rw[Array.getD_eq_getD_getElem?,Array.getElem?_eq_none (by omega)] at hi;simp at hi
  obtain⟨o,ho,e,he,hb,h1⟩:=zD ops j dH i hi;have hon:=um j o ho hj e he hb;rcases h1 with rfl|⟨dH,h2⟩
  ·exact hon
  ·exact ih e.on dH hon i h2
theorem QD {ops:Array Oper}(he:yj ops=true): ∀j i,yi (Region.before ops) i j=true→i<j:=by
 intro j;induction j using Nat.strongRecOn with
 |_ j ih=>
  intro i hi;unfold yi at hi;have dH:j<(Region.before ops).size:=by
   by_cases h:j<(Region.before ops).size
   ·exact h
   ·rw[Array.getD_eq_getD_getElem?,Array.getElem?_eq_none (by omega)] at hi;simp at hi
  obtain⟨o,ho,e,hem,hb,h1⟩:=zD ops j dH i hi;have hj:j<ops.size:=(Array.getElem?_eq_some_iff.1 ho).1;have:=List.all_eq_true.1 he j (List.mem_range.2 hj)
  simp only[ho] at this;have hon:e.on<j:=by
   have:=Array.all_eq_true_iff_forall_mem.1 this e hem
   simpa[hb] using this
  rcases h1 with rfl|⟨_,h2⟩
  ·exact hon
  ·exact Nat.lt_trans (ih e.on hon i h2) hon
theorem Jn {C:ag}{base k:Nat}{E:Env}{o:Oper}:eQ P C [] base k E H o=iC P C E H o:=by simp[eQ]
theorem jU {C:ag}{base:Nat}{ops:Array Oper}: ∀(l:List Oper) (k:Nat) (E:Env) (H:ae),eo P C [] base ops l k E H=fV P C ops l E H∧fJ P C [] base ops l k E H=trace P C ops l E H
 | [],k,E,H=>⟨rfl,rfl⟩
 |o::r,k,E,H=>by
  simp only[eo,fV,fJ,trace,Jn];refine⟨?_,?_⟩
  ·split
   ·split
    ·exact(jU r _ _ _).1
    ·rfl
   ·exact(jU r _ _ _).1
   ·rfl
  ·congr 1
   split
   ·split
    ·exact(jU r _ _ _).2
    ·rfl
   ·exact(jU r _ _ _).2
   ·rfl
def zG (P:Program)(C:ag)(F:List Nat)(base:Nat)(ops:Array Oper)(k:Nat)(o:Oper)(s:Env×ae)(s':Env×ae)(v:Value):Prop:=
 s'.1=s.1.put o.dst v∧((eW ops o s.1=some true∧eQ P C F base k s.1 s.2 o=some (v,s'.2))∨(eW ops o s.1=some false∧v=undef∧s'.2=s.2))
theorem Jo {C:ag}{F:List Nat}{base:Nat}{ops:Array Oper}: ∀(l:List Oper) (k0:Nat) (E:Env) (H:ae) (r:Env×ae),eo P C F base ops l k0 E H=some r→
  ∃(S:Nat→Env×ae) (val:Nat→Value),S 0=(E,H)∧S l.length=r∧(∀k o,l[k]? =some o→zG P C F base ops (k0+k) o (S k) (S (k+1)) (val k))∧
   (∀k,k≤l.length→(fJ P C F base ops l k0 E H)[k]? =some (S k)):=by
 intro l;induction l with
 |nil=>
  intro k0 E H r h;simp only[eo] at h;cases h;exact⟨λ_=>(E,H),λ_=>undef,rfl,rfl,λk o hk=>by simp at hk,λk hk=>by simp at hk;subst hk;rfl⟩
 |cons o l ih=>
  intro k0 E H r h;simp only[eo] at h;have go: ∀(E1:Env) (H1:ae) (v:Value),eo P C F base ops l (k0+1) E1 H1=some r→zG P C F base ops k0 o (E,H) (E1,H1) v→(fJ P C F base ops (o::l) k0 E H)=(E,H)::fJ P C F base ops l (k0+1) E1 H1→
    ∃(S:Nat→Env×ae) (val:Nat→Value),S 0=(E,H)∧S (o::l).length=r∧(∀k o',(o::l)[k]? =some o'→zG P C F base ops (k0+k) o' (S k) (S (k+1)) (val k))∧
     (∀k,k≤(o::l).length→(fJ P C F base ops (o::l) k0 E H)[k]? =some (S k)):=by
   intro E1 H1 v h1 hs ht;obtain⟨S,val,h0,hl,ky,htr⟩:=ih (k0+1) E1 H1 r h1;refine⟨λk=>match k with|0=>(E,H)|k+1=>S k,λk=>match k with|0=>v|k+1=>val k,rfl,hl,?_,?_⟩
   ·intro k o' hk;cases k with
    |zero=>simp at hk;subst hk;show zG P C F base ops (k0+0) o (E,H) (S 0) v;rw[h0];exact hs
    |succ k=>have:=ky k o' (by simpa using hk);rw[show k0+1+k=k0+(k+1) by omega] at this;exact this
   ·intro k hk;rw[ht];cases k with
    |zero=>rfl
    |succ k=>simp only[List.getElem?_cons_succ];exact htr k (by simpa using hk)
  split at h
  ·rename_i hw;cases hx:eQ P C F base k0 E H o with
   |none=>rw[hx] at h;cases h
   |some q=>
    obtain⟨v,H1⟩:=q;rw[hx] at h;exact go _ _ v h ⟨rfl,.inl ⟨hw,hx⟩⟩ (by simp only[fJ,hw,hx])
  ·rename_i hw;exact go _ _ undef h ⟨rfl,.inr ⟨hw,rfl,rfl⟩⟩ (by simp only[fJ,hw])
  ·cases h
theorem DE {ρ:Operand→Value}{op:Op}{v:Value}(hc:cls P op≠ .Cj)(hb:cls P op≠ .bad)(h:iW P ρ H op=some (v,H')):H'=H:=by
 cases op with
 |call c=>
  obtain⟨callee,args,types⟩:=c;cases callee with
  |builtin b=>
   simp only[iW] at h;cases b<;>first| (exact absurd rfl hc)| (exact absurd rfl hb)|skip
   all_goals
    unfold lA at h;split at h<;>first
     | (rw[Option.map_eq_some_iff] at h;obtain⟨_,_,e⟩:=h;cases e;rfl)
     | (split at h<;>first| (cases h;rfl)| (cases h))
     | (cases h)
     | (rename_i e _;cases e)
  |value f=>exact absurd rfl hc
  |invoke r m=>exact absurd rfl hb
 |move x=>simp only[iW] at h;cases h;rfl
 |assign x=>simp only[iW] at h;cases h;rfl
 |pick c a b=>simp only[iW] at h;split at h<;>cases h;rfl
 |build t ps=>simp only[iW,Option.map_eq_some_iff] at h;obtain⟨_,_,e⟩:=h;cases e;rfl
 |load t a=>simp only[iW,Option.map_eq_some_iff] at h;obtain⟨_,_,e⟩:=h;cases e;rfl
 |nilCheck x=>simp only[iW] at h;split at h<;>cases h<;>rfl
 |binOp o t x y yt=>simp only[iW,Option.map_eq_some_iff] at h;obtain⟨_,_,e⟩:=h;cases e;rfl
 |unOp o t x=>simp only[iW,Option.map_eq_some_iff] at h;obtain⟨_,_,e⟩:=h;cases e;rfl
 |convert s t x=>simp only[iW] at h;split at h<;>cases h;rfl
 |makeFunc fn f c=>cases fn<;>simp only[iW] at h<;>cases h;rfl
 |slice t x lo hi m=>cases m<;>simp only[iW] at h<;>first| (cases h)| (rw[Option.map_eq_some_iff] at h;obtain⟨_,_,e⟩:=h;cases e;rfl)
 |fieldAddr s x f=>simp only[iW] at h;(repeat' split at h)<;>cases h;rfl
 |field s x f=>simp only[iW] at h;(repeat' split at h)<;>first| (cases h;done)| (rw[Option.map_eq_some_iff] at h;obtain⟨_,_,e⟩:=h;cases e;rfl)
 |indexAddr t x i=>simp only[iW] at h;(repeat' split at h)<;>cases h<;>rfl
 |index t x i=>simp only[iW] at h;(repeat' split at h)<;>first| (cases h;done)| (rw[Option.map_eq_some_iff] at h;obtain⟨_,_,e⟩:=h;cases e;rfl)
 |lookup t m x ok=>simp only[iW,Option.map_eq_some_iff] at h;obtain⟨_,_,e⟩:=h;cases e;rfl
 |extract t i=>simp only[iW] at h;split at h<;>first| (cases h;done)| (rw[Option.map_eq_some_iff] at h;obtain⟨_,_,e⟩:=h;cases e;rfl)
 |_=>first| (exact absurd rfl hc)| (exact absurd rfl hb)
theorem QE {ρ:Operand→Value}{op:Op}{v:Value}(hc:cls P op= .pure)(h:iW P ρ H op=some (v,H'))(H2:ae):iW P ρ H2 op=some (v,H2):=by
 cases op with
 |call c=>
  obtain⟨callee,args,types⟩:=c;cases callee with
  |builtin b=>
   simp only[iW] at h ⊢;have hlen: ∀(H2:ae) x,cls P (.call {callee:=.builtin .len,args:=args,argTypes:=types})= .pure→∀v,Ef P H types x=some v→Ef P H2 types x=some v:=by
    intro H2 x hc v hx;simp only[cls] at hc;unfold Ef at hx ⊢;cases ht:types[0]? with
    |none=>rw[ht] at hx;cases hx
    |some t=>
     rw[ht] at hx hc;simp only[Option.bind_some] at hc hx ⊢;cases hu:P.underlying t with
     |none=>rw[hu] at hx;cases hx
     |some d=>
      rw[hu] at hx hc;cases d<;>first| (cases hc;done)|exact hx| (cases x<;>exact hx)
   cases b<;>first| (cases hc;done)|skip
   all_goals
    unfold lA at h ⊢;split at h<;>first
     | (rw[Option.map_eq_some_iff] at h;obtain⟨_,hx,e⟩:=h;cases e;simp[hlen H2 _ hc _ hx];done)
     | (rw[Option.map_eq_some_iff] at h;obtain⟨_,hx,e⟩:=h;cases e;simp[hx];done)
     | (split at h<;>first| (rename_i hx;cases h;simp[hx];done)| (cases h;done))
     | (cases h;done)
     | (rename_i e _;cases e;done)
  |value f=>cases hc
  |invoke r m=>cases hc
 |move x=>simp only[iW] at h ⊢;cases h;rfl
 |assign x=>simp only[iW] at h ⊢;cases h;rfl
 |pick c a b=>simp only[iW] at h ⊢;split at h<;>first| (cases h;done)| (rename_i hx;cases h;simp[hx])
 |build t ps=>simp only[iW,Option.map_eq_some_iff] at h ⊢;obtain⟨x,hx,e⟩:=h;cases e;exact⟨_,hx,rfl⟩
 |nilCheck x=>simp only[iW] at h ⊢;split at h<;>first| (cases h;done)| (rename_i hx;cases h;simp[hx])
 |binOp o t x y yt=>simp only[iW,Option.map_eq_some_iff] at h ⊢;obtain⟨x,hx,e⟩:=h;cases e;exact⟨_,hx,rfl⟩
 |unOp o t x=>simp only[iW,Option.map_eq_some_iff] at h ⊢;obtain⟨x,hx,e⟩:=h;cases e;exact⟨_,hx,rfl⟩
 |convert s t x=>simp only[iW] at h ⊢;split at h<;>first| (cases h;done)| (rename_i h1 h2 h3;cases h;simp[h1,h2,h3])
 |makeFunc fn f c=>cases fn<;>simp only[iW] at h ⊢ <;>cases h;rfl
 |fieldAddr s x f=>simp only[iW] at h ⊢;(repeat' split at h)<;>first| (cases h;done)| (cases h;simp[*])
 |field s x f=>simp only[iW] at h ⊢;(repeat' split at h)<;>first| (cases h;done)| (rw[Option.map_eq_some_iff] at h;obtain⟨_,hx,e⟩:=h;cases e;simp[*])
 |indexAddr t x i=>simp only[iW] at h ⊢;(repeat' split at h)<;>first| (cases h;done)| (cases h;simp[*])
 |index t x i=>simp only[iW] at h ⊢;(repeat' split at h)<;>first| (cases h;done)| (rw[Option.map_eq_some_iff] at h;obtain⟨_,hx,e⟩:=h;cases e;simp[*])
 |extract t i=>simp only[iW] at h ⊢;split at h<;>first| (cases h;done)| (rw[Option.map_eq_some_iff] at h;obtain⟨_,hx,e⟩:=h;cases e;simp[*])
 |_=>cases hc
theorem DF {ρ ρ':Operand→Value}{op:Op}(h: ∀x∈op.operands,ρ x=ρ' x):iW P ρ H op=iW P ρ' H op:=by
 have QF: ∀ps:Array (Nat×Operand),(∀x∈(ps.toList.map (·.2)).toArray,ρ x=ρ' x)→
   (ps.toList.map λ(i,x)=>(i,ρ x))=(ps.toList.map λ(i,x)=>(i,ρ' x)):=λps hp=>
  List.map_congr_left λp hm=>by
   obtain⟨i,x⟩:=p;simp only[hp x (by simp;exact⟨i,by simpa using hm⟩)]
 cases op with
 |call c=>
  obtain⟨callee,args,types⟩:=c;cases callee with
  |builtin b=>
   simp only[iW];have:args.toList.map ρ=args.toList.map ρ':=List.map_congr_left λx hx=>h x (by simp[Op.operands,Call.operands];simpa using hx)
   rw[this]
  |_=>rfl
 |makeFunc fn f c=>
  have h1:f.map ρ=f.map ρ':=Array.map_congr_left λx hx=>h x (by simp[Op.operands,hx])
  have h2:c.map ρ=c.map ρ':=Array.map_congr_left λx hx=>h x (by simp[Op.operands,hx])
  cases fn<;>simp only[iW,h1,h2]
 |build t ps=>simp only[iW];rw[QF ps (by simpa[Op.operands] using h)]
 |buildSlice t n ps=>simp only[iW];rw[QF ps (by simpa[Op.operands] using h)]
 |slice t x lo hi m=>
  cases m with
  |some m=>
   simp only[iW];have h0:=h x (by simp[Op.operands])
   have h1:lo.map ρ=lo.map ρ':=by cases lo with|none=>rfl|some y=>simp[h y (by simp[Op.operands])]
   have h2:hi.map ρ=hi.map ρ':=by cases hi with|none=>rfl|some y=>simp[h y (by simp[Op.operands])]
   rw[h0,h1,h2,h m (by simp[Op.operands])]
  |none=>
   simp only[iW];have h0:=h x (by simp[Op.operands])
   have h1:lo.map ρ=lo.map ρ':=by cases lo with|none=>rfl|some y=>simp[h y (by simp[Op.operands])]
   have h2:hi.map ρ=hi.map ρ':=by cases hi with|none=>rfl|some y=>simp[h y (by simp[Op.operands])]
   rw[h0,h1,h2]
 |makeMap t r=>cases r<;>rfl
 |_=>simp only[Op.operands] at h<;>simp[iW,h]
theorem ED {C:ag}{E F:Nat→Value}{o:Oper}{ops:Array Oper}(h: ∀t∈o.looksAt ops,E t=F t):kR P C E H o=kR P C F H o:=by
 have hx: ∀x∈o.op.operands,jy E x=jy F x:=by
  intro x hx;cases x with
  |tmp t=>
   refine h t ?_;unfold Oper.looksAt;rw[List.mem_append];left
   rw[List.mem_filterMap];exact⟨.tmp t,by simpa using hx,rfl⟩
  |_=>rfl
 unfold kR;obtain⟨dst,op,type,pos,after,guard⟩:=o;cases op with
 |call c=>
  obtain⟨callee,args,types⟩:=c;cases callee with
  |value f=>
   simp only;have h1:=hx f (by simp[Op.operands,Call.operands])
   have h2:args.toList.map (jy E)=args.toList.map (jy F):=List.map_congr_left λx hm=>hx x (by simp[Op.operands,Call.operands];right;simpa using hm)
   rw[h1,h2]
  |_=>exact DF hx
 |_=>exact DF hx
theorem EE {E F:Nat→Value}{o:Oper}{ops:Array Oper}(h: ∀t∈o.looksAt ops,E t=F t):s9 ops o E=s9 ops o F:=by
 unfold s9;cases hg:o.guard with
 |none=>rfl
 |some q=>
  obtain⟨j,want⟩:=q;simp only;cases hd:(ops[j]?).bind (·.dst) with
  |none=>rfl
  |some d=>
   simp only;rw[h d (by unfold Oper.looksAt;rw[List.mem_append];right;simp[hg,hd])]
def iu (P:Program)(C:ag)(F:List Nat)(base k:Nat)(E:Nat→Value)(H:ae)(o:Oper):Option (Value×ae):=
 if F.contains k then sF P (jy E) (base+F.idxOf k) H o.op else kR P C E H o
theorem xg (C:ag)(F:List Nat)(base k:Nat)(E:Env)(H:ae)(o:Oper):iu P C F base k E.get H o=eQ P C F base k E H o:=by
 unfold iu eQ;rw[te,ir]
theorem Hi {ρ ρ':Operand→Value}{op:Op}(h: ∀x∈op.operands,ρ x=ρ' x):Dn P ρ op=Dn P ρ' op:=by
 unfold Dn;cases op with
 |buildSlice t n ps=>
  have:(ps.toList.map λ(i,x)=>(i,ρ x))=(ps.toList.map λ(i,x)=>(i,ρ' x)):=
   List.map_congr_left λp hm=>by
    obtain⟨i,x⟩:=p;simp only[h x (by simp[Op.operands];exact⟨i,by simpa using hm⟩)]
  simp only[this]
 |makeSlice t l c=>simp only[h l (by simp[Op.operands]),h c (by simp[Op.operands])]
 |_=>rfl
theorem zH {E F:Nat→Value}{o:Oper}{ops:Array Oper}(h: ∀t∈o.looksAt ops,E t=F t): ∀x∈o.op.operands,jy E x=jy F x:=by
 intro x hx;cases x with
 |tmp t=>
  refine h t ?_;unfold Oper.looksAt;rw[List.mem_append];left
  rw[List.mem_filterMap];exact⟨.tmp t,by simpa using hx,rfl⟩
 |_=>rfl
theorem CE {C:ag}{F:List Nat}{base k:Nat}{E G:Nat→Value}{o:Oper}{ops:Array Oper}(h: ∀t∈o.looksAt ops,E t=G t):iu P C F base k E H o=iu P C F base k G H o:=by
 unfold iu;rw[ED h];unfold sF;rw[Hi (zH h)]
theorem xi {C:ag}(hC:im C){F:List Nat}{base k:Nat}{E:Nat→Value}{o:Oper}{i:Nat}{b:eY}(eC:F.contains k=true→base+F.idxOf k≠i):
  Up i b H (iu P C F base k E H o) (iu P C F base k E (H.lay i b) o):=by
 intro hf v H' h;unfold iu at h ⊢;split at h
 ·rename_i h1;rw[if_pos h1];exact DA (eC h1) hf v H' h
 ·rename_i h1;rw[if_neg h1];unfold kR at h ⊢;split at h
  ·split at h
   ·split at h
    ·rename_i h2;rw[if_pos h2];exact hC _ _ _ _ _ hf v H' h
    ·cases h
   ·exact hC _ _ _ _ _ hf v H' h
   ·cases h
  ·exact rH hf v H' h
end Go.Proofs.YtjgmnoaalbbonaaGreatA.Am
end
