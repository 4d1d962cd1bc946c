/- Texts of the proof of dcssPlays_holds, put together by a small program of ours (names shortened, spaces taken out). No condition beyond the given statement. -/
import Derived.Test.YtgfgglponbmgmaaGreatDCP4
import Derived.Test.YtgfgglponbmgmaaGreatDCP5
set_option linter.unusedVariables false
set_option linter.unusedSimpArgs false
set_option linter.unnecessarySimpa false
noncomputable section
section
namespace Go.Proofs.YtgfgglponbmgmaaGreatA.Am
open Go.RowKit (Below)
variable {P:Program} {μ:Mu} {H H':aa} {w:World} {B:Nat}
theorem nc {i:Nat}{b:eS}(h:i<H.length):(H.lay i b).get i=some b:=aa.jg h
theorem F3 {i j:Nat}{b:eS}(h:j≠i):(H.lay i b).get j=H.get j:=aa.bA h
theorem DZ {i j:Nat}{b:eS}{o:dD}(h:(H.lay i b).dZ j=some o):H.dZ j=some o:=by
 by_cases e:j=i
 ·subst e;have hl:=aa.wA h;rw[jS] at hl;rw[aa.qm (nc hl)] at h;cases h
 ·rw[←h];exact(aa.jL (List.getElem?_set_ne (Ne.symm e))).symm
theorem cO.fill {i:Nat}(h:cO P μ H w B)(hf:ca H i)(cs:List Value)(ty t:TypeId)(es:Nat)(fi:Array Value)(n:Nat)(hn:n=fi.size)(Rq:cs.all aC=true)(hle:cs.length≤fi.size)(hv:cU μ cs (fi.toList.take cs.length))(Wa: ∀(k:Nat) (v:Value),cs.length≤k→fi[k]? =some v→cu v=true):
  μ.le (μ.up i ⟨w.heap.size,0,n,es⟩)∧cO P (μ.up i ⟨w.heap.size,0,n,es⟩) (H.lay i ⟨cs,t,es,false⟩) (w.alloc (.cells fi ty)) B:=by
 subst hn;have ml:=Mu.DC (l:=⟨w.heap.size,0,fi.size,es⟩) (h.wv i hf);have old: ∀{j:Nat} {c:eS},(H.lay i ⟨cs,t,es,false⟩).get j=some c→(j=i∧c=⟨cs,t,es,false⟩)∨(j≠i∧H.get j=some c):=by
  intro j c hc;by_cases e:j=i
  ·subst e;rw[nc hf.lt] at hc;cases hc;exact .inl ⟨rfl,rfl⟩
  ·rw[F3 e] at hc;exact .inr ⟨e,hc⟩
 refine⟨ml,by have:=h.base;simp;omega,?_,?_,?_,?_,h.dZ.keep ml (λ_ _=>DZ) (λb x hb _=>(Go.RowKit.Below.heap_alloc _ _ _ (Array.getElem?_eq_some_iff.1 hb).1).trans hb),λk hk=>by obtain⟨h1,h2⟩:=q7 (by simp) hk;rw[Mu.dO h2];exact h.wv k h1⟩
 ·intro j b hb;rcases old hb with⟨rfl,rfl⟩|⟨e,hb⟩
  ·have q8:(w.heap.push (.cells fi ty (0,0)))[w.heap.size]? =some (.cells fi ty (0,0)):=by simp
   refine⟨_,Mu.aO,rfl,Rq,(λ_ UM mT Wb h2 k v hk Dv=>?_),fi,ty,(0,0),?_,rfl,λ_=>rfl,by simpa using hle,?_⟩
   ·have h2':(w.heap.push (.cells fi ty (0,0)))[w.heap.size]? =some (.cells UM mT Wb):=h2;rw[q8] at h2';cases h2';exact Wa k v (by simpa using hk) Dv
   ·show(w.heap.push _)[w.heap.size]? =_;simp
   ·simpa using hv.mono ml
  ·obtain⟨l,h1,h2⟩:=h.ok j b hb;refine⟨l,ml _ _ h1,(h2.mono ml).heap ?_⟩;exact Go.RowKit.Below.heap_alloc _ _ _ h2.lt
 ·intro j hj;rw[jS] at hj;have:=hf.lt
  rw[Mu.dO (by omega)];exact h.BF j hj
 ·intro j k b c l m hb hc hl hm AD iJ;rcases old hb with⟨rfl,rfl⟩|⟨e,hb1⟩<;>rcases old hc with⟨rfl,rfl⟩|⟨e2,hc1⟩
  ·exact absurd rfl AD
  ·rw[Mu.aO] at hl;cases hl;rw[Mu.dO e2] at hm;obtain⟨m',em,k'⟩:=h.ok _ _ hc1;rw[hm] at em;cases em;have:=k'.lt;show w.heap.size≠m.b;omega
  ·rw[Mu.aO] at hm;cases hm;rw[Mu.dO e] at hl;obtain⟨l',em,k'⟩:=h.ok _ _ hb1;rw[hl] at em;cases em;have:=k'.lt;show l.b≠w.heap.size;omega
  ·rw[Mu.dO e] at hl;rw[Mu.dO e2] at hm;exact h.inj j k b c l m hb1 hc1 hl hm AD iJ
 ·intro j b l hb iJ hl;rcases old hb with⟨rfl,rfl⟩|⟨e,hb⟩
  ·rw[Mu.aO] at hl;cases hl;exact h.base
  ·rw[Mu.dO e] at hl;exact h.own j b l hb iJ hl
theorem uY {i0:Nat}{v0:Value}{H0:aa}{t:TypeId}{l c l' c':Value}(hS:cO P μ H w B)(kW:ca H i0)(hl:VR μ l l')(hc:VR μ c c')(h:fZ P t l c []=some (v0,H0)):
  ∃n m b,v0= .slice (some ⟨0,0,none⟩) n m∧H0=[.zK b]∧Told P μ (.slice (some ⟨i0,0,none⟩) n m) (H.lay i0 b) w B ((Instr.makeSlice t l' c').run P w):=by
 unfold fZ at h;split at h
 ·rename_i elem k a k' b hu;obtain rfl:=hl.int;obtain rfl:=hc.int;split at h
  ·rename_i size bytes z hz hb hzv;split at h
   ·rename_i pR;obtain⟨h0,hab,aag,wH,HI⟩:=pR;cases h;obtain⟨i,hi,hib⟩:=qp hb;obtain⟨_,pD,n,hn,BI⟩:=dS hzv w;rw[hz] at hn;cases hn;have w1:IntKind.i64.wrap a=a:=by rw[IntKind.wrap_i64];omega
    have w2:IntKind.i64.wrap b=b:=by rw[IntKind.wrap_i64];omega
    have uS:(0:Nat)<size:=by omega
    have dx:b.toNat*size=0↔b.toNat=0:=by simp[Nat.mul_eq_zero];omega
    have hmul:(i.bytes:Int)*b≤17592186044416:=by
     have h1:(i.bytes:Int)≤4096:=by omega
     have h2:0≤b:=by omega
     calc (i.bytes:Int)*b≤4096*b:=Int.mul_le_mul_of_nonneg_right h1 h2
      _≤17592186044416:=by omega
    have q8: ∃fi:Array Value,fi.toList=bM z.cells.toList b.toNat∧(Instr.makeSlice t (.int k a) (.int k' b)).run P w= .ok (.slice (some ⟨w.heap.size,0,none⟩) a.toNat b.toNat) (w.alloc (.cells fi elem)):=by
     have Wf: ¬(b<0∨(281474976710656:Int)<(i.bytes:Int)*b):=by omega
     by_cases hb0:b.toNat=0
     ·refine⟨(Array.range 0).map (λ_=>default),by simp[hb0,bM],?_⟩
      have:b=0:=by omega
      subst this;have:a=0:=by omega
      subst this;simp[Instr.makeSlice,run_underlying hu,asInt,asIntOf,kU hi,IntKind.wrap_i64,eC hz,newRow]
     ·refine⟨(Array.range (b.toNat*size)).map (λi=>z.cells[i%z.cells.size]!),by rw[←mH _ _ (by omega),BI],?_⟩
      have hbl: ¬(a<0∨b<a):=by omega
      simp[Instr.makeSlice,run_underlying hu,asInt,asIntOf,kU hi,w1,w2,eC hz,newRow,(dS hzv _).1];rw[if_neg (by rintro(((h|h)|h)|h)<;>omega),if_neg (λe=>hb0 (dx.1 e))]
    obtain⟨fi,e,dI⟩:=q8;rw[dI];have hlen:fi.size=b.toNat*size:=by
     have:=congrArg List.length e
     rw[fm] at this;simp at this;rw[this,BI]
    obtain⟨h1,h2⟩:=hS.fill kW (bM z.cells.toList b.toNat) elem elem size fi fi.size rfl (mI pD _) (by rw[←e];simp) (by rw[←e,List.take_length,e];exact kM pD _) (λk v hk hv=>by have:=(Array.getElem?_eq_some_iff.1 hv).1;rw[←e] at hk;simp at hk;omega)
    refine⟨a.toNat,b.toNat,_,rfl,rfl,_,_,_,rfl,h1,?_,h2,(eW.refl _ _).alloc hS.base _⟩;have:=VR.slice (μ:=μ.up i0 ⟨w.heap.size,0,fi.size,size⟩) i0 0 a.toNat b.toNat b.toNat _ Mu.aO (by omega) (Nat.le_refl _) (by simp[hlen])
    simpa using this
   ·cases h
  ·cases h
 ·cases h
theorem tv {i0:Nat}{v0:Value}{H0:aa}{t:TypeId}{n:Nat}{ps zN:List (Nat×Value)}(hS:cO P μ H w B)(kW:ca H i0)(h1:ps.map (·.1)=zN.map (·.1))(h2:cU μ (ps.map (·.2)) (zN.map (·.2)))(h:ay P t n ps []=some (v0,H0)): ∃b,H0=[.zK b]∧Told P μ (.slice (some ⟨i0,0,none⟩) n n) (H.lay i0 b) w B ((Instr.buildSlice t n zN.toArray).run P w):=by
 unfold ay at h;split at h
 ·cases h
 ·rename_i hk;have DN:ps.all (λp=>p.2.cells.toList.all aC)=true:=by simpa using hk
  have hk:ps.all (λp=>known p.2)=true:=by
   rw[List.all_eq_true] at DN ⊢;intro p hp;have:=DN p hp
   revert this
   cases p.2<;>simp[Value.cells,aC,known]
  split at h
  ·rename_i elem hu;split at h
   ·rename_i size z hs hz;split at h
    ·rename_i hc;simp only[Bool.and_eq_true,decide_eq_true_eq,ne_eq] at hc;obtain⟨wI,uS⟩:=hc;obtain⟨Fw,pD,m,hm,BI⟩:=dS hz w;rw[hs] at hm;cases hm;cases hf:Instr.fill (λi=>some (i*size,size)) (bM z.cells.toList n).toArray ps with
     |none=>rw[hf] at h;cases h
     |some cs=>
      rw[hf] at h;cases h;obtain⟨fi,zV,hv⟩:=mY (fi:=(bM z.cells.toList n).toArray) _ (by simpa using kM pD n) h1 h2 hk hf
      have hlen:fi.size=n*size:=by
       rw[AH _ zV];simp[fm,BI]
      have dI:(Instr.buildSlice t n zN.toArray).run P w= .ok (.slice (some ⟨w.heap.size,0,none⟩) n n) (w.alloc (.cells fi elem)):=by
       have acx:(0:Nat)<size:=Nat.pos_of_ne_zero (by simpa using uS)
       have J8: ¬(n*size>2^24):=by simpa using wI
       by_cases h0:n=0
       ·subst h0;have e:(bM z.cells.toList 0).toArray=(Array.range (0*size)).map (λi=>(#[]:Array Value)[i%(#[]:Array Value).size]!):=by simp[bM]
        rw[e] at zV;simp only[Instr.buildSlice,Sem.run_bind,run_underlying hu,eC hs,Result.andThen_ok,Sem.run_ite,Sem.run_pure,Nat.zero_mul,if_true];simp only[Nat.zero_mul] at zV;simp only[zV];rfl
       ·have dx: ¬n*size=0:=by simp[Nat.mul_eq_zero];omega
        have e:(bM z.cells.toList n).toArray=(Array.range (n*size)).map (λi=>z.cells[i%z.cells.size]!):=by
         rw[←mH _ _ (by omega),BI]
        rw[e] at zV;simp only[Instr.buildSlice,Sem.run_bind,run_underlying hu,eC hs,Result.andThen_ok,Sem.run_ite,J8,if_false,Sem.run_pure,dx,Fw,zV];rfl
      rw[dI];obtain⟨g1,g2⟩:=hS.fill kW cs.toList elem elem size fi fi.size rfl (DM _ (by simpa using mI pD n) DN hf) (by have:=hv.1;simp at this ⊢;omega) (by rw[hv.1,List.take_length];exact hv) (λk v hk Dv=>by have:=hv.1;have:=(Array.getElem?_eq_some_iff.1 Dv).1;simp at *;omega)
      refine⟨_,rfl,_,_,_,rfl,g1,?_,g2,(eW.refl _ _).alloc hS.base _⟩;have:=VR.slice (μ:=μ.up i0 ⟨w.heap.size,0,fi.size,size⟩) i0 0 n n n _ Mu.aO (Nat.le_refl _) (Nat.le_refl _) (by simp[hlen])
      simpa using this
    ·cases h
   ·cases h
  ·cases h
theorem D2 {i:Nat}{ρ ρ':Operand→Value}{o:Oper}{v:Value}(hS:cO P μ H w B)(hρ: ∀x,VR μ (ρ x) (ρ' x))(h:pN P ρ i H o.op=some (v,H')):
  fV P μ v H' w B ((execOp ρ' o).run P w):=by
 obtain⟨dst,op,type,pos,after,guard⟩:=o;simp only at h;unfold pN at h;split at h
 case h_2=>cases h
 rename_i hf;split at h
 case h_2=>cases h
 rename_i mk b hb;cases h;unfold AA at hb;split at hb<;>(unfold execOp;try simp only)
 ·
  rename_i t;split at hb
  ·rename_i z hz;obtain⟨Fw,pD,_⟩:=dS hz w;cases hb;have Rq:=qu pD;have mq:=jY (μ:=μ) pD;obtain⟨h1,h2⟩:=hS.fill hf z.cells.toList t t 1 z.cells z.cells.size rfl Rq (by simp) (by rw[List.take_of_length_le (by simp)];exact mq) (λk v hk hv=>by have:=(Array.getElem?_eq_some_iff.1 hv).1;simp at hk;omega)
   refine Told.next ?_;have e:(Instr.alloc t true (.tuple #[])).run P w= .ok (.pointer (some ⟨w.heap.size,0,none⟩)) (w.alloc (.cells z.cells t)):=by
    simp[Instr.alloc,Fw,newVar,newRow]
   rw[e];refine⟨_,_,_,rfl,h1,?_,h2,(eW.refl _ _).alloc hS.base _⟩;have:=VR.ptr (μ:=μ.up i ⟨w.heap.size,0,z.cells.size,1⟩) i 0 _ Mu.aO
   simpa using this
  ·cases hb
 ·
  rename_i t n ps;split at hb
  ·rename_i v0 b0 h0;cases hb;obtain⟨b1,e1,hT⟩:=tv (P:=P) hS hf (tm (ρ':=ρ') ps.toList) (cU.parts hρ ps.toList) h0;cases e1;have e:(ps.map λ(i,x)=>(i,ρ' x))=(ps.toList.map λ(i,x)=>(i,ρ' x)).toArray:=by
    rw[←Array.toList_inj];simp
   simp only[e];exact hT.next
  ·cases hb
 ·
  rename_i t l c;split at hb
  ·rename_i a0 n0 m0 b0 h0;cases hb;obtain⟨n1,m1,b1,e1,e2,hT⟩:=uY (P:=P) hS hf (hρ _) (hρ _) h0;cases e1;cases e2;exact hT.next
  ·cases hb
 ·cases hb
variable {P:Program} {μ:Mu} {H H':aa} {w:World} {B:Nat}
def BV (acc:Array Nat)(es:List Edge)(s:Nat):Nat:=
 es.foldl (λs e=>if Region.binds .any e then s ||| 2^e.on ||| acc.getD e.on 0 else s) s
theorem uw (acc:Array Nat): ∀(es:List Edge) (s i:Nat),(BV acc es s).testBit i=true→
  s.testBit i=true∨∃e∈es,Region.binds .any e=true∧(i=e.on∨(acc.getD e.on 0).testBit i=true)
 | [],s,i,h=>.inl h
 |e::r,s,i,h=>by
  have h':(BV acc r (if Region.binds .any e then s ||| 2^e.on ||| acc.getD e.on 0 else s)).testBit i=true:=h
  rcases uw acc r _ i h' with h1|⟨e',he,hb⟩
  ·split at h1
   ·rename_i hb;rw[Nat.testBit_or,Nat.testBit_or,Nat.testBit_two_pow] at h1;simp only[Bool.or_eq_true,decide_eq_true_eq] at h1;rcases h1 with(h1|h1)|h1
    ·exact .inl h1
    ·exact .inr ⟨e,by simp,hb,.inl h1.symm⟩
    ·exact .inr ⟨e,by simp,hb,.inr h1⟩
   ·exact .inl h1
  ·exact .inr ⟨e',by simp[he],hb⟩
def F4 (ops:Array Oper)(acc:Array Nat):Prop:=
 ∀j,j<acc.size→∀i,(acc.getD j 0).testBit i=true→∃o,ops[j]? =some o∧∃e∈o.after,Region.binds .any e=true∧(i=e.on∨(e.on<j∧(acc.getD e.on 0).testBit i=true))
theorem ux (ops:Array Oper): ∀(l:List Oper) (acc:Array Nat),(∀k o,l[k]? =some o→ops[acc.size+k]? =some o)→F4 ops acc→
  F4 ops (l.foldl (λacc o=>acc.push (o.after.foldl (λs e=>if Region.binds .any e then s ||| 2^e.on ||| acc.getD e.on 0 else s) 0)) acc)
 | [],acc,_,h=>h
 |o::r,acc,hl,h=>by
  rw[List.foldl_cons];refine ux ops r _ (λk o' hk=>?_) ?_
  ·have:=hl (k+1) o' (by simpa using hk)
   rw[Array.size_push,show acc.size+1+k=acc.size+(k+1) by omega];exact this
  ·intro j hj i hi;rw[Array.size_push] at hj;by_cases e:j=acc.size
   ·subst e;have e0: ∀x:Nat,(acc.push x).getD acc.size 0=x:=λx=>by simp[Array.getD_eq_getD_getElem?]
    rw[e0, ←Array.foldl_toList] at hi;have qt:(BV acc o.after.toList 0).testBit i=true:=hi;rcases uw acc _ 0 i qt with h0|⟨e,he,hb,h1⟩
    ·simp at h0
    ·refine⟨o,by simpa using hl 0 o rfl,e,by simpa using he,hb,?_⟩
     rcases h1 with h1|h1
     ·exact .inl h1
     ·right
      have gF:e.on<acc.size:=by
       by_cases hl:e.on<acc.size
       ·exact hl
       ·rw[Array.getD_eq_getD_getElem?,Array.getElem?_eq_none (by omega)] at h1;simp at h1
      refine⟨gF,?_⟩;rw[Array.getD_eq_getD_getElem?,Array.getElem?_push_lt gF];rw[Array.getD_eq_getD_getElem?,Array.getElem?_eq_getElem gF] at h1;exact h1
   ·have gF:j<acc.size:=by omega
    have e1: ∀k,k<acc.size→∀s,(acc.push s).getD k 0=acc.getD k 0:=by
     intro k hk s;rw[Array.getD_eq_getD_getElem?,Array.getD_eq_getD_getElem?,Array.getElem?_push_lt hk,Array.getElem?_eq_getElem hk]
    rw[e1 j gF] at hi;obtain⟨o',ho,e,he,hb,h1⟩:=h j gF i hi;refine⟨o',ho,e,he,hb,?_⟩;rcases h1 with h1|⟨h1,h2⟩
    ·exact .inl h1
    ·exact .inr ⟨h1,by rw[e1 _ (by omega)];exact h2⟩
theorem wV (ops:Array Oper):F4 ops (Region.before ops):=by
 unfold Region.before;rw[←Array.foldl_toList];exact ux ops ops.toList #[] (λk o hk=>by simpa using hk) (λj hj=>by simp at hj)
theorem wW {ops:Array Oper}{L:Nat→Bool}(DL: ∀j o,ops[j]? =some o→L j=true→∀e∈o.after,Region.binds .any e=true→L e.on=true):
  ∀j,L j=true→∀i,vm (Region.before ops) i j=true→L i=true:=by
 intro j;induction j using Nat.strongRecOn with
 |_ j ih=>
  intro hj i hi;unfold vm at hi;have gF:j<(Region.before ops).size:=by
   by_cases h:j<(Region.before ops).size
   ·exact h
   ·rw[Array.getD_eq_getD_getElem?,Array.getElem?_eq_none (by omega)] at hi;simp at hi
  obtain⟨o,ho,e,he,hb,h1⟩:=wV ops j gF i hi;have hon:=DL j o ho hj e he hb;rcases h1 with rfl|⟨gF,h2⟩
  ·exact hon
  ·exact ih e.on gF hon i h2
theorem NU {ops:Array Oper}(he:vn ops=true): ∀j i,vm (Region.before ops) i j=true→i<j:=by
 intro j;induction j using Nat.strongRecOn with
 |_ j ih=>
  intro i hi;unfold vm at hi;have gF:j<(Region.before ops).size:=by
   by_cases h:j<(Region.before ops).size
   ·exact h
   ·rw[Array.getD_eq_getD_getElem?,Array.getElem?_eq_none (by omega)] at hi;simp at hi
  obtain⟨o,ho,e,hem,hb,h1⟩:=wV ops j gF i hi;have hj:j<ops.size:=(Array.getElem?_eq_some_iff.1 ho).1;have:=List.all_eq_true.1 he j (List.mem_range.2 hj)
  simp only[ho] at this;have hon:e.on<j:=by
   have:=Array.all_eq_true_iff_forall_mem.1 this e hem
   simpa[hb] using this
  rcases h1 with rfl|⟨_,h2⟩
  ·exact hon
  ·exact Nat.lt_trans (ih e.on hon i h2) hon
theorem F5 {C:ae}{base k:Nat}{E:Env}{o:Oper}:dA P C [] base k E H o=gA P C E H o:=by simp[dA]
theorem iV {C:ae}{base:Nat}{ops:Array Oper}: ∀(l:List Oper) (k:Nat) (E:Env) (H:aa),da P C [] base ops l k E H=eK P C ops l E H∧eB P C [] base ops l k E H=trace P C ops l E H
 | [],k,E,H=>⟨rfl,rfl⟩
 |o::r,k,E,H=>by
  simp only[da,eK,eB,trace,F5];refine⟨?_,?_⟩
  ·split
   ·split
    ·exact(iV r _ _ _).1
    ·rfl
   ·exact(iV r _ _ _).1
   ·rfl
  ·congr 1
   split
   ·split
    ·exact(iV r _ _ _).2
    ·rfl
   ·exact(iV r _ _ _).2
   ·rfl
def wX (P:Program)(C:ae)(F:List Nat)(base:Nat)(ops:Array Oper)(k:Nat)(o:Oper)(s:Env×aa)(s':Env×aa)(v:Value):Prop:=
 s'.1=s.1.put o.dst v∧((dE ops o s.1=some true∧dA P C F base k s.1 s.2 o=some (v,s'.2))∨(dE ops o s.1=some false∧v=undef∧s'.2=s.2))
theorem F6 {C:ae}{F:List Nat}{base:Nat}{ops:Array Oper}: ∀(l:List Oper) (k0:Nat) (E:Env) (H:aa) (r:Env×aa),da P C F base ops l k0 E H=some r→
  ∃(S:Nat→Env×aa) (val:Nat→Value),S 0=(E,H)∧S l.length=r∧(∀k o,l[k]? =some o→wX P C F base ops (k0+k) o (S k) (S (k+1)) (val k))∧
   (∀k,k≤l.length→(eB P C F base ops l k0 E H)[k]? =some (S k)):=by
 intro l;induction l with
 |nil=>
  intro k0 E H r h;simp only[da] at h;cases h;exact⟨λ_=>(E,H),λ_=>undef,rfl,rfl,λk o hk=>by simp at hk,λk hk=>by simp at hk;subst hk;rfl⟩
 |cons o l ih=>
  intro k0 E H r h;simp only[da] at h;have go: ∀(E1:Env) (H1:aa) (v:Value),da P C F base ops l (k0+1) E1 H1=some r→wX P C F base ops k0 o (E,H) (E1,H1) v→(eB P C F base ops (o::l) k0 E H)=(E,H)::eB P C F base ops l (k0+1) E1 H1→
    ∃(S:Nat→Env×aa) (val:Nat→Value),S 0=(E,H)∧S (o::l).length=r∧(∀k o',(o::l)[k]? =some o'→wX P C F base ops (k0+k) o' (S k) (S (k+1)) (val k))∧
     (∀k,k≤(o::l).length→(eB P C F base ops (o::l) k0 E H)[k]? =some (S k)):=by
   intro E1 H1 v h1 hs ht;obtain⟨S,val,h0,hl,kx,htr⟩:=ih (k0+1) E1 H1 r h1;refine⟨λk=>match k with|0=>(E,H)|k+1=>S k,λk=>match k with|0=>v|k+1=>val k,rfl,hl,?_,?_⟩
   ·intro k o' hk;cases k with
    |zero=>simp at hk;subst hk;show wX P C F base ops (k0+0) o (E,H) (S 0) v;rw[h0];exact hs
    |succ k=>have:=kx k o' (by simpa using hk);rw[show k0+1+k=k0+(k+1) by omega] at this;exact this
   ·intro k hk;rw[ht];cases k with
    |zero=>rfl
    |succ k=>simp only[List.getElem?_cons_succ];exact htr k (by simpa using hk)
  split at h
  ·rename_i hw;cases hx:dA P C F base k0 E H o with
   |none=>rw[hx] at h;cases h
   |some q=>
    obtain⟨v,H1⟩:=q;rw[hx] at h;exact go _ _ v h ⟨rfl,.inl ⟨hw,hx⟩⟩ (by simp only[eB,hw,hx])
  ·rename_i hw;exact go _ _ undef h ⟨rfl,.inr ⟨hw,rfl,rfl⟩⟩ (by simp only[eB,hw])
  ·cases h
theorem AN {ρ:Operand→Value}{op:Op}{v:Value}(hc:cls P op≠ .zL)(hb:cls P op≠ .bad)(h:gV P ρ H op=some (v,H')):H'=H:=by
 cases op with
 |call c=>
  obtain⟨callee,args,types⟩:=c;cases callee with
  |builtin b=>
   simp only[gV] at h;cases b<;>first| (exact absurd rfl hc)| (exact absurd rfl hb)|skip
   all_goals
    unfold jX at h;split at h<;>first
     | (rw[Option.map_eq_some_iff] at h;obtain⟨_,_,e⟩:=h;cases e;rfl)
     | (split at h<;>first| (cases h;rfl)| (cases h))
     | (cases h)
     | (rename_i e _;cases e)
  |value f=>exact absurd rfl hc
  |invoke r m=>exact absurd rfl hb
 |move x=>simp only[gV] at h;cases h;rfl
 |assign x=>simp only[gV] at h;cases h;rfl
 |pick c a b=>simp only[gV] at h;split at h<;>cases h;rfl
 |build t ps=>simp only[gV,Option.map_eq_some_iff] at h;obtain⟨_,_,e⟩:=h;cases e;rfl
 |load t a=>simp only[gV,Option.map_eq_some_iff] at h;obtain⟨_,_,e⟩:=h;cases e;rfl
 |nilCheck x=>simp only[gV] at h;split at h<;>cases h<;>rfl
 |binOp o t x y yt=>simp only[gV,Option.map_eq_some_iff] at h;obtain⟨_,_,e⟩:=h;cases e;rfl
 |unOp o t x=>simp only[gV,Option.map_eq_some_iff] at h;obtain⟨_,_,e⟩:=h;cases e;rfl
 |convert s t x=>simp only[gV] at h;split at h<;>cases h;rfl
 |makeFunc fn f c=>cases fn<;>simp only[gV] at h<;>cases h;rfl
 |slice t x lo hi m=>cases m<;>simp only[gV] at h<;>first| (cases h)| (rw[Option.map_eq_some_iff] at h;obtain⟨_,_,e⟩:=h;cases e;rfl)
 |fieldAddr s x f=>simp only[gV] at h;(repeat' split at h)<;>cases h;rfl
 |field s x f=>simp only[gV] at h;(repeat' split at h)<;>first| (cases h;done)| (rw[Option.map_eq_some_iff] at h;obtain⟨_,_,e⟩:=h;cases e;rfl)
 |indexAddr t x i=>simp only[gV] at h;(repeat' split at h)<;>cases h<;>rfl
 |index t x i=>simp only[gV] at h;(repeat' split at h)<;>first| (cases h;done)| (rw[Option.map_eq_some_iff] at h;obtain⟨_,_,e⟩:=h;cases e;rfl)
 |lookup t m x ok=>simp only[gV,Option.map_eq_some_iff] at h;obtain⟨_,_,e⟩:=h;cases e;rfl
 |extract t i=>simp only[gV] at h;split at h<;>first| (cases h;done)| (rw[Option.map_eq_some_iff] at h;obtain⟨_,_,e⟩:=h;cases e;rfl)
 |_=>first| (exact absurd rfl hc)| (exact absurd rfl hb)
theorem NV {ρ:Operand→Value}{op:Op}{v:Value}(hc:cls P op= .pure)(h:gV P ρ H op=some (v,H'))(H2:aa):gV P ρ H2 op=some (v,H2):=by
 cases op with
 |call c=>
  obtain⟨callee,args,types⟩:=c;cases callee with
  |builtin b=>
   simp only[gV] at h ⊢;have hlen: ∀(H2:aa) x,cls P (.call {callee:=.builtin .len,args:=args,argTypes:=types})= .pure→∀v,BB P H types x=some v→BB P H2 types x=some v:=by
    intro H2 x hc v hx;simp only[cls] at hc;unfold BB at hx ⊢;cases ht:types[0]? with
    |none=>rw[ht] at hx;cases hx
    |some t=>
     rw[ht] at hx hc;simp only[Option.bind_some] at hc hx ⊢;cases hu:P.underlying t with
     |none=>rw[hu] at hx;cases hx
     |some d=>
      rw[hu] at hx hc;cases d<;>first| (cases hc;done)|exact hx| (cases x<;>exact hx)
   cases b<;>first| (cases hc;done)|skip
   all_goals
    unfold jX at h ⊢;split at h<;>first
     | (rw[Option.map_eq_some_iff] at h;obtain⟨_,hx,e⟩:=h;cases e;simp[hlen H2 _ hc _ hx];done)
     | (rw[Option.map_eq_some_iff] at h;obtain⟨_,hx,e⟩:=h;cases e;simp[hx];done)
     | (split at h<;>first| (rename_i hx;cases h;simp[hx];done)| (cases h;done))
     | (cases h;done)
     | (rename_i e _;cases e;done)
  |value f=>cases hc
  |invoke r m=>cases hc
 |move x=>simp only[gV] at h ⊢;cases h;rfl
 |assign x=>simp only[gV] at h ⊢;cases h;rfl
 |pick c a b=>simp only[gV] at h ⊢;split at h<;>first| (cases h;done)| (rename_i hx;cases h;simp[hx])
 |build t ps=>simp only[gV,Option.map_eq_some_iff] at h ⊢;obtain⟨x,hx,e⟩:=h;cases e;exact⟨_,hx,rfl⟩
 |nilCheck x=>simp only[gV] at h ⊢;split at h<;>first| (cases h;done)| (rename_i hx;cases h;simp[hx])
 |binOp o t x y yt=>simp only[gV,Option.map_eq_some_iff] at h ⊢;obtain⟨x,hx,e⟩:=h;cases e;exact⟨_,hx,rfl⟩
 |unOp o t x=>simp only[gV,Option.map_eq_some_iff] at h ⊢;obtain⟨x,hx,e⟩:=h;cases e;exact⟨_,hx,rfl⟩
 |convert s t x=>simp only[gV] at h ⊢;split at h<;>first| (cases h;done)| (rename_i h1 h2 h3;cases h;simp[h1,h2,h3])
 |makeFunc fn f c=>cases fn<;>simp only[gV] at h ⊢ <;>cases h;rfl
 |fieldAddr s x f=>simp only[gV] at h ⊢;(repeat' split at h)<;>first| (cases h;done)| (cases h;simp[*])
 |field s x f=>simp only[gV] at h ⊢;(repeat' split at h)<;>first| (cases h;done)| (rw[Option.map_eq_some_iff] at h;obtain⟨_,hx,e⟩:=h;cases e;simp[*])
 |indexAddr t x i=>simp only[gV] at h ⊢;(repeat' split at h)<;>first| (cases h;done)| (cases h;simp[*])
 |index t x i=>simp only[gV] at h ⊢;(repeat' split at h)<;>first| (cases h;done)| (rw[Option.map_eq_some_iff] at h;obtain⟨_,hx,e⟩:=h;cases e;simp[*])
 |extract t i=>simp only[gV] at h ⊢;split at h<;>first| (cases h;done)| (rw[Option.map_eq_some_iff] at h;obtain⟨_,hx,e⟩:=h;cases e;simp[*])
 |_=>cases hc
theorem AO {ρ ρ':Operand→Value}{op:Op}(h: ∀x∈op.operands,ρ x=ρ' x):gV P ρ H op=gV P ρ' H op:=by
 have UR: ∀ps:Array (Nat×Operand),(∀x∈(ps.toList.map (·.2)).toArray,ρ x=ρ' x)→
   (ps.toList.map λ(i,x)=>(i,ρ x))=(ps.toList.map λ(i,x)=>(i,ρ' x)):=λps hp=>
  List.map_congr_left λp hm=>by
   obtain⟨i,x⟩:=p;simp only[hp x (by simp;exact⟨i,by simpa using hm⟩)]
 cases op with
 |call c=>
  obtain⟨callee,args,types⟩:=c;cases callee with
  |builtin b=>
   simp only[gV];have:args.toList.map ρ=args.toList.map ρ':=List.map_congr_left λx hx=>h x (by simp[Op.operands,Call.operands];simpa using hx)
   rw[this]
  |_=>rfl
 |makeFunc fn f c=>
  have h1:f.map ρ=f.map ρ':=Array.map_congr_left λx hx=>h x (by simp[Op.operands,hx])
  have h2:c.map ρ=c.map ρ':=Array.map_congr_left λx hx=>h x (by simp[Op.operands,hx])
  cases fn<;>simp only[gV,h1,h2]
 |build t ps=>simp only[gV];rw[UR ps (by simpa[Op.operands] using h)]
 |buildSlice t n ps=>simp only[gV];rw[UR ps (by simpa[Op.operands] using h)]
 |slice t x lo hi m=>
  cases m with
  |some m=>
   simp only[gV];have h0:=h x (by simp[Op.operands])
   have h1:lo.map ρ=lo.map ρ':=by cases lo with|none=>rfl|some y=>simp[h y (by simp[Op.operands])]
   have h2:hi.map ρ=hi.map ρ':=by cases hi with|none=>rfl|some y=>simp[h y (by simp[Op.operands])]
   rw[h0,h1,h2,h m (by simp[Op.operands])]
  |none=>
   simp only[gV];have h0:=h x (by simp[Op.operands])
   have h1:lo.map ρ=lo.map ρ':=by cases lo with|none=>rfl|some y=>simp[h y (by simp[Op.operands])]
   have h2:hi.map ρ=hi.map ρ':=by cases hi with|none=>rfl|some y=>simp[h y (by simp[Op.operands])]
   rw[h0,h1,h2]
 |makeMap t r=>cases r<;>rfl
 |_=>simp only[Op.operands] at h<;>simp[gV,h]
theorem BW {C:ae}{E F:Nat→Value}{o:Oper}{ops:Array Oper}(h: ∀t∈o.looksAt ops,E t=F t):jO P C E H o=jO P C F H o:=by
 have hx: ∀x∈o.op.operands,iu E x=iu F x:=by
  intro x hx;cases x with
  |tmp t=>
   refine h t ?_;unfold Oper.looksAt;rw[List.mem_append];left
   rw[List.mem_filterMap];exact⟨.tmp t,by simpa using hx,rfl⟩
  |_=>rfl
 unfold jO;obtain⟨dst,op,type,pos,after,guard⟩:=o;cases op with
 |call c=>
  obtain⟨callee,args,types⟩:=c;cases callee with
  |value f=>
   simp only;have h1:=hx f (by simp[Op.operands,Call.operands])
   have h2:args.toList.map (iu E)=args.toList.map (iu F):=List.map_congr_left λx hm=>hx x (by simp[Op.operands,Call.operands];right;simpa using hm)
   rw[h1,h2]
  |_=>exact AO hx
 |_=>exact AO hx
theorem BX {E F:Nat→Value}{o:Oper}{ops:Array Oper}(h: ∀t∈o.looksAt ops,E t=F t):qx ops o E=qx ops o F:=by
 unfold qx;cases hg:o.guard with
 |none=>rfl
 |some q=>
  obtain⟨j,want⟩:=q;simp only;cases hd:(ops[j]?).bind (·.dst) with
  |none=>rfl
  |some d=>
   simp only;rw[h d (by unfold Oper.looksAt;rw[List.mem_append];right;simp[hg,hd])]
def gh (P:Program)(C:ae)(F:List Nat)(base k:Nat)(E:Nat→Value)(H:aa)(o:Oper):Option (Value×aa):=
 if F.contains k then pN P (iu E) (base+F.idxOf k) H o.op else jO P C E H o
theorem uy (C:ae)(F:List Nat)(base k:Nat)(E:Env)(H:aa)(o:Oper):gh P C F base k E.get H o=dA P C F base k E H o:=by
 unfold gh dA;rw[qz,gg]
theorem D3 {ρ ρ':Operand→Value}{op:Op}(h: ∀x∈op.operands,ρ x=ρ' x):AA P ρ op=AA P ρ' op:=by
 unfold AA;cases op with
 |buildSlice t n ps=>
  have:(ps.toList.map λ(i,x)=>(i,ρ x))=(ps.toList.map λ(i,x)=>(i,ρ' x)):=
   List.map_congr_left λp hm=>by
    obtain⟨i,x⟩:=p;simp only[h x (by simp[Op.operands];exact⟨i,by simpa using hm⟩)]
  simp only[this]
 |makeSlice t l c=>simp only[h l (by simp[Op.operands]),h c (by simp[Op.operands])]
 |_=>rfl
theorem wY {E F:Nat→Value}{o:Oper}{ops:Array Oper}(h: ∀t∈o.looksAt ops,E t=F t): ∀x∈o.op.operands,iu E x=iu F x:=by
 intro x hx;cases x with
 |tmp t=>
  refine h t ?_;unfold Oper.looksAt;rw[List.mem_append];left
  rw[List.mem_filterMap];exact⟨.tmp t,by simpa using hx,rfl⟩
 |_=>rfl
theorem Ab {C:ae}{F:List Nat}{base k:Nat}{E G:Nat→Value}{o:Oper}{ops:Array Oper}(h: ∀t∈o.looksAt ops,E t=G t):gh P C F base k E H o=gh P C F base k G H o:=by
 unfold gh;rw[BW h];unfold pN;rw[D3 (wY h)]
theorem uz {C:ae}(hC:gJ C){F:List Nat}{base k:Nat}{E:Nat→Value}{o:Oper}{i:Nat}{b:eS}(dx:F.contains k=true→base+F.idxOf k≠i):
  Up i b H (gh P C F base k E H o) (gh P C F base k E (H.lay i b) o):=by
 intro hf v H' h;unfold gh at h ⊢;split at h
 ·rename_i h1;rw[if_pos h1];exact AK (dx h1) hf v H' h
 ·rename_i h1;rw[if_neg h1];unfold jO at h ⊢;split at h
  ·split at h
   ·split at h
    ·rename_i h2;rw[if_pos h2];exact hC _ _ _ _ _ hf v H' h
    ·cases h
   ·exact hC _ _ _ _ _ hf v H' h
   ·cases h
  ·exact pc hf v H' h
end Go.Proofs.YtgfgglponbmgmaaGreatA.Am
end
