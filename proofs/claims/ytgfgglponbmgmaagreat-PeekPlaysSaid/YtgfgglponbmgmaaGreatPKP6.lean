/- Texts of the proof of peekPlays_holds, put together by a small program of ours (names shortened, spaces taken out). No condition beyond the given statement. -/
import Derived.Test.YtgfgglponbmgmaaGreatPKP4
import Derived.Test.YtgfgglponbmgmaaGreatPKP5
set_option linter.unusedVariables false
set_option linter.unusedSimpArgs false
set_option linter.unnecessarySimpa false
noncomputable section
section
namespace Go.Proofs.YtgfgglponbmgmaaGreatA.Am
open Go.RowKit (Below)
variable {P:Program} {μ:Mu} {H H':aa} {w:World} {B:Nat}
theorem mY {i:Nat}{b:eU}(h:i<H.length):(H.lay i b).get i=some b:=aa.je h
theorem FE {i j:Nat}{b:eU}(h:j≠i):(H.lay i b).get j=H.get j:=aa.bz h
theorem DM {i j:Nat}{b:eU}{o:dB}(h:(H.lay i b).dW j=some o):H.dW j=some o:=by
 by_cases e:j=i
 ·subst e;have hl:=aa.wh h;rw[jN] at hl;rw[aa.qp (mY hl)] at h;cases h
 ·rw[←h];exact(aa.jH (List.getElem?_set_ne (Ne.symm e))).symm
theorem cO.fill {i:Nat}(h:cO P μ H w B)(hf:ca H i)(cs:List Value)(ty t:TypeId)(es:Nat)(fh:Array Value)(n:Nat)(hn:n=fh.size)(QG:cs.all aD=true)(hle:cs.length≤fh.size)(hv:cW μ cs (fh.toList.take cs.length))(Vf: ∀(k:Nat) (v:Value),cs.length≤k→fh[k]? =some v→cu v=true):
  μ.le (μ.up i ⟨w.heap.size,0,n,es⟩)∧cO P (μ.up i ⟨w.heap.size,0,n,es⟩) (H.lay i ⟨cs,t,es,false⟩) (w.alloc (.cells fh ty)) B:=by
 subst hn;have mf:=Mu.Dp (l:=⟨w.heap.size,0,fh.size,es⟩) (h.wg i hf);have old: ∀{j:Nat} {c:eU},(H.lay i ⟨cs,t,es,false⟩).get j=some c→(j=i∧c=⟨cs,t,es,false⟩)∨(j≠i∧H.get j=some c):=by
  intro j c hc;by_cases e:j=i
  ·subst e;rw[mY hf.lt] at hc;cases hc;exact .inl ⟨rfl,rfl⟩
  ·rw[FE e] at hc;exact .inr ⟨e,hc⟩
 refine⟨mf,by have:=h.base;simp;omega,?_,?_,?_,?_,h.dW.keep mf (λ_ _=>DM) (λb x hb _=>(Go.RowKit.Below.heap_alloc _ _ _ (Array.getElem?_eq_some_iff.1 hb).1).trans hb),λk hk=>by obtain⟨h1,h2⟩:=qY (by simp) hk;rw[Mu.dO h2];exact h.wg k h1⟩
 ·intro j b hb;rcases old hb with⟨rfl,rfl⟩|⟨e,hb⟩
  ·have qZ:(w.heap.push (.cells fh ty (0,0)))[w.heap.size]? =some (.cells fh ty (0,0)):=by simp
   refine⟨_,Mu.aP,rfl,QG,(λ_ TV mQ Vg h2 k v hk Dg=>?_),fh,ty,(0,0),?_,rfl,λ_=>rfl,by simpa using hle,?_⟩
   ·have ZF:(w.heap.push (.cells fh ty (0,0)))[w.heap.size]? =some (.cells TV mQ Vg):=h2;rw[qZ] at ZF;cases ZF;exact Vf k v (by simpa using hk) Dg
   ·show(w.heap.push _)[w.heap.size]? =_;simp
   ·simpa using hv.mono mf
  ·obtain⟨l,h1,h2⟩:=h.ok j b hb;refine⟨l,mf _ _ h1,(h2.mono mf).heap ?_⟩;exact Go.RowKit.Below.heap_alloc _ _ _ h2.lt
 ·intro j hj;rw[jN] at hj;have:=hf.lt
  rw[Mu.dO (by omega)];exact h.BA j hj
 ·intro j k b c l m hb hc hl hm Av iK;rcases old hb with⟨rfl,rfl⟩|⟨e,Vy⟩<;>rcases old hc with⟨rfl,rfl⟩|⟨e2,ZH⟩
  ·exact absurd rfl Av
  ·rw[Mu.aP] at hl;cases hl;rw[Mu.dO e2] at hm;obtain⟨m',em,k'⟩:=h.ok _ _ ZH;rw[hm] at em;cases em;have:=k'.lt;show w.heap.size≠m.b;omega
  ·rw[Mu.aP] at hm;cases hm;rw[Mu.dO e] at hl;obtain⟨l',em,k'⟩:=h.ok _ _ Vy;rw[hl] at em;cases em;have:=k'.lt;show l.b≠w.heap.size;omega
  ·rw[Mu.dO e] at hl;rw[Mu.dO e2] at hm;exact h.inj j k b c l m Vy ZH hl hm Av iK
 ·intro j b l hb iK hl;rcases old hb with⟨rfl,rfl⟩|⟨e,hb⟩
  ·rw[Mu.aP] at hl;cases hl;exact h.base
  ·rw[Mu.dO e] at hl;exact h.own j b l hb iK hl
theorem uP {i0:Nat}{v0:Value}{H0:aa}{t:TypeId}{l c l' c':Value}(hS:cO P μ H w B)(kU:ca H i0)(hl:VR μ l l')(hc:VR μ c c')(h:gg P t l c []=some (v0,H0)):
  ∃n m b,v0= .slice (some ⟨0,0,none⟩) n m∧H0=[.zA b]∧Told P μ (.slice (some ⟨i0,0,none⟩) n m) (H.lay i0 b) w B ((Instr.makeSlice t l' c').run P w):=by
 unfold gg at h;split at h
 ·rename_i elem k a k' b hu;obtain rfl:=hl.int;obtain rfl:=hc.int;split at h
  ·rename_i size bytes z hz hb ZL;split at h
   ·rename_i pW;obtain⟨h0,hab,ZM,wB,G9⟩:=pW;cases h;obtain⟨i,hi,hib⟩:=qu hb;obtain⟨_,pG,n,hn,BD⟩:=dU ZL w;rw[hz] at hn;cases hn;have w1:IntKind.i64.wrap a=a:=by rw[IntKind.wrap_i64];omega
    have w2:IntKind.i64.wrap b=b:=by rw[IntKind.wrap_i64];omega
    have uJ:(0:Nat)<size:=by omega
    have dz:b.toNat*size=0↔b.toNat=0:=by simp[Nat.mul_eq_zero];omega
    have hmul:(i.bytes:Int)*b≤17592186044416:=by
     have h1:(i.bytes:Int)≤4096:=by omega
     have h2:0≤b:=by omega
     calc (i.bytes:Int)*b≤4096*b:=Int.mul_le_mul_of_nonneg_right h1 h2
      _≤17592186044416:=by omega
    have qZ: ∃fh:Array Value,fh.toList=bL z.cells.toList b.toNat∧(Instr.makeSlice t (.int k a) (.int k' b)).run P w= .ok (.slice (some ⟨w.heap.size,0,none⟩) a.toNat b.toNat) (w.alloc (.cells fh elem)):=by
     have Vk: ¬(b<0∨(281474976710656:Int)<(i.bytes:Int)*b):=by omega
     by_cases ZN:b.toNat=0
     ·refine⟨(Array.range 0).map (λ_=>default),by simp[ZN,bL],?_⟩
      have:b=0:=by omega
      subst this;have:a=0:=by omega
      subst this;simp[Instr.makeSlice,run_underlying hu,asInt,asIntOf,kR hi,IntKind.wrap_i64,eu hz,newRow]
     ·refine⟨(Array.range (b.toNat*size)).map (λi=>z.cells[i%z.cells.size]!),by rw[←mE _ _ (by omega),BD],?_⟩
      have hbl: ¬(a<0∨b<a):=by omega
      simp[Instr.makeSlice,run_underlying hu,asInt,asIntOf,kR hi,w1,w2,eu hz,newRow,(dU ZL _).1];rw[if_neg (by rintro(((h|h)|h)|h)<;>omega),if_neg (λe=>ZN (dz.1 e))]
    obtain⟨fh,e,dH⟩:=qZ;rw[dH];have hlen:fh.size=b.toNat*size:=by
     have:=congrArg List.length e
     rw[fj] at this;simp at this;rw[this,BD]
    obtain⟨h1,h2⟩:=hS.fill kU (bL z.cells.toList b.toNat) elem elem size fh fh.size rfl (mF pG _) (by rw[←e];simp) (by rw[←e,List.take_length,e];exact kJ pG _) (λk v hk hv=>by have:=(Array.getElem?_eq_some_iff.1 hv).1;rw[←e] at hk;simp at hk;omega)
    refine⟨a.toNat,b.toNat,_,rfl,rfl,_,_,_,rfl,h1,?_,h2,(eV.refl _ _).alloc hS.base _⟩;have:=VR.slice (μ:=μ.up i0 ⟨w.heap.size,0,fh.size,size⟩) i0 0 a.toNat b.toNat b.toNat _ Mu.aP (by omega) (Nat.le_refl _) (by simp[hlen])
    simpa using this
   ·cases h
  ·cases h
 ·cases h
theorem tj {i0:Nat}{v0:Value}{H0:aa}{t:TypeId}{n:Nat}{ps zD:List (Nat×Value)}(hS:cO P μ H w B)(kU:ca H i0)(h1:ps.map (·.1)=zD.map (·.1))(h2:cW μ (ps.map (·.2)) (zD.map (·.2)))(h:ay P t n ps []=some (v0,H0)): ∃b,H0=[.zA b]∧Told P μ (.slice (some ⟨i0,0,none⟩) n n) (H.lay i0 b) w B ((Instr.buildSlice t n zD.toArray).run P w):=by
 unfold ay at h;split at h
 ·cases h
 ·rename_i hk;have DB:ps.all (λp=>p.2.cells.toList.all aD)=true:=by simpa using hk
  have hk:ps.all (λp=>known p.2)=true:=by
   rw[List.all_eq_true] at DB ⊢;intro p hp;have:=DB p hp
   revert this
   cases p.2<;>simp[Value.cells,aD,known]
  split at h
  ·rename_i elem hu;split at h
   ·rename_i size z hs hz;split at h
    ·rename_i hc;simp only[Bool.and_eq_true,decide_eq_true_eq,ne_eq] at hc;obtain⟨wC,uJ⟩:=hc;obtain⟨E9,pG,m,hm,BD⟩:=dU hz w;rw[hs] at hm;cases hm;cases hf:Instr.fill (λi=>some (i*size,size)) (bL z.cells.toList n).toArray ps with
     |none=>rw[hf] at h;cases h
     |some cs=>
      rw[hf] at h;cases h;obtain⟨fh,zL,hv⟩:=mV (fh:=(bL z.cells.toList n).toArray) _ (by simpa using kJ pG n) h1 h2 hk hf
      have hlen:fh.size=n*size:=by
       rw[Az _ zL];simp[fj,BD]
      have dH:(Instr.buildSlice t n zD.toArray).run P w= .ok (.slice (some ⟨w.heap.size,0,none⟩) n n) (w.alloc (.cells fh elem)):=by
       have ab4:(0:Nat)<size:=Nat.pos_of_ne_zero (by simpa using uJ)
       have Jr: ¬(n*size>2^24):=by simpa using wC
       by_cases h0:n=0
       ·subst h0;have e:(bL z.cells.toList 0).toArray=(Array.range (0*size)).map (λi=>(#[]:Array Value)[i%(#[]:Array Value).size]!):=by simp[bL]
        rw[e] at zL;simp only[Instr.buildSlice,Sem.run_bind,run_underlying hu,eu hs,Result.andThen_ok,Sem.run_ite,Sem.run_pure,Nat.zero_mul,if_true];simp only[Nat.zero_mul] at zL;simp only[zL];rfl
       ·have dz: ¬n*size=0:=by simp[Nat.mul_eq_zero];omega
        have e:(bL z.cells.toList n).toArray=(Array.range (n*size)).map (λi=>z.cells[i%z.cells.size]!):=by
         rw[←mE _ _ (by omega),BD]
        rw[e] at zL;simp only[Instr.buildSlice,Sem.run_bind,run_underlying hu,eu hs,Result.andThen_ok,Sem.run_ite,Jr,if_false,Sem.run_pure,dz,E9,zL];rfl
      rw[dH];obtain⟨g1,g2⟩:=hS.fill kU cs.toList elem elem size fh fh.size rfl (DA _ (by simpa using mF pG n) DB hf) (by have:=hv.1;simp at this ⊢;omega) (by rw[hv.1,List.take_length];exact hv) (λk v hk Dg=>by have:=hv.1;have:=(Array.getElem?_eq_some_iff.1 Dg).1;simp at *;omega)
      refine⟨_,rfl,_,_,_,rfl,g1,?_,g2,(eV.refl _ _).alloc hS.base _⟩;have:=VR.slice (μ:=μ.up i0 ⟨w.heap.size,0,fh.size,size⟩) i0 0 n n n _ Mu.aP (Nat.le_refl _) (Nat.le_refl _) (by simp[hlen])
      simpa using this
    ·cases h
   ·cases h
  ·cases h
theorem DN {i:Nat}{ρ ρ':Operand→Value}{o:Oper}{v:Value}(hS:cO P μ H w B)(hρ: ∀x,VR μ (ρ x) (ρ' x))(h:pR P ρ i H o.op=some (v,H')):
  fW P μ v H' w B ((execOp ρ' o).run P w):=by
 obtain⟨dst,op,type,pos,after,guard⟩:=o;simp only at h;unfold pR at h;split at h
 case h_2=>cases h
 rename_i hf;split at h
 case h_2=>cases h
 rename_i mk b hb;cases h;unfold At at hb;split at hb<;>(unfold execOp;try simp only)
 ·
  rename_i t;split at hb
  ·rename_i z hz;obtain⟨E9,pG,_⟩:=dU hz w;cases hb;have QG:=qw pG;have mi:=jR (μ:=μ) pG;obtain⟨h1,h2⟩:=hS.fill hf z.cells.toList t t 1 z.cells z.cells.size rfl QG (by simp) (by rw[List.take_of_length_le (by simp)];exact mi) (λk v hk hv=>by have:=(Array.getElem?_eq_some_iff.1 hv).1;simp at hk;omega)
   refine Told.next ?_;have e:(Instr.alloc t true (.tuple #[])).run P w= .ok (.pointer (some ⟨w.heap.size,0,none⟩)) (w.alloc (.cells z.cells t)):=by
    simp[Instr.alloc,E9,newVar,newRow]
   rw[e];refine⟨_,_,_,rfl,h1,?_,h2,(eV.refl _ _).alloc hS.base _⟩;have:=VR.ptr (μ:=μ.up i ⟨w.heap.size,0,z.cells.size,1⟩) i 0 _ Mu.aP
   simpa using this
  ·cases hb
 ·
  rename_i t n ps;split at hb
  ·rename_i v0 b0 h0;cases hb;obtain⟨b1,e1,hT⟩:=tj (P:=P) hS hf (sZ (ρ':=ρ') ps.toList) (cW.parts hρ ps.toList) h0;cases e1;have e:(ps.map λ(i,x)=>(i,ρ' x))=(ps.toList.map λ(i,x)=>(i,ρ' x)).toArray:=by
    rw[←Array.toList_inj];simp
   simp only[e];exact hT.next
  ·cases hb
 ·
  rename_i t l c;split at hb
  ·rename_i a0 n0 m0 b0 h0;cases hb;obtain⟨n1,m1,b1,e1,e2,hT⟩:=uP (P:=P) hS hf (hρ _) (hρ _) h0;cases e1;cases e2;exact hT.next
  ·cases hb
 ·cases hb
variable {P:Program} {μ:Mu} {H H':aa} {w:World} {B:Nat}
def BQ (acc:Array Nat)(es:List Edge)(s:Nat):Nat:=
 es.foldl (λs e=>if Region.binds .any e then s ||| 2^e.on ||| acc.getD e.on 0 else s) s
theorem uj (acc:Array Nat): ∀(es:List Edge) (s i:Nat),(BQ acc es s).testBit i=true→
  s.testBit i=true∨∃e∈es,Region.binds .any e=true∧(i=e.on∨(acc.getD e.on 0).testBit i=true)
 | [],s,i,h=>.inl h
 |e::r,s,i,h=>by
  have h':(BQ acc r (if Region.binds .any e then s ||| 2^e.on ||| acc.getD e.on 0 else s)).testBit i=true:=h
  rcases uj acc r _ i h' with h1|⟨e',he,hb⟩
  ·split at h1
   ·rename_i hb;rw[Nat.testBit_or,Nat.testBit_or,Nat.testBit_two_pow] at h1;simp only[Bool.or_eq_true,decide_eq_true_eq] at h1;rcases h1 with(h1|h1)|h1
    ·exact .inl h1
    ·exact .inr ⟨e,by simp,hb,.inl h1.symm⟩
    ·exact .inr ⟨e,by simp,hb,.inr h1⟩
   ·exact .inl h1
  ·exact .inr ⟨e',by simp[he],hb⟩
def FG (ops:Array Oper)(acc:Array Nat):Prop:=
 ∀j,j<acc.size→∀i,(acc.getD j 0).testBit i=true→∃o,ops[j]? =some o∧∃e∈o.after,Region.binds .any e=true∧(i=e.on∨(e.on<j∧(acc.getD e.on 0).testBit i=true))
theorem uk (ops:Array Oper): ∀(l:List Oper) (acc:Array Nat),(∀k o,l[k]? =some o→ops[acc.size+k]? =some o)→FG ops acc→
  FG ops (l.foldl (λacc o=>acc.push (o.after.foldl (λs e=>if Region.binds .any e then s ||| 2^e.on ||| acc.getD e.on 0 else s) 0)) acc)
 | [],acc,_,h=>h
 |o::r,acc,hl,h=>by
  rw[List.foldl_cons];refine uk ops r _ (λk o' hk=>?_) ?_
  ·have:=hl (k+1) o' (by simpa using hk)
   rw[Array.size_push,show acc.size+1+k=acc.size+(k+1) by omega];exact this
  ·intro j hj i hi;rw[Array.size_push] at hj;by_cases e:j=acc.size
   ·subst e;have e0: ∀x:Nat,(acc.push x).getD acc.size 0=x:=λx=>by simp[Array.getD_eq_getD_getElem?]
    rw[e0, ←Array.foldl_toList] at hi;have qv:(BQ acc o.after.toList 0).testBit i=true:=hi;rcases uj acc _ 0 i qv with h0|⟨e,he,hb,h1⟩
    ·simp at h0
    ·refine⟨o,by simpa using hl 0 o rfl,e,by simpa using he,hb,?_⟩
     rcases h1 with h1|h1
     ·exact .inl h1
     ·right
      have gG:e.on<acc.size:=by
       by_cases hl:e.on<acc.size
       ·exact hl
       ·rw[Array.getD_eq_getD_getElem?,Array.getElem?_eq_none (by omega)] at h1;simp at h1
      refine⟨gG,?_⟩;rw[Array.getD_eq_getD_getElem?,Array.getElem?_push_lt gG];rw[Array.getD_eq_getD_getElem?,Array.getElem?_eq_getElem gG] at h1;exact h1
   ·have gG:j<acc.size:=by omega
    have e1: ∀k,k<acc.size→∀s,(acc.push s).getD k 0=acc.getD k 0:=by
     intro k hk s;rw[Array.getD_eq_getD_getElem?,Array.getD_eq_getD_getElem?,Array.getElem?_push_lt hk,Array.getElem?_eq_getElem hk]
    rw[e1 j gG] at hi;obtain⟨o',ho,e,he,hb,h1⟩:=h j gG i hi;refine⟨o',ho,e,he,hb,?_⟩;rcases h1 with h1|⟨h1,h2⟩
    ·exact .inl h1
    ·exact .inr ⟨h1,by rw[e1 _ (by omega)];exact h2⟩
theorem wP (ops:Array Oper):FG ops (Region.before ops):=by
 unfold Region.before;rw[←Array.foldl_toList];exact uk ops ops.toList #[] (λk o hk=>by simpa using hk) (λj hj=>by simp at hj)
theorem wQ {ops:Array Oper}{L:Nat→Bool}(Dz: ∀j o,ops[j]? =some o→L j=true→∀e∈o.after,Region.binds .any e=true→L e.on=true):
  ∀j,L j=true→∀i,vf (Region.before ops) i j=true→L i=true:=by
 intro j;induction j using Nat.strongRecOn with
 |_ j ih=>
  intro hj i hi;unfold vf at hi;have gG:j<(Region.before ops).size:=by
   by_cases h:j<(Region.before ops).size
   ·exact h
   ·rw[Array.getD_eq_getD_getElem?,Array.getElem?_eq_none (by omega)] at hi;simp at hi
  obtain⟨o,ho,e,he,hb,h1⟩:=wP ops j gG i hi;have Zb:=Dz j o ho hj e he hb;rcases h1 with rfl|⟨gG,h2⟩
  ·exact Zb
  ·exact ih e.on gG Zb i h2
theorem Nj {ops:Array Oper}(he:vg ops=true): ∀j i,vf (Region.before ops) i j=true→i<j:=by
 intro j;induction j using Nat.strongRecOn with
 |_ j ih=>
  intro i hi;unfold vf at hi;have gG:j<(Region.before ops).size:=by
   by_cases h:j<(Region.before ops).size
   ·exact h
   ·rw[Array.getD_eq_getD_getElem?,Array.getElem?_eq_none (by omega)] at hi;simp at hi
  obtain⟨o,ho,e,hem,hb,h1⟩:=wP ops j gG i hi;have hj:j<ops.size:=(Array.getElem?_eq_some_iff.1 ho).1;have:=List.all_eq_true.1 he j (List.mem_range.2 hj)
  simp only[ho] at this;have Zb:e.on<j:=by
   have:=Array.all_eq_true_iff_forall_mem.1 this e hem
   simpa[hb] using this
  rcases h1 with rfl|⟨_,h2⟩
  ·exact Zb
  ·exact Nat.lt_trans (ih e.on Zb i h2) Zb
theorem FH {C:ae}{base k:Nat}{E:Env}{o:Oper}:dw P C [] base k E H o=gz P C E H o:=by simp[dw]
theorem iX {C:ae}{base:Nat}{ops:Array Oper}: ∀(l:List Oper) (k:Nat) (E:Env) (H:aa),cX P C [] base ops l k E H=eF P C ops l E H∧eo P C [] base ops l k E H=trace P C ops l E H
 | [],k,E,H=>⟨rfl,rfl⟩
 |o::r,k,E,H=>by
  simp only[cX,eF,eo,trace,FH];refine⟨?_,?_⟩
  ·split
   ·split
    ·exact(iX r _ _ _).1
    ·rfl
   ·exact(iX r _ _ _).1
   ·rfl
  ·congr 1
   split
   ·split
    ·exact(iX r _ _ _).2
    ·rfl
   ·exact(iX r _ _ _).2
   ·rfl
def wR (P:Program)(C:ae)(F:List Nat)(base:Nat)(ops:Array Oper)(k:Nat)(o:Oper)(s:Env×aa)(s':Env×aa)(v:Value):Prop:=
 s'.1=s.1.put o.dst v∧((dC ops o s.1=some true∧dw P C F base k s.1 s.2 o=some (v,s'.2))∨(dC ops o s.1=some false∧v=undef∧s'.2=s.2))
theorem FI {C:ae}{F:List Nat}{base:Nat}{ops:Array Oper}: ∀(l:List Oper) (k0:Nat) (E:Env) (H:aa) (r:Env×aa),cX P C F base ops l k0 E H=some r→
  ∃(S:Nat→Env×aa) (val:Nat→Value),S 0=(E,H)∧S l.length=r∧(∀k o,l[k]? =some o→wR P C F base ops (k0+k) o (S k) (S (k+1)) (val k))∧
   (∀k,k≤l.length→(eo P C F base ops l k0 E H)[k]? =some (S k)):=by
 intro l;induction l with
 |nil=>
  intro k0 E H r h;simp only[cX] at h;cases h;exact⟨λ_=>(E,H),λ_=>undef,rfl,rfl,λk o hk=>by simp at hk,λk hk=>by simp at hk;subst hk;rfl⟩
 |cons o l ih=>
  intro k0 E H r h;simp only[cX] at h;have go: ∀(E1:Env) (H1:aa) (v:Value),cX P C F base ops l (k0+1) E1 H1=some r→wR P C F base ops k0 o (E,H) (E1,H1) v→(eo P C F base ops (o::l) k0 E H)=(E,H)::eo P C F base ops l (k0+1) E1 H1→
    ∃(S:Nat→Env×aa) (val:Nat→Value),S 0=(E,H)∧S (o::l).length=r∧(∀k o',(o::l)[k]? =some o'→wR P C F base ops (k0+k) o' (S k) (S (k+1)) (val k))∧
     (∀k,k≤(o::l).length→(eo P C F base ops (o::l) k0 E H)[k]? =some (S k)):=by
   intro E1 H1 v h1 hs ht;obtain⟨S,val,h0,hl,kq,ZW⟩:=ih (k0+1) E1 H1 r h1;refine⟨λk=>match k with|0=>(E,H)|k+1=>S k,λk=>match k with|0=>v|k+1=>val k,rfl,hl,?_,?_⟩
   ·intro k o' hk;cases k with
    |zero=>simp at hk;subst hk;show wR P C F base ops (k0+0) o (E,H) (S 0) v;rw[h0];exact hs
    |succ k=>have:=kq k o' (by simpa using hk);rw[show k0+1+k=k0+(k+1) by omega] at this;exact this
   ·intro k hk;rw[ht];cases k with
    |zero=>rfl
    |succ k=>simp only[List.getElem?_cons_succ];exact ZW k (by simpa using hk)
  split at h
  ·rename_i hw;cases hx:dw P C F base k0 E H o with
   |none=>rw[hx] at h;cases h
   |some q=>
    obtain⟨v,H1⟩:=q;rw[hx] at h;exact go _ _ v h ⟨rfl,.inl ⟨hw,hx⟩⟩ (by simp only[eo,hw,hx])
  ·rename_i hw;exact go _ _ undef h ⟨rfl,.inr ⟨hw,rfl,rfl⟩⟩ (by simp only[eo,hw])
  ·cases h
theorem AG {ρ:Operand→Value}{op:Op}{v:Value}(hc:cls P op≠ .zB)(hb:cls P op≠ .bad)(h:gU P ρ H op=some (v,H')):H'=H:=by
 cases op with
 |call c=>
  obtain⟨callee,args,types⟩:=c;cases callee with
  |builtin b=>
   simp only[gU] at h;cases b<;>first| (exact absurd rfl hc)| (exact absurd rfl hb)|skip
   all_goals
    unfold jQ at h;split at h<;>first
     | (rw[Option.map_eq_some_iff] at h;obtain⟨_,_,e⟩:=h;cases e;rfl)
     | (split at h<;>first| (cases h;rfl)| (cases h))
     | (cases h)
     | (rename_i e _;cases e)
  |value f=>exact absurd rfl hc
  |invoke r m=>exact absurd rfl hb
 |move x=>simp only[gU] at h;cases h;rfl
 |assign x=>simp only[gU] at h;cases h;rfl
 |pick c a b=>simp only[gU] at h;split at h<;>cases h;rfl
 |build t ps=>simp only[gU,Option.map_eq_some_iff] at h;obtain⟨_,_,e⟩:=h;cases e;rfl
 |load t a=>simp only[gU,Option.map_eq_some_iff] at h;obtain⟨_,_,e⟩:=h;cases e;rfl
 |nilCheck x=>simp only[gU] at h;split at h<;>cases h<;>rfl
 |binOp o t x y yt=>simp only[gU,Option.map_eq_some_iff] at h;obtain⟨_,_,e⟩:=h;cases e;rfl
 |unOp o t x=>simp only[gU,Option.map_eq_some_iff] at h;obtain⟨_,_,e⟩:=h;cases e;rfl
 |convert s t x=>simp only[gU] at h;split at h<;>cases h;rfl
 |makeFunc fn f c=>cases fn<;>simp only[gU] at h<;>cases h;rfl
 |slice t x lo hi m=>cases m<;>simp only[gU] at h<;>first| (cases h)| (rw[Option.map_eq_some_iff] at h;obtain⟨_,_,e⟩:=h;cases e;rfl)
 |fieldAddr s x f=>simp only[gU] at h;(repeat' split at h)<;>cases h;rfl
 |field s x f=>simp only[gU] at h;(repeat' split at h)<;>first| (cases h;done)| (rw[Option.map_eq_some_iff] at h;obtain⟨_,_,e⟩:=h;cases e;rfl)
 |indexAddr t x i=>simp only[gU] at h;(repeat' split at h)<;>cases h<;>rfl
 |index t x i=>simp only[gU] at h;(repeat' split at h)<;>first| (cases h;done)| (rw[Option.map_eq_some_iff] at h;obtain⟨_,_,e⟩:=h;cases e;rfl)
 |lookup t m x ok=>simp only[gU,Option.map_eq_some_iff] at h;obtain⟨_,_,e⟩:=h;cases e;rfl
 |extract t i=>simp only[gU] at h;split at h<;>first| (cases h;done)| (rw[Option.map_eq_some_iff] at h;obtain⟨_,_,e⟩:=h;cases e;rfl)
 |_=>first| (exact absurd rfl hc)| (exact absurd rfl hb)
theorem Nk {ρ:Operand→Value}{op:Op}{v:Value}(hc:cls P op= .pure)(h:gU P ρ H op=some (v,H'))(H2:aa):gU P ρ H2 op=some (v,H2):=by
 cases op with
 |call c=>
  obtain⟨callee,args,types⟩:=c;cases callee with
  |builtin b=>
   simp only[gU] at h ⊢;have hlen: ∀(H2:aa) x,cls P (.call {callee:=.builtin .len,args:=args,argTypes:=types})= .pure→∀v,Bw P H types x=some v→Bw P H2 types x=some v:=by
    intro H2 x hc v hx;simp only[cls] at hc;unfold Bw at hx ⊢;cases ht:types[0]? with
    |none=>rw[ht] at hx;cases hx
    |some t=>
     rw[ht] at hx hc;simp only[Option.bind_some] at hc hx ⊢;cases hu:P.underlying t with
     |none=>rw[hu] at hx;cases hx
     |some d=>
      rw[hu] at hx hc;cases d<;>first| (cases hc;done)|exact hx| (cases x<;>exact hx)
   cases b<;>first| (cases hc;done)|skip
   all_goals
    unfold jQ at h ⊢;split at h<;>first
     | (rw[Option.map_eq_some_iff] at h;obtain⟨_,hx,e⟩:=h;cases e;simp[hlen H2 _ hc _ hx];done)
     | (rw[Option.map_eq_some_iff] at h;obtain⟨_,hx,e⟩:=h;cases e;simp[hx];done)
     | (split at h<;>first| (rename_i hx;cases h;simp[hx];done)| (cases h;done))
     | (cases h;done)
     | (rename_i e _;cases e;done)
  |value f=>cases hc
  |invoke r m=>cases hc
 |move x=>simp only[gU] at h ⊢;cases h;rfl
 |assign x=>simp only[gU] at h ⊢;cases h;rfl
 |pick c a b=>simp only[gU] at h ⊢;split at h<;>first| (cases h;done)| (rename_i hx;cases h;simp[hx])
 |build t ps=>simp only[gU,Option.map_eq_some_iff] at h ⊢;obtain⟨x,hx,e⟩:=h;cases e;exact⟨_,hx,rfl⟩
 |nilCheck x=>simp only[gU] at h ⊢;split at h<;>first| (cases h;done)| (rename_i hx;cases h;simp[hx])
 |binOp o t x y yt=>simp only[gU,Option.map_eq_some_iff] at h ⊢;obtain⟨x,hx,e⟩:=h;cases e;exact⟨_,hx,rfl⟩
 |unOp o t x=>simp only[gU,Option.map_eq_some_iff] at h ⊢;obtain⟨x,hx,e⟩:=h;cases e;exact⟨_,hx,rfl⟩
 |convert s t x=>simp only[gU] at h ⊢;split at h<;>first| (cases h;done)| (rename_i h1 h2 h3;cases h;simp[h1,h2,h3])
 |makeFunc fn f c=>cases fn<;>simp only[gU] at h ⊢ <;>cases h;rfl
 |fieldAddr s x f=>simp only[gU] at h ⊢;(repeat' split at h)<;>first| (cases h;done)| (cases h;simp[*])
 |field s x f=>simp only[gU] at h ⊢;(repeat' split at h)<;>first| (cases h;done)| (rw[Option.map_eq_some_iff] at h;obtain⟨_,hx,e⟩:=h;cases e;simp[*])
 |indexAddr t x i=>simp only[gU] at h ⊢;(repeat' split at h)<;>first| (cases h;done)| (cases h;simp[*])
 |index t x i=>simp only[gU] at h ⊢;(repeat' split at h)<;>first| (cases h;done)| (rw[Option.map_eq_some_iff] at h;obtain⟨_,hx,e⟩:=h;cases e;simp[*])
 |extract t i=>simp only[gU] at h ⊢;split at h<;>first| (cases h;done)| (rw[Option.map_eq_some_iff] at h;obtain⟨_,hx,e⟩:=h;cases e;simp[*])
 |_=>cases hc
theorem AH {ρ ρ':Operand→Value}{op:Op}(h: ∀x∈op.operands,ρ x=ρ' x):gU P ρ H op=gU P ρ' H op:=by
 have T0: ∀ps:Array (Nat×Operand),(∀x∈(ps.toList.map (·.2)).toArray,ρ x=ρ' x)→
   (ps.toList.map λ(i,x)=>(i,ρ x))=(ps.toList.map λ(i,x)=>(i,ρ' x)):=λps hp=>
  List.map_congr_left λp hm=>by
   obtain⟨i,x⟩:=p;simp only[hp x (by simp;exact⟨i,by simpa using hm⟩)]
 cases op with
 |call c=>
  obtain⟨callee,args,types⟩:=c;cases callee with
  |builtin b=>
   simp only[gU];have:args.toList.map ρ=args.toList.map ρ':=List.map_congr_left λx hx=>h x (by simp[Op.operands,Call.operands];simpa using hx)
   rw[this]
  |_=>rfl
 |makeFunc fn f c=>
  have h1:f.map ρ=f.map ρ':=Array.map_congr_left λx hx=>h x (by simp[Op.operands,hx])
  have h2:c.map ρ=c.map ρ':=Array.map_congr_left λx hx=>h x (by simp[Op.operands,hx])
  cases fn<;>simp only[gU,h1,h2]
 |build t ps=>simp only[gU];rw[T0 ps (by simpa[Op.operands] using h)]
 |buildSlice t n ps=>simp only[gU];rw[T0 ps (by simpa[Op.operands] using h)]
 |slice t x lo hi m=>
  cases m with
  |some m=>
   simp only[gU];have h0:=h x (by simp[Op.operands])
   have h1:lo.map ρ=lo.map ρ':=by cases lo with|none=>rfl|some y=>simp[h y (by simp[Op.operands])]
   have h2:hi.map ρ=hi.map ρ':=by cases hi with|none=>rfl|some y=>simp[h y (by simp[Op.operands])]
   rw[h0,h1,h2,h m (by simp[Op.operands])]
  |none=>
   simp only[gU];have h0:=h x (by simp[Op.operands])
   have h1:lo.map ρ=lo.map ρ':=by cases lo with|none=>rfl|some y=>simp[h y (by simp[Op.operands])]
   have h2:hi.map ρ=hi.map ρ':=by cases hi with|none=>rfl|some y=>simp[h y (by simp[Op.operands])]
   rw[h0,h1,h2]
 |makeMap t r=>cases r<;>rfl
 |_=>simp only[Op.operands] at h<;>simp[gU,h]
theorem BR {C:ae}{E F:Nat→Value}{o:Oper}{ops:Array Oper}(h: ∀t∈o.looksAt ops,E t=F t):jK P C E H o=jK P C F H o:=by
 have hx: ∀x∈o.op.operands,iq E x=iq F x:=by
  intro x hx;cases x with
  |tmp t=>
   refine h t ?_;unfold Oper.looksAt;rw[List.mem_append];left
   rw[List.mem_filterMap];exact⟨.tmp t,by simpa using hx,rfl⟩
  |_=>rfl
 unfold jK;obtain⟨dst,op,type,pos,after,guard⟩:=o;cases op with
 |call c=>
  obtain⟨callee,args,types⟩:=c;cases callee with
  |value f=>
   simp only;have h1:=hx f (by simp[Op.operands,Call.operands])
   have h2:args.toList.map (iq E)=args.toList.map (iq F):=List.map_congr_left λx hm=>hx x (by simp[Op.operands,Call.operands];right;simpa using hm)
   rw[h1,h2]
  |_=>exact AH hx
 |_=>exact AH hx
theorem BS {E F:Nat→Value}{o:Oper}{ops:Array Oper}(h: ∀t∈o.looksAt ops,E t=F t):qz ops o E=qz ops o F:=by
 unfold qz;cases hg:o.guard with
 |none=>rfl
 |some q=>
  obtain⟨j,want⟩:=q;simp only;cases hd:(ops[j]?).bind (·.dst) with
  |none=>rfl
  |some d=>
   simp only;rw[h d (by unfold Oper.looksAt;rw[List.mem_append];right;simp[hg,hd])]
def gj (P:Program)(C:ae)(F:List Nat)(base k:Nat)(E:Nat→Value)(H:aa)(o:Oper):Option (Value×aa):=
 if F.contains k then pR P (iq E) (base+F.idxOf k) H o.op else jK P C E H o
theorem um (C:ae)(F:List Nat)(base k:Nat)(E:Env)(H:aa)(o:Oper):gj P C F base k E.get H o=dw P C F base k E H o:=by
 unfold gj dw;rw[qB,gi]
theorem DO {ρ ρ':Operand→Value}{op:Op}(h: ∀x∈op.operands,ρ x=ρ' x):At P ρ op=At P ρ' op:=by
 unfold At;cases op with
 |buildSlice t n ps=>
  have:(ps.toList.map λ(i,x)=>(i,ρ x))=(ps.toList.map λ(i,x)=>(i,ρ' x)):=
   List.map_congr_left λp hm=>by
    obtain⟨i,x⟩:=p;simp only[h x (by simp[Op.operands];exact⟨i,by simpa using hm⟩)]
  simp only[this]
 |makeSlice t l c=>simp only[h l (by simp[Op.operands]),h c (by simp[Op.operands])]
 |_=>rfl
theorem wS {E F:Nat→Value}{o:Oper}{ops:Array Oper}(h: ∀t∈o.looksAt ops,E t=F t): ∀x∈o.op.operands,iq E x=iq F x:=by
 intro x hx;cases x with
 |tmp t=>
  refine h t ?_;unfold Oper.looksAt;rw[List.mem_append];left
  rw[List.mem_filterMap];exact⟨.tmp t,by simpa using hx,rfl⟩
 |_=>rfl
theorem zU {C:ae}{F:List Nat}{base k:Nat}{E G:Nat→Value}{o:Oper}{ops:Array Oper}(h: ∀t∈o.looksAt ops,E t=G t):gj P C F base k E H o=gj P C F base k G H o:=by
 unfold gj;rw[BR h];unfold pR;rw[DO (wS h)]
theorem uo {C:ae}(hC:gK C){F:List Nat}{base k:Nat}{E:Nat→Value}{o:Oper}{i:Nat}{b:eU}(dz:F.contains k=true→base+F.idxOf k≠i):
  Up i b H (gj P C F base k E H o) (gj P C F base k E (H.lay i b) o):=by
 intro hf v H' h;unfold gj at h ⊢;split at h
 ·rename_i h1;rw[if_pos h1];exact AD (dz h1) hf v H' h
 ·rename_i h1;rw[if_neg h1];unfold jK at h ⊢;split at h
  ·split at h
   ·split at h
    ·rename_i h2;rw[if_pos h2];exact hC _ _ _ _ _ hf v H' h
    ·cases h
   ·exact hC _ _ _ _ _ hf v H' h
   ·cases h
  ·exact pf hf v H' h
end Go.Proofs.YtgfgglponbmgmaaGreatA.Am
end
