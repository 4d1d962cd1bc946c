/- Texts of the proof of helpLogic_holds, put together by a small program of ours (names shortened, spaces taken out). No condition beyond the given statement. -/
import Derived.Test.YtgfgglponbmgmaaGreatHLG4
import Derived.Test.YtgfgglponbmgmaaGreatHLG5
set_option linter.unusedVariables false
set_option linter.unusedSimpArgs false
set_option linter.unnecessarySimpa false
noncomputable section
section
namespace Go.Proofs.YtgfgglponbmgmaaGreatA.Am
open Go.RowKit (Below)
variable {P:Program} {μ:Mu} {H H':aa} {w:World} {B:Nat}
theorem mQ {i:Nat}{b:eM}(h:i<H.length):(H.lay i b).get i=some b:=aa.iZ h
theorem Fc {i j:Nat}{b:eM}(h:j≠i):(H.lay i b).get j=H.get j:=aa.bt h
theorem Du {i j:Nat}{b:eM}{o:dA}(h:(H.lay i b).dT j=some o):H.dT j=some o:=by
 by_cases e:j=i
 ·subst e;have hl:=aa.vO h;rw[jI] at hl;rw[aa.qo (mQ hl)] at h;cases h
 ·rw[←h];exact(aa.jC (List.getElem?_set_ne (Ne.symm e))).symm
theorem cJ.fill {i:Nat}(h:cJ P μ H w B)(hf:bX H i)(cs:List Value)(ty t:TypeId)(es:Nat)(eX:Array Value)(n:Nat)(hn:n=eX.size)(PZ:cs.all aD=true)(hle:cs.length≤eX.size)(hv:cT μ cs (eX.toList.take cs.length))(Ub: ∀(k:Nat) (v:Value),cs.length≤k→eX[k]? =some v→cp v=true):
  μ.le (μ.up i ⟨w.heap.size,0,n,es⟩)∧cJ P (μ.up i ⟨w.heap.size,0,n,es⟩) (H.lay i ⟨cs,t,es,false⟩) (w.alloc (.cells eX ty)) B:=by
 subst hn;have lW:=Mu.C6 (l:=⟨w.heap.size,0,eX.size,es⟩) (h.vN i hf);have old: ∀{j:Nat} {c:eM},(H.lay i ⟨cs,t,es,false⟩).get j=some c→(j=i∧c=⟨cs,t,es,false⟩)∨(j≠i∧H.get j=some c):=by
  intro j c hc;by_cases e:j=i
  ·subst e;rw[mQ hf.lt] at hc;cases hc;exact .inl ⟨rfl,rfl⟩
  ·rw[Fc e] at hc;exact .inr ⟨e,hc⟩
 refine⟨lW,by have:=h.base;simp;omega,?_,?_,?_,?_,h.dT.keep lW (λ_ _=>Du) (λb x hb _=>(Go.RowKit.Below.heap_alloc _ _ _ (Array.getElem?_eq_some_iff.1 hb).1).trans hb),λk hk=>by obtain⟨h1,h2⟩:=qT (by simp) hk;rw[Mu.dL h2];exact h.vN k h1⟩
 ·intro j b hb;rcases old hb with⟨rfl,rfl⟩|⟨e,hb⟩
  ·have qU:(w.heap.push (.cells eX ty (0,0)))[w.heap.size]? =some (.cells eX ty (0,0)):=by simp
   refine⟨_,Mu.aP,rfl,PZ,(λ_ SU nE Uc h2 k v hk CW=>?_),eX,ty,(0,0),?_,rfl,λ_=>rfl,by simpa using hle,?_⟩
   ·have YI:(w.heap.push (.cells eX ty (0,0)))[w.heap.size]? =some (.cells SU nE Uc):=h2;rw[qU] at YI;cases YI;exact Ub k v (by simpa using hk) CW
   ·show(w.heap.push _)[w.heap.size]? =_;simp
   ·simpa using hv.mono lW
  ·obtain⟨l,h1,h2⟩:=h.ok j b hb;refine⟨l,lW _ _ h1,(h2.mono lW).heap ?_⟩;exact Go.RowKit.Below.heap_alloc _ _ _ h2.lt
 ·intro j hj;rw[jI] at hj;have:=hf.lt
  rw[Mu.dL (by omega)];exact h.Bf j hj
 ·intro j k b c l m hb hc hl hm z9 iB;rcases old hb with⟨rfl,rfl⟩|⟨e,Uv⟩<;>rcases old hc with⟨rfl,rfl⟩|⟨e2,YK⟩
  ·exact absurd rfl z9
  ·rw[Mu.aP] at hl;cases hl;rw[Mu.dL e2] at hm;obtain⟨m',em,k'⟩:=h.ok _ _ YK;rw[hm] at em;cases em;have:=k'.lt;show w.heap.size≠m.b;omega
  ·rw[Mu.aP] at hm;cases hm;rw[Mu.dL e] at hl;obtain⟨l',em,k'⟩:=h.ok _ _ Uv;rw[hl] at em;cases em;have:=k'.lt;show l.b≠w.heap.size;omega
  ·rw[Mu.dL e] at hl;rw[Mu.dL e2] at hm;exact h.inj j k b c l m Uv YK hl hm z9 iB
 ·intro j b l hb iB hl;rcases old hb with⟨rfl,rfl⟩|⟨e,hb⟩
  ·rw[Mu.aP] at hl;cases hl;exact h.base
  ·rw[Mu.dL e] at hl;exact h.own j b l hb iB hl
theorem uz {i0:Nat}{v0:Value}{H0:aa}{t:TypeId}{l c l' c':Value}(hS:cJ P μ H w B)(kO:bX H i0)(hl:VR μ l l')(hc:VR μ c c')(h:fW P t l c []=some (v0,H0)):
  ∃n m b,v0= .slice (some ⟨0,0,none⟩) n m∧H0=[.y7 b]∧Told P μ (.slice (some ⟨i0,0,none⟩) n m) (H.lay i0 b) w B ((Instr.makeSlice t l' c').run P w):=by
 unfold fW at h;split at h
 ·rename_i elem k a k' b hu;obtain rfl:=hl.int;obtain rfl:=hc.int;split at h
  ·rename_i size bytes z hz hb YO;split at h
   ·rename_i pX;obtain⟨h0,hab,YP,vV,Gr⟩:=pX;cases h;obtain⟨i,hi,hib⟩:=qt hb;obtain⟨_,pH,n,hn,Bi⟩:=dN YO w;rw[hz] at hn;cases hn;have w1:IntKind.i64.wrap a=a:=by rw[IntKind.wrap_i64];omega
    have w2:IntKind.i64.wrap b=b:=by rw[IntKind.wrap_i64];omega
    have uq:(0:Nat)<size:=by omega
    have dy:b.toNat*size=0↔b.toNat=0:=by simp[Nat.mul_eq_zero];omega
    have hmul:(i.bytes:Int)*b≤17592186044416:=by
     have h1:(i.bytes:Int)≤4096:=by omega
     have h2:0≤b:=by omega
     calc (i.bytes:Int)*b≤4096*b:=Int.mul_le_mul_of_nonneg_right h1 h2
      _≤17592186044416:=by omega
    have qU: ∃eX:Array Value,eX.toList=bK z.cells.toList b.toNat∧(Instr.makeSlice t (.int k a) (.int k' b)).run P w= .ok (.slice (some ⟨w.heap.size,0,none⟩) a.toNat b.toNat) (w.alloc (.cells eX elem)):=by
     have Ug: ¬(b<0∨(281474976710656:Int)<(i.bytes:Int)*b):=by omega
     by_cases YQ:b.toNat=0
     ·refine⟨(Array.range 0).map (λ_=>default),by simp[YQ,bK],?_⟩
      have:b=0:=by omega
      subst this;have:a=0:=by omega
      subst this;simp[Instr.makeSlice,run_underlying hu,asInt,asIntOf,kM hi,IntKind.wrap_i64,eh hz,newRow]
     ·refine⟨(Array.range (b.toNat*size)).map (λi=>z.cells[i%z.cells.size]!),by rw[←my _ _ (by omega),Bi],?_⟩
      have hbl: ¬(a<0∨b<a):=by omega
      simp[Instr.makeSlice,run_underlying hu,asInt,asIntOf,kM hi,w1,w2,eh hz,newRow,(dN YO _).1];rw[if_neg (by rintro(((h|h)|h)|h)<;>omega),if_neg (λe=>YQ (dy.1 e))]
    obtain⟨eX,e,dF⟩:=qU;rw[dF];have hlen:eX.size=b.toNat*size:=by
     have:=congrArg List.length e
     rw[eZ] at this;simp at this;rw[this,Bi]
    obtain⟨h1,h2⟩:=hS.fill kO (bK z.cells.toList b.toNat) elem elem size eX eX.size rfl (mA pH _) (by rw[←e];simp) (by rw[←e,List.take_length,e];exact kI pH _) (λk v hk hv=>by have:=(Array.getElem?_eq_some_iff.1 hv).1;rw[←e] at hk;simp at hk;omega)
    refine⟨a.toNat,b.toNat,_,rfl,rfl,_,_,_,rfl,h1,?_,h2,(eN.refl _ _).alloc hS.base _⟩;have:=VR.slice (μ:=μ.up i0 ⟨w.heap.size,0,eX.size,size⟩) i0 0 a.toNat b.toNat b.toNat _ Mu.aP (by omega) (Nat.le_refl _) (by simp[hlen])
    simpa using this
   ·cases h
  ·cases h
 ·cases h
theorem sV {i0:Nat}{v0:Value}{H0:aa}{t:TypeId}{n:Nat}{ps zd:List (Nat×Value)}(hS:cJ P μ H w B)(kO:bX H i0)(h1:ps.map (·.1)=zd.map (·.1))(h2:cT μ (ps.map (·.2)) (zd.map (·.2)))(h:ay P t n ps []=some (v0,H0)): ∃b,H0=[.y7 b]∧Told P μ (.slice (some ⟨i0,0,none⟩) n n) (H.lay i0 b) w B ((Instr.buildSlice t n zd.toArray).run P w):=by
 unfold ay at h;split at h
 ·cases h
 ·rename_i hk;have Dh:ps.all (λp=>p.2.cells.toList.all aD)=true:=by simpa using hk
  have hk:ps.all (λp=>known p.2)=true:=by
   rw[List.all_eq_true] at Dh ⊢;intro p hp;have:=Dh p hp
   revert this
   cases p.2<;>simp[Value.cells,aD,known]
  split at h
  ·rename_i elem hu;split at h
   ·rename_i size z hs hz;split at h
    ·rename_i hc;simp only[Bool.and_eq_true,decide_eq_true_eq,ne_eq] at hc;obtain⟨vW,uq⟩:=hc;obtain⟨EF,pH,m,hm,Bi⟩:=dN hz w;rw[hs] at hm;cases hm;cases hf:Instr.fill (λi=>some (i*size,size)) (bK z.cells.toList n).toArray ps with
     |none=>rw[hf] at h;cases h
     |some cs=>
      rw[hf] at h;cases h;obtain⟨eX,Bk,hv⟩:=mM (eX:=(bK z.cells.toList n).toArray) _ (by simpa using kI pH n) h1 h2 hk hf
      have hlen:eX.size=n*size:=by
       rw[Ad _ Bk];simp[eZ,Bi]
      have dF:(Instr.buildSlice t n zd.toArray).run P w= .ok (.slice (some ⟨w.heap.size,0,none⟩) n n) (w.alloc (.cells eX elem)):=by
       have abj:(0:Nat)<size:=Nat.pos_of_ne_zero (by simpa using uq)
       have IU: ¬(n*size>2^24):=by simpa using vW
       by_cases h0:n=0
       ·subst h0;have e:(bK z.cells.toList 0).toArray=(Array.range (0*size)).map (λi=>(#[]:Array Value)[i%(#[]:Array Value).size]!):=by simp[bK]
        rw[e] at Bk;simp only[Instr.buildSlice,Sem.run_bind,run_underlying hu,eh hs,Result.andThen_ok,Sem.run_ite,Sem.run_pure,Nat.zero_mul,if_true];simp only[Nat.zero_mul] at Bk;simp only[Bk];rfl
       ·have dy: ¬n*size=0:=by simp[Nat.mul_eq_zero];omega
        have e:(bK z.cells.toList n).toArray=(Array.range (n*size)).map (λi=>z.cells[i%z.cells.size]!):=by
         rw[←my _ _ (by omega),Bi]
        rw[e] at Bk;simp only[Instr.buildSlice,Sem.run_bind,run_underlying hu,eh hs,Result.andThen_ok,Sem.run_ite,IU,if_false,Sem.run_pure,dy,EF,Bk];rfl
      rw[dF];obtain⟨g1,g2⟩:=hS.fill kO cs.toList elem elem size eX eX.size rfl (Dg _ (by simpa using mA pH n) Dh hf) (by have:=hv.1;simp at this ⊢;omega) (by rw[hv.1,List.take_length];exact hv) (λk v hk CW=>by have:=hv.1;have:=(Array.getElem?_eq_some_iff.1 CW).1;simp at *;omega)
      refine⟨_,rfl,_,_,_,rfl,g1,?_,g2,(eN.refl _ _).alloc hS.base _⟩;have:=VR.slice (μ:=μ.up i0 ⟨w.heap.size,0,eX.size,size⟩) i0 0 n n n _ Mu.aP (Nat.le_refl _) (Nat.le_refl _) (by simp[hlen])
      simpa using this
    ·cases h
   ·cases h
  ·cases h
theorem Dv {i:Nat}{ρ ρ':Operand→Value}{o:Oper}{v:Value}(hS:cJ P μ H w B)(hρ: ∀x,VR μ (ρ x) (ρ' x))(h:pT P ρ i H o.op=some (v,H')):
  fS P μ v H' w B ((execOp ρ' o).run P w):=by
 obtain⟨dst,op,type,pos,after,guard⟩:=o;simp only at h;unfold pT at h;split at h
 case h_2=>cases h
 rename_i hf;split at h
 case h_2=>cases h
 rename_i mk b hb;cases h;unfold z5 at hb;split at hb<;>(unfold execOp;try simp only)
 ·
  rename_i t;split at hb
  ·rename_i z hz;obtain⟨EF,pH,_⟩:=dN hz w;cases hb;have PZ:=qu pH;have ra:=jL (μ:=μ) pH;obtain⟨h1,h2⟩:=hS.fill hf z.cells.toList t t 1 z.cells z.cells.size rfl PZ (by simp) (by rw[List.take_of_length_le (by simp)];exact ra) (λk v hk hv=>by have:=(Array.getElem?_eq_some_iff.1 hv).1;simp at hk;omega)
   refine Told.next ?_;have e:(Instr.alloc t true (.tuple #[])).run P w= .ok (.pointer (some ⟨w.heap.size,0,none⟩)) (w.alloc (.cells z.cells t)):=by
    simp[Instr.alloc,EF,newVar,newRow]
   rw[e];refine⟨_,_,_,rfl,h1,?_,h2,(eN.refl _ _).alloc hS.base _⟩;have:=VR.ptr (μ:=μ.up i ⟨w.heap.size,0,z.cells.size,1⟩) i 0 _ Mu.aP
   simpa using this
  ·cases hb
 ·
  rename_i t n ps;split at hb
  ·rename_i v0 b0 h0;cases hb;obtain⟨b1,e1,hT⟩:=sV (P:=P) hS hf (sR (ρ':=ρ') ps.toList) (cT.parts hρ ps.toList) h0;cases e1;have e:(ps.map λ(i,x)=>(i,ρ' x))=(ps.toList.map λ(i,x)=>(i,ρ' x)).toArray:=by
    rw[←Array.toList_inj];simp
   simp only[e];exact hT.next
  ·cases hb
 ·
  rename_i t l c;split at hb
  ·rename_i a0 n0 m0 b0 h0;cases hb;obtain⟨n1,m1,b1,e1,e2,hT⟩:=uz (P:=P) hS hf (hρ _) (hρ _) h0;cases e1;cases e2;exact hT.next
  ·cases hb
 ·cases hb
variable {P:Program} {μ:Mu} {H H':aa} {w:World} {B:Nat}
def Bx (acc:Array Nat)(es:List Edge)(s:Nat):Nat:=
 es.foldl (λs e=>if Region.binds .any e then s ||| 2^e.on ||| acc.getD e.on 0 else s) s
theorem tT (acc:Array Nat): ∀(es:List Edge) (s i:Nat),(Bx acc es s).testBit i=true→
  s.testBit i=true∨∃e∈es,Region.binds .any e=true∧(i=e.on∨(acc.getD e.on 0).testBit i=true)
 | [],s,i,h=>.inl h
 |e::r,s,i,h=>by
  have h':(Bx acc r (if Region.binds .any e then s ||| 2^e.on ||| acc.getD e.on 0 else s)).testBit i=true:=h
  rcases tT acc r _ i h' with h1|⟨e',he,hb⟩
  ·split at h1
   ·rename_i hb;rw[Nat.testBit_or,Nat.testBit_or,Nat.testBit_two_pow] at h1;simp only[Bool.or_eq_true,decide_eq_true_eq] at h1;rcases h1 with(h1|h1)|h1
    ·exact .inl h1
    ·exact .inr ⟨e,by simp,hb,.inl h1.symm⟩
    ·exact .inr ⟨e,by simp,hb,.inr h1⟩
   ·exact .inl h1
  ·exact .inr ⟨e',by simp[he],hb⟩
def Fe (ops:Array Oper)(acc:Array Nat):Prop:=
 ∀j,j<acc.size→∀i,(acc.getD j 0).testBit i=true→∃o,ops[j]? =some o∧∃e∈o.after,Region.binds .any e=true∧(i=e.on∨(e.on<j∧(acc.getD e.on 0).testBit i=true))
theorem tU (ops:Array Oper): ∀(l:List Oper) (acc:Array Nat),(∀k o,l[k]? =some o→ops[acc.size+k]? =some o)→Fe ops acc→
  Fe ops (l.foldl (λacc o=>acc.push (o.after.foldl (λs e=>if Region.binds .any e then s ||| 2^e.on ||| acc.getD e.on 0 else s) 0)) acc)
 | [],acc,_,h=>h
 |o::r,acc,hl,h=>by
  rw[List.foldl_cons];refine tU ops r _ (λk o' hk=>?_) ?_
  ·have:=hl (k+1) o' (by simpa using hk)
   rw[Array.size_push,show acc.size+1+k=acc.size+(k+1) by omega];exact this
  ·intro j hj i hi;rw[Array.size_push] at hj;by_cases e:j=acc.size
   ·subst e;have e0: ∀x:Nat,(acc.push x).getD acc.size 0=x:=λx=>by simp[Array.getD_eq_getD_getElem?]
    rw[e0, ←Array.foldl_toList] at hi;have sO:(Bx acc o.after.toList 0).testBit i=true:=hi;rcases tT acc _ 0 i sO with h0|⟨e,he,hb,h1⟩
    ·simp at h0
    ·refine⟨o,by simpa using hl 0 o rfl,e,by simpa using he,hb,?_⟩
     rcases h1 with h1|h1
     ·exact .inl h1
     ·right
      have gB:e.on<acc.size:=by
       by_cases hl:e.on<acc.size
       ·exact hl
       ·rw[Array.getD_eq_getD_getElem?,Array.getElem?_eq_none (by omega)] at h1;simp at h1
      refine⟨gB,?_⟩;rw[Array.getD_eq_getD_getElem?,Array.getElem?_push_lt gB];rw[Array.getD_eq_getD_getElem?,Array.getElem?_eq_getElem gB] at h1;exact h1
   ·have gB:j<acc.size:=by omega
    have e1: ∀k,k<acc.size→∀s,(acc.push s).getD k 0=acc.getD k 0:=by
     intro k hk s;rw[Array.getD_eq_getD_getElem?,Array.getD_eq_getD_getElem?,Array.getElem?_push_lt hk,Array.getElem?_eq_getElem hk]
    rw[e1 j gB] at hi;obtain⟨o',ho,e,he,hb,h1⟩:=h j gB i hi;refine⟨o',ho,e,he,hb,?_⟩;rcases h1 with h1|⟨h1,h2⟩
    ·exact .inl h1
    ·exact .inr ⟨h1,by rw[e1 _ (by omega)];exact h2⟩
theorem ad0 (ops:Array Oper):Fe ops (Region.before ops):=by
 unfold Region.before;rw[←Array.foldl_toList];exact tU ops ops.toList #[] (λk o hk=>by simpa using hk) (λj hj=>by simp at hj)
theorem wA {ops:Array Oper}{L:Nat→Bool}(Df: ∀j o,ops[j]? =some o→L j=true→∀e∈o.after,Region.binds .any e=true→L e.on=true):
  ∀j,L j=true→∀i,uY (Region.before ops) i j=true→L i=true:=by
 intro j;induction j using Nat.strongRecOn with
 |_ j ih=>
  intro hj i hi;unfold uY at hi;have gB:j<(Region.before ops).size:=by
   by_cases h:j<(Region.before ops).size
   ·exact h
   ·rw[Array.getD_eq_getD_getElem?,Array.getElem?_eq_none (by omega)] at hi;simp at hi
  obtain⟨o,ho,e,he,hb,h1⟩:=ad0 ops j gB i hi;have Yl:=Df j o ho hj e he hb;rcases h1 with rfl|⟨gB,h2⟩
  ·exact Yl
  ·exact ih e.on gB Yl i h2
theorem MC {ops:Array Oper}(he:uZ ops=true): ∀j i,uY (Region.before ops) i j=true→i<j:=by
 intro j;induction j using Nat.strongRecOn with
 |_ j ih=>
  intro i hi;unfold uY at hi;have gB:j<(Region.before ops).size:=by
   by_cases h:j<(Region.before ops).size
   ·exact h
   ·rw[Array.getD_eq_getD_getElem?,Array.getElem?_eq_none (by omega)] at hi;simp at hi
  obtain⟨o,ho,e,hem,hb,h1⟩:=ad0 ops j gB i hi;have hj:j<ops.size:=(Array.getElem?_eq_some_iff.1 ho).1;have:=List.all_eq_true.1 he j (List.mem_range.2 hj)
  simp only[ho] at this;have Yl:e.on<j:=by
   have:=Array.all_eq_true_iff_forall_mem.1 this e hem
   simpa[hb] using this
  rcases h1 with rfl|⟨_,h2⟩
  ·exact Yl
  ·exact Nat.lt_trans (ih e.on Yl i h2) Yl
theorem Ff {C:ae}{base k:Nat}{E:Env}{o:Oper}:du P C [] base k E H o=gk P C E H o:=by simp[du]
theorem iQ {C:ae}{base:Nat}{ops:Array Oper}: ∀(l:List Oper) (k:Nat) (E:Env) (H:aa),cV P C [] base ops l k E H=eC P C ops l E H∧ef P C [] base ops l k E H=trace P C ops l E H
 | [],k,E,H=>⟨rfl,rfl⟩
 |o::r,k,E,H=>by
  simp only[cV,eC,ef,trace,Ff];refine⟨?_,?_⟩
  ·split
   ·split
    ·exact(iQ r _ _ _).1
    ·rfl
   ·exact(iQ r _ _ _).1
   ·rfl
  ·congr 1
   split
   ·split
    ·exact(iQ r _ _ _).2
    ·rfl
   ·exact(iQ r _ _ _).2
   ·rfl
def wB (P:Program)(C:ae)(F:List Nat)(base:Nat)(ops:Array Oper)(k:Nat)(o:Oper)(s:Env×aa)(s':Env×aa)(v:Value):Prop:=
 s'.1=s.1.put o.dst v∧((dB ops o s.1=some true∧du P C F base k s.1 s.2 o=some (v,s'.2))∨(dB ops o s.1=some false∧v=undef∧s'.2=s.2))
theorem Fg {C:ae}{F:List Nat}{base:Nat}{ops:Array Oper}: ∀(l:List Oper) (k0:Nat) (E:Env) (H:aa) (r:Env×aa),cV P C F base ops l k0 E H=some r→
  ∃(S:Nat→Env×aa) (val:Nat→Value),S 0=(E,H)∧S l.length=r∧(∀k o,l[k]? =some o→wB P C F base ops (k0+k) o (S k) (S (k+1)) (val k))∧
   (∀k,k≤l.length→(ef P C F base ops l k0 E H)[k]? =some (S k)):=by
 intro l;induction l with
 |nil=>
  intro k0 E H r h;simp only[cV] at h;cases h;exact⟨λ_=>(E,H),λ_=>undef,rfl,rfl,λk o hk=>by simp at hk,λk hk=>by simp at hk;subst hk;rfl⟩
 |cons o l ih=>
  intro k0 E H r h;simp only[cV] at h;have go: ∀(E1:Env) (H1:aa) (v:Value),cV P C F base ops l (k0+1) E1 H1=some r→wB P C F base ops k0 o (E,H) (E1,H1) v→(ef P C F base ops (o::l) k0 E H)=(E,H)::ef P C F base ops l (k0+1) E1 H1→
    ∃(S:Nat→Env×aa) (val:Nat→Value),S 0=(E,H)∧S (o::l).length=r∧(∀k o',(o::l)[k]? =some o'→wB P C F base ops (k0+k) o' (S k) (S (k+1)) (val k))∧
     (∀k,k≤(o::l).length→(ef P C F base ops (o::l) k0 E H)[k]? =some (S k)):=by
   intro E1 H1 v h1 hs ht;obtain⟨S,val,h0,hl,mj,Y0⟩:=ih (k0+1) E1 H1 r h1;refine⟨λk=>match k with|0=>(E,H)|k+1=>S k,λk=>match k with|0=>v|k+1=>val k,rfl,hl,?_,?_⟩
   ·intro k o' hk;cases k with
    |zero=>simp at hk;subst hk;show wB P C F base ops (k0+0) o (E,H) (S 0) v;rw[h0];exact hs
    |succ k=>have:=mj k o' (by simpa using hk);rw[show k0+1+k=k0+(k+1) by omega] at this;exact this
   ·intro k hk;rw[ht];cases k with
    |zero=>rfl
    |succ k=>simp only[List.getElem?_cons_succ];exact Y0 k (by simpa using hk)
  split at h
  ·rename_i hw;cases hx:du P C F base k0 E H o with
   |none=>rw[hx] at h;cases h
   |some q=>
    obtain⟨v,H1⟩:=q;rw[hx] at h;exact go _ _ v h ⟨rfl,.inl ⟨hw,hx⟩⟩ (by simp only[ef,hw,hx])
  ·rename_i hw;exact go _ _ undef h ⟨rfl,.inr ⟨hw,rfl,rfl⟩⟩ (by simp only[ef,hw])
  ·cases h
theorem Aj {ρ:Operand→Value}{op:Op}{v:Value}(hc:cls P op≠ .y8)(hb:cls P op≠ .bad)(h:gO P ρ H op=some (v,H')):H'=H:=by
 cases op with
 |call c=>
  obtain⟨callee,args,types⟩:=c;cases callee with
  |builtin b=>
   simp only[gO] at h;cases b<;>first| (exact absurd rfl hc)| (exact absurd rfl hb)|skip
   all_goals
    unfold jK at h;split at h<;>first
     | (rw[Option.map_eq_some_iff] at h;obtain⟨_,_,e⟩:=h;cases e;rfl)
     | (split at h<;>first| (cases h;rfl)| (cases h))
     | (cases h)
     | (rename_i e _;cases e)
  |value f=>exact absurd rfl hc
  |invoke r m=>exact absurd rfl hb
 |move x=>simp only[gO] at h;cases h;rfl
 |assign x=>simp only[gO] at h;cases h;rfl
 |pick c a b=>simp only[gO] at h;split at h<;>cases h;rfl
 |build t ps=>simp only[gO,Option.map_eq_some_iff] at h;obtain⟨_,_,e⟩:=h;cases e;rfl
 |load t a=>simp only[gO,Option.map_eq_some_iff] at h;obtain⟨_,_,e⟩:=h;cases e;rfl
 |nilCheck x=>simp only[gO] at h;split at h<;>cases h<;>rfl
 |binOp o t x y yt=>simp only[gO,Option.map_eq_some_iff] at h;obtain⟨_,_,e⟩:=h;cases e;rfl
 |unOp o t x=>simp only[gO,Option.map_eq_some_iff] at h;obtain⟨_,_,e⟩:=h;cases e;rfl
 |convert s t x=>simp only[gO] at h;split at h<;>cases h;rfl
 |makeFunc fn f c=>cases fn<;>simp only[gO] at h<;>cases h;rfl
 |slice t x lo hi m=>cases m<;>simp only[gO] at h<;>first| (cases h)| (rw[Option.map_eq_some_iff] at h;obtain⟨_,_,e⟩:=h;cases e;rfl)
 |fieldAddr s x f=>simp only[gO] at h;(repeat' split at h)<;>cases h;rfl
 |field s x f=>simp only[gO] at h;(repeat' split at h)<;>first| (cases h;done)| (rw[Option.map_eq_some_iff] at h;obtain⟨_,_,e⟩:=h;cases e;rfl)
 |indexAddr t x i=>simp only[gO] at h;(repeat' split at h)<;>cases h<;>rfl
 |index t x i=>simp only[gO] at h;(repeat' split at h)<;>first| (cases h;done)| (rw[Option.map_eq_some_iff] at h;obtain⟨_,_,e⟩:=h;cases e;rfl)
 |lookup t m x ok=>simp only[gO,Option.map_eq_some_iff] at h;obtain⟨_,_,e⟩:=h;cases e;rfl
 |extract t i=>simp only[gO] at h;split at h<;>first| (cases h;done)| (rw[Option.map_eq_some_iff] at h;obtain⟨_,_,e⟩:=h;cases e;rfl)
 |_=>first| (exact absurd rfl hc)| (exact absurd rfl hb)
theorem MD {ρ:Operand→Value}{op:Op}{v:Value}(hc:cls P op= .pure)(h:gO P ρ H op=some (v,H'))(H2:aa):gO P ρ H2 op=some (v,H2):=by
 cases op with
 |call c=>
  obtain⟨callee,args,types⟩:=c;cases callee with
  |builtin b=>
   simp only[gO] at h ⊢;have hlen: ∀(H2:aa) x,cls P (.call {callee:=.builtin .len,args:=args,argTypes:=types})= .pure→∀v,Ba P H types x=some v→Ba P H2 types x=some v:=by
    intro H2 x hc v hx;simp only[cls] at hc;unfold Ba at hx ⊢;cases ht:types[0]? with
    |none=>rw[ht] at hx;cases hx
    |some t=>
     rw[ht] at hx hc;simp only[Option.bind_some] at hc hx ⊢;cases hu:P.underlying t with
     |none=>rw[hu] at hx;cases hx
     |some d=>
      rw[hu] at hx hc;cases d<;>first| (cases hc;done)|exact hx| (cases x<;>exact hx)
   cases b<;>first| (cases hc;done)|skip
   all_goals
    unfold jK at h ⊢;split at h<;>first
     | (rw[Option.map_eq_some_iff] at h;obtain⟨_,hx,e⟩:=h;cases e;simp[hlen H2 _ hc _ hx];done)
     | (rw[Option.map_eq_some_iff] at h;obtain⟨_,hx,e⟩:=h;cases e;simp[hx];done)
     | (split at h<;>first| (rename_i hx;cases h;simp[hx];done)| (cases h;done))
     | (cases h;done)
     | (rename_i e _;cases e;done)
  |value f=>cases hc
  |invoke r m=>cases hc
 |move x=>simp only[gO] at h ⊢;cases h;rfl
 |assign x=>simp only[gO] at h ⊢;cases h;rfl
 |pick c a b=>simp only[gO] at h ⊢;split at h<;>first| (cases h;done)| (rename_i hx;cases h;simp[hx])
 |build t ps=>simp only[gO,Option.map_eq_some_iff] at h ⊢;obtain⟨x,hx,e⟩:=h;cases e;exact⟨_,hx,rfl⟩
 |nilCheck x=>simp only[gO] at h ⊢;split at h<;>first| (cases h;done)| (rename_i hx;cases h;simp[hx])
 |binOp o t x y yt=>simp only[gO,Option.map_eq_some_iff] at h ⊢;obtain⟨x,hx,e⟩:=h;cases e;exact⟨_,hx,rfl⟩
 |unOp o t x=>simp only[gO,Option.map_eq_some_iff] at h ⊢;obtain⟨x,hx,e⟩:=h;cases e;exact⟨_,hx,rfl⟩
 |convert s t x=>simp only[gO] at h ⊢;split at h<;>first| (cases h;done)| (rename_i h1 h2 h3;cases h;simp[h1,h2,h3])
 |makeFunc fn f c=>cases fn<;>simp only[gO] at h ⊢ <;>cases h;rfl
 |fieldAddr s x f=>simp only[gO] at h ⊢;(repeat' split at h)<;>first| (cases h;done)| (cases h;simp[*])
 |field s x f=>simp only[gO] at h ⊢;(repeat' split at h)<;>first| (cases h;done)| (rw[Option.map_eq_some_iff] at h;obtain⟨_,hx,e⟩:=h;cases e;simp[*])
 |indexAddr t x i=>simp only[gO] at h ⊢;(repeat' split at h)<;>first| (cases h;done)| (cases h;simp[*])
 |index t x i=>simp only[gO] at h ⊢;(repeat' split at h)<;>first| (cases h;done)| (rw[Option.map_eq_some_iff] at h;obtain⟨_,hx,e⟩:=h;cases e;simp[*])
 |extract t i=>simp only[gO] at h ⊢;split at h<;>first| (cases h;done)| (rw[Option.map_eq_some_iff] at h;obtain⟨_,hx,e⟩:=h;cases e;simp[*])
 |_=>cases hc
theorem Ak {ρ ρ':Operand→Value}{op:Op}(h: ∀x∈op.operands,ρ x=ρ' x):gO P ρ H op=gO P ρ' H op:=by
 have SY: ∀ps:Array (Nat×Operand),(∀x∈(ps.toList.map (·.2)).toArray,ρ x=ρ' x)→
   (ps.toList.map λ(i,x)=>(i,ρ x))=(ps.toList.map λ(i,x)=>(i,ρ' x)):=λps hp=>
  List.map_congr_left λp hm=>by
   obtain⟨i,x⟩:=p;simp only[hp x (by simp;exact⟨i,by simpa using hm⟩)]
 cases op with
 |call c=>
  obtain⟨callee,args,types⟩:=c;cases callee with
  |builtin b=>
   simp only[gO];have:args.toList.map ρ=args.toList.map ρ':=List.map_congr_left λx hx=>h x (by simp[Op.operands,Call.operands];simpa using hx)
   rw[this]
  |_=>rfl
 |makeFunc fn f c=>
  have h1:f.map ρ=f.map ρ':=Array.map_congr_left λx hx=>h x (by simp[Op.operands,hx])
  have h2:c.map ρ=c.map ρ':=Array.map_congr_left λx hx=>h x (by simp[Op.operands,hx])
  cases fn<;>simp only[gO,h1,h2]
 |build t ps=>simp only[gO];rw[SY ps (by simpa[Op.operands] using h)]
 |buildSlice t n ps=>simp only[gO];rw[SY ps (by simpa[Op.operands] using h)]
 |slice t x lo hi m=>
  cases m with
  |some m=>
   simp only[gO];have h0:=h x (by simp[Op.operands])
   have h1:lo.map ρ=lo.map ρ':=by cases lo with|none=>rfl|some y=>simp[h y (by simp[Op.operands])]
   have h2:hi.map ρ=hi.map ρ':=by cases hi with|none=>rfl|some y=>simp[h y (by simp[Op.operands])]
   rw[h0,h1,h2,h m (by simp[Op.operands])]
  |none=>
   simp only[gO];have h0:=h x (by simp[Op.operands])
   have h1:lo.map ρ=lo.map ρ':=by cases lo with|none=>rfl|some y=>simp[h y (by simp[Op.operands])]
   have h2:hi.map ρ=hi.map ρ':=by cases hi with|none=>rfl|some y=>simp[h y (by simp[Op.operands])]
   rw[h0,h1,h2]
 |makeMap t r=>cases r<;>rfl
 |_=>simp only[Op.operands] at h<;>simp[gO,h]
theorem By {C:ae}{E F:Nat→Value}{o:Oper}{ops:Array Oper}(h: ∀t∈o.looksAt ops,E t=F t):jF P C E H o=jF P C F H o:=by
 have hx: ∀x∈o.op.operands,hY E x=hY F x:=by
  intro x hx;cases x with
  |tmp t=>
   refine h t ?_;unfold Oper.looksAt;rw[List.mem_append];left
   rw[List.mem_filterMap];exact⟨.tmp t,by simpa using hx,rfl⟩
  |_=>rfl
 unfold jF;obtain⟨dst,op,type,pos,after,guard⟩:=o;cases op with
 |call c=>
  obtain⟨callee,args,types⟩:=c;cases callee with
  |value f=>
   simp only;have h1:=hx f (by simp[Op.operands,Call.operands])
   have h2:args.toList.map (hY E)=args.toList.map (hY F):=List.map_congr_left λx hm=>hx x (by simp[Op.operands,Call.operands];right;simpa using hm)
   rw[h1,h2]
  |_=>exact Ak hx
 |_=>exact Ak hx
theorem Bz {E F:Nat→Value}{o:Oper}{ops:Array Oper}(h: ∀t∈o.looksAt ops,E t=F t):qx ops o E=qx ops o F:=by
 unfold qx;cases hg:o.guard with
 |none=>rfl
 |some q=>
  obtain⟨j,want⟩:=q;simp only;cases hd:(ops[j]?).bind (·.dst) with
  |none=>rfl
  |some d=>
   simp only;rw[h d (by unfold Oper.looksAt;rw[List.mem_append];right;simp[hg,hd])]
def fZ (P:Program)(C:ae)(F:List Nat)(base k:Nat)(E:Nat→Value)(H:aa)(o:Oper):Option (Value×aa):=
 if F.contains k then pT P (hY E) (base+F.idxOf k) H o.op else jF P C E H o
theorem tV (C:ae)(F:List Nat)(base k:Nat)(E:Env)(H:aa)(o:Oper):fZ P C F base k E.get H o=du P C F base k E H o:=by
 unfold fZ du;rw[qz,fY]
theorem Dw {ρ ρ':Operand→Value}{op:Op}(h: ∀x∈op.operands,ρ x=ρ' x):z5 P ρ op=z5 P ρ' op:=by
 unfold z5;cases op with
 |buildSlice t n ps=>
  have:(ps.toList.map λ(i,x)=>(i,ρ x))=(ps.toList.map λ(i,x)=>(i,ρ' x)):=
   List.map_congr_left λp hm=>by
    obtain⟨i,x⟩:=p;simp only[h x (by simp[Op.operands];exact⟨i,by simpa using hm⟩)]
  simp only[this]
 |makeSlice t l c=>simp only[h l (by simp[Op.operands]),h c (by simp[Op.operands])]
 |_=>rfl
theorem wC {E F:Nat→Value}{o:Oper}{ops:Array Oper}(h: ∀t∈o.looksAt ops,E t=F t): ∀x∈o.op.operands,hY E x=hY F x:=by
 intro x hx;cases x with
 |tmp t=>
  refine h t ?_;unfold Oper.looksAt;rw[List.mem_append];left
  rw[List.mem_filterMap];exact⟨.tmp t,by simpa using hx,rfl⟩
 |_=>rfl
theorem zz {C:ae}{F:List Nat}{base k:Nat}{E G:Nat→Value}{o:Oper}{ops:Array Oper}(h: ∀t∈o.looksAt ops,E t=G t):fZ P C F base k E H o=fZ P C F base k G H o:=by
 unfold fZ;rw[By h];unfold pT;rw[Dw (wC h)]
theorem tW {C:ae}(hC:gE C){F:List Nat}{base k:Nat}{E:Nat→Value}{o:Oper}{i:Nat}{b:eM}(dy:F.contains k=true→base+F.idxOf k≠i):
  Up i b H (fZ P C F base k E H o) (fZ P C F base k E (H.lay i b) o):=by
 intro hf v H' h;unfold fZ at h ⊢;split at h
 ·rename_i h1;rw[if_pos h1];exact Ag (dy h1) hf v H' h
 ·rename_i h1;rw[if_neg h1];unfold jF at h ⊢;split at h
  ·split at h
   ·split at h
    ·rename_i h2;rw[if_pos h2];exact hC _ _ _ _ _ hf v H' h
    ·cases h
   ·exact hC _ _ _ _ _ hf v H' h
   ·cases h
  ·exact pc hf v H' h
end Go.Proofs.YtgfgglponbmgmaaGreatA.Am
end
