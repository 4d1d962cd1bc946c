/- Texts of the proof of linearChecks_holds, put together by a small program of ours (names shortened, spaces taken out). No condition beyond the given statement. -/
import Derived.Test.YtjgmnoaalbbonaaGreatLCQ0
import Derived.RangeFuncOwn
import Derived.Laws.CopyRow
import Derived.Laws.Cells
import Derived.Laws.World
import Derived.Laws.Entries
import Derived.Laws.Tables
import Derived.ChangeKeysEq
import Derived.RangeFuncCalls
set_option linter.unusedVariables false
set_option linter.unusedSimpArgs false
set_option linter.unnecessarySimpa false
noncomputable section
section
namespace Go.Proofs.YtjgmnoaalbbonaaGreatA.Am
structure Loc where
 b:Nat
 o:Nat
 sz:Nat
 es:Nat
abbrev Mu:=Nat→Option Loc
def Mu.le (μ μ':Mu):Prop:=∀i l,μ i=some l→μ' i=some l
theorem Mu.le_refl (μ:Mu):μ.le μ:=λ_ _ h=>h
theorem Mu.le_trans {a b c:Mu}(h:a.le b)(k:b.le c):a.le c:=λi l e=>k i l (h i l e)
def Mu.up (μ:Mu)(i:Nat)(l:Loc):Mu:=λj=>if j=i then some l else μ j
theorem Mu.Dq {μ:Mu}{i:Nat}{l:Loc}(h:μ i=none):μ.le (μ.up i l):=by
 intro j m hj;unfold Mu.up;by_cases e:j=i
 ·subst e;rw[h] at hj;cases hj
 ·rw[if_neg e];exact hj
theorem Mu.aQ {μ:Mu}{i:Nat}{l:Loc}:μ.up i l i=some l:=by simp[Mu.up]
theorem Mu.dc {μ:Mu}{i j:Nat}{l:Loc}(h:j≠i):μ.up i l j=μ j:=by simp[Mu.up,h]
def isY:Fn→Bool
 | .yield _=>true
 |_=>false
inductive VR (μ:Mu):Value→Value→Prop
 |lY (v:Value):VR μ (.complex .f64 0 0) v
 |plain (v:Value) (h:cF v=true):VR μ v v
 |ptr (i off:Nat) (l:Loc) (h:μ i=some l):VR μ (.pointer (some ⟨i,off,none⟩)) (.pointer (some ⟨l.b,l.o+off,none⟩))
 |slice (i off len cap dY:Nat) (l:Loc) (h:μ i=some l) (h1:len≤cap) (h2:cap≤dY) (h3:l.o+off+dY*l.es≤l.sz):
   VR μ (.slice (some ⟨i,off,none⟩) len cap) (.slice (some ⟨l.b,l.o+off,none⟩) len dY)
 |nJ (i off:Nat) (a:Addr):VR μ (.slice (some ⟨i,off,none⟩) 0 0) (.slice (some a) 0 0)
 |Ej (i:Nat) (l:Loc) (h:μ i=some l):VR μ (.map (some i)) (.map (some l.b))
 |XZ (i:Nat) (l:Loc) (h:μ i=some l):VR μ (.func (.yield i) #[] #[]) (.func (.yield l.b) #[] #[])
 |func (fn:Fn) (f f' c c':Array Value) (hy:isY fn=false) (hf:f.size=f'.size) (hc:c.size=c'.size)
   (h1: ∀j (h:j<f.size) (h':j<f'.size),VR μ f[j] f'[j]) (h2: ∀j (h:j<c.size) (h':j<c'.size),VR μ c[j] c'[j]):
   VR μ (.func fn f c) (.func fn f' c')
 |agg (c c':Array Value) (hc:c.size=c'.size) (h: ∀j (h:j<c.size) (h':j<c'.size),VR μ c[j] c'[j]):VR μ (.agg c) (.agg c')
 |tuple (c c':Array Value) (hc:c.size=c'.size) (h: ∀j (h:j<c.size) (h':j<c'.size),VR μ c[j] c'[j]):VR μ (.tuple c) (.tuple c')
theorem VR.mono {μ μ':Mu}(hm:μ.le μ'){v v':Value}(h:VR μ v v'):VR μ' v v':=by
 induction h with
 |lY v=>exact .lY v
 |plain v h=>exact .plain v h
 |ptr i off l h=>exact .ptr i off l (hm _ _ h)
 |slice i off len cap dY l h h1 h2 h3=>exact .slice i off len cap dY l (hm _ _ h) h1 h2 h3
 |nJ i off a=>exact .nJ i off a
 |Ej i l h=>exact .Ej i l (hm _ _ h)
 |XZ i l h=>exact .XZ i l (hm _ _ h)
 |func fn f f' c c' hy hf hc _ _ i1 i2=>exact .func fn f f' c c' hy hf hc i1 i2
 |agg c c' hc _ ih=>exact .agg c c' hc ih
 |tuple c c' hc _ ih=>exact .tuple c c' hc ih
def dR (μ:Mu)(l l':List Value):Prop:=l.length=l'.length∧∀(j:Nat) (u:Value),l[j]? =some u→∃u':Value,l'[j]? =some u'∧VR μ u u'
theorem dR.mono {μ μ':Mu}(hm:μ.le μ'){l l':List Value}(h:dR μ l l'):dR μ' l l':=
 ⟨h.1,λj u hj=>let ⟨u',a,b⟩:=h.2 j u hj;⟨u',a,b.mono hm⟩⟩
theorem dR.nil {μ:Mu}:dR μ [] []:=⟨rfl,λj u h=>by simp at h⟩
theorem dR.cons {μ:Mu}{a b:Value}{x y:List Value}(h:VR μ a b)(k:dR μ x y):dR μ (a::x) (b::y):=by
 refine⟨by simp[k.1],λj u hj=>?_⟩
 cases j with
 |zero=>simp at hj;subst hj;exact⟨b,rfl,h⟩
 |succ j=>simp at hj ⊢;exact k.2 j u hj
theorem dR.gL {μ:Mu}{a:Value}{x l:List Value}(h:dR μ (a::x) l): ∃b y,l=b::y∧VR μ a b∧dR μ x y:=by
 cases l with
 |nil=>have:=h.1;simp at this
 |cons b y=>
  obtain⟨u',h1,h2⟩:=h.2 0 a rfl;simp at h1;subst h1;exact⟨b,y,rfl,h2,by have:=h.1;simpa using this,λj u hj=>by have:=h.2 (j+1) u (by simpa using hj);simpa using this⟩
theorem dR.jh {μ:Mu}{l:List Value}(h:dR μ [] l):l=[]:=by
 exact List.eq_nil_of_length_eq_zero h.1.symm
theorem dR.append {μ:Mu}{a b x y:List Value}(h:dR μ a b)(k:dR μ x y):dR μ (a++x) (b++y):=by
 induction a generalizing b with
 |nil=>rw[dR.jh h];exact k
 |cons v a ih=>obtain⟨c,z,rfl,h1,h2⟩:=h.gL;exact .cons h1 (ih h2)
theorem dR.drop {μ:Mu}{a b:List Value}(h:dR μ a b)(n:Nat):dR μ (a.drop n) (b.drop n):=by
 refine⟨by simp[h.1],λj u hj=>?_⟩
 simp only[List.getElem?_drop] at hj ⊢;exact h.2 _ _ hj
theorem dR.take {μ:Mu}{a b:List Value}(h:dR μ a b)(n:Nat):dR μ (a.take n) (b.take n):=by
 refine⟨by simp[h.1],λj u hj=>?_⟩
 simp only[List.getElem?_take] at hj ⊢;split
 ·rename_i dH;rw[if_pos dH] at hj;exact h.2 _ _ hj
 ·rename_i dH;rw[if_neg dH] at hj;cases hj
theorem dR.set {μ:Mu}{a b:List Value}(h:dR μ a b){u v:Value}(k:VR μ u v)(n:Nat):dR μ (a.set n u) (b.set n v):=by
 refine⟨by simp[h.1],λj x hj=>?_⟩
 rw[List.getElem?_set] at hj ⊢;by_cases e:n=j
 ·subst e;rw[if_pos rfl] at hj ⊢;by_cases hl:n<a.length
  ·rw[if_pos hl] at hj;cases hj;exact⟨v,by rw[if_pos (by rw[←h.1];exact hl)],k⟩
  ·rw[if_neg hl] at hj;cases hj
 ·rw[if_neg e] at hj ⊢;exact h.2 _ _ hj
theorem dR.y7 {μ:Mu}{c c':Array Value}(hc:c.size=c'.size)(h: ∀j (h:j<c.size) (h':j<c'.size),VR μ c[j] c'[j]):dR μ c.toList c'.toList:=by
 refine⟨by simpa using hc,λj u hj=>?_⟩
 obtain⟨kY,rfl⟩:=List.getElem?_eq_some_iff.1 hj;have h1:j<c.size:=by simpa using kY
 have h2:j<c'.size:=by omega
 exact⟨c'[j],by simp[h2],by simpa using h j h1 h2⟩
theorem dR.arr {μ:Mu}{c c':Array Value}(h:dR μ c.toList c'.toList):c.size=c'.size∧∀j (h:j<c.size) (h':j<c'.size),VR μ c[j] c'[j]:=by
 refine⟨by simpa using h.1,λj h1 h2=>?_⟩
 obtain⟨u',e,r⟩:=h.2 j c[j] (by simp[h1])
 simp[h2] at e;subst e;exact r
theorem dR.agg {μ:Mu}{c c':Array Value}(h:dR μ c.toList c'.toList):VR μ (.agg c) (.agg c'):=.agg c c' h.arr.1 h.arr.2
theorem dR.tuple {μ:Mu}{c c':Array Value}(h:dR μ c.toList c'.toList):VR μ (.tuple c) (.tuple c'):=.tuple c c' h.arr.1 h.arr.2
theorem dR.Qm {μ:Mu}{c c':List Value}(h:dR μ c c'):VR μ (.agg c.toArray) (.agg c'.toArray):=dR.agg (by simpa using h)
theorem VR.bool {μ:Mu}{b:Bool}{v:Value}(h:VR μ (.bool b) v):v= .bool b:=by cases h;rfl
theorem VR.int {μ:Mu}{k:IntKind}{n:Int}{v:Value}(h:VR μ (.int k n) v):v= .int k n:=by cases h;rfl
theorem VR.string {μ:Mu}{s:ByteArray}{v:Value}(h:VR μ (.string s) v):v= .string s:=by cases h;rfl
theorem VR.adC {μ:Mu}{v:Value}(h:VR μ (.pointer none) v):v= .pointer none:=by cases h;rfl
theorem VR.nilFunc {μ:Mu}{v:Value}(h:VR μ .nilFunc v):v= .nilFunc:=by cases h;rfl
theorem VR.oW {μ:Mu}{a:Addr}{v:Value}(h:VR μ (.pointer (some a)) v): ∃i off l,a=⟨i,off,none⟩∧μ i=some l∧v= .pointer (some ⟨l.b,l.o+off,none⟩):=by
 cases h with
 |plain _ h=>simp[cF] at h
 |ptr i off l h=>exact⟨i,off,l,rfl,h,rfl⟩
theorem VR.qB {μ:Mu}{a:Option Addr}{v:Value}(h:VR μ (.pointer a) v): ∃a',v= .pointer a'∧a'.isNone=a.isNone:=by
 cases h with
 |plain _ h=>exact⟨_,rfl,rfl⟩
 |ptr i off l h=>exact⟨_,rfl,rfl⟩
theorem VR.ji {μ:Mu}{n c:Nat}{v:Value}(h:VR μ (.slice none n c) v):n=0∧c=0∧v= .slice none 0 0:=by
 cases h with
 |plain _ h=>
  cases n<;>cases c<;>simp[cF] at h;exact⟨rfl,rfl,rfl⟩
theorem VR.dO {μ:Mu}{a:Addr}{n c:Nat}{v:Value}(h:VR μ (.slice (some a) n c) v):
  (∃i off dY l,a=⟨i,off,none⟩∧μ i=some l∧n≤c∧c≤dY∧l.o+off+dY*l.es≤l.sz∧v= .slice (some ⟨l.b,l.o+off,none⟩) n dY)∨
  (∃i off a',a=⟨i,off,none⟩∧n=0∧c=0∧v= .slice (some a') 0 0):=by
 cases h with
 |plain _ h=>simp[cF] at h
 |slice i off len cap dY l h h1 h2 h3=>exact .inl ⟨i,off,dY,l,rfl,h,h1,h2,h3,rfl⟩
 |nJ i off a'=>exact .inr ⟨i,off,a',rfl,rfl,rfl,rfl⟩
theorem VR.gC {μ:Mu}{a:Option Addr}{n c:Nat}{v:Value}(h:VR μ (.slice a n c) v):n≤c∧∃a' c',v= .slice a' n c'∧a'.isNone=a.isNone∧c≤c':=by
 cases a with
 |none=>obtain⟨rfl,rfl,rfl⟩:=h.ji;exact⟨Nat.le_refl _,none,0,rfl,rfl,Nat.le_refl _⟩
 |some a=>
  rcases h.dO with⟨i,off,dY,l,_,_,h1,h2,_,rfl⟩|⟨i,off,a',_,rfl,rfl,rfl⟩
  ·exact⟨h1,_,_,rfl,rfl,h2⟩
  ·exact⟨Nat.le_refl _,_,_,rfl,rfl,Nat.le_refl _⟩
theorem VR.rG {μ:Mu}{c:Array Value}{v:Value}(h:VR μ (.agg c) v): ∃c',v= .agg c'∧dR μ c.toList c'.toList:=by
 cases h with
 |plain _ h=>simp[cF] at h
 |agg _ c' hc h=>exact⟨c',rfl,dR.y7 hc h⟩
theorem VR.Dr {μ:Mu}{c:Array Value}{v:Value}(h:VR μ (.tuple c) v): ∃c',v= .tuple c'∧dR μ c.toList c'.toList:=by
 cases h with
 |plain _ h=>simp[cF] at h
 |tuple _ c' hc h=>exact⟨c',rfl,dR.y7 hc h⟩
theorem VR.y8 {μ:Mu}{fn:Fn}{f c:Array Value}{v:Value}(h:VR μ (.func fn f c) v)(hy:isY fn=false): ∃f' c',v= .func fn f' c'∧dR μ f.toList f'.toList∧dR μ c.toList c'.toList:=by
 cases h with
 |plain _ h=>simp[cF] at h
 |XZ=>cases hy
 |func _ _ f' _ c' _ hf hc h1 h2=>exact⟨f',c',rfl,dR.y7 hf h1,dR.y7 hc h2⟩
theorem VR.tX {μ:Mu}{fn:Fn}{f c:Array Value}{v:Value}(h:VR μ (.func fn f c) v): ∃fn' f' c',v= .func fn' f' c':=by
 cases h with
 |plain _ h=>simp[cF] at h
 |XZ=>exact⟨_,_,_,rfl⟩
 |func _ _ f' _ c' _ hf hc h1 h2=>exact⟨_,f',c',rfl⟩
theorem VR.UM {μ:Mu}{i:Nat}{f c:Array Value}{v:Value}(h:VR μ (.func (.yield i) f c) v):f= #[]∧c= #[]∧∃l,μ i=some l∧v= .func (.yield l.b) #[] #[]:=by
 cases h with
 |plain _ h=>simp[cF] at h
 |XZ _ l h=>exact⟨rfl,rfl,l,h,rfl⟩
 |func _ _ f' _ c' hy hf hc h1 h2=>cases hy
theorem VR.closed {μ:Mu}{v:Value}(h:gZ v=true):VR μ v v:=by
 cases v with
 |agg cs=>
  simp only[gZ,List.all_eq_true] at h;refine .agg cs cs rfl λj h1 h2=>.plain _ (h _ ?_)
  simp
 |_=>exact .plain _ h
theorem dR.cells {μ:Mu}{v v':Value}(h:VR μ v v')(hk:known v=true):dR μ v.cells.toList v'.cells.toList:=by
 cases h with
 |lY=>simp[known] at hk
 |plain v h=>
  have:VR μ v v:=.plain v h;cases v<;>first|exact dR.cons this .nil| (simp[cF] at h)
 |ptr i off l h=>exact dR.cons (.ptr i off l h) .nil
 |slice i off len cap dY l h h1 h2 h3=>exact dR.cons (.slice i off len cap dY l h h1 h2 h3) .nil
 |nJ i off a=>exact dR.cons (.nJ i off a) .nil
 |Ej i l h=>exact dR.cons (.Ej i l h) .nil
 |XZ i l h=>exact dR.cons (.XZ i l h) .nil
 |func fn f f' c c' hy hf hc h1 h2=>exact dR.cons (.func fn f f' c c' hy hf hc h1 h2) .nil
 |agg c c' hc h=>exact dR.y7 hc h
 |tuple c c' hc h=>exact dR.cons (.tuple c c' hc h) .nil
theorem VR.aD {μ:Mu}{v v':Value}(h:VR μ v v')(hk:aD v=true):v'.oneCell'=true:=by
 cases h with
 |plain v h=>cases v<;>first|rfl| (simp[cF] at h)
 |_=>first|rfl| (simp[Am.aD] at hk)
theorem dR.GU {μ:Mu}{l l':List Value}(h:dR μ l l')(hk:l.all aD=true): ∀v∈l',v.oneCell'=true:=by
 intro v hv;obtain⟨j,hj,rfl⟩:=List.getElem_of_mem hv;have GV:j<l.length:=by rw[h.1];exact hj
 obtain⟨u',e,r⟩:=h.2 j l[j] (List.getElem?_eq_getElem GV);rw[List.getElem?_eq_getElem hj] at e;cases e;exact r.aD (List.all_eq_true.1 hk _ (List.getElem_mem GV))
structure n9 (μ:Mu) (w:World) (b:eY) (l:Loc):Prop where
 es:l.es=b.es
 one:b.cells.all aD=true
 spare:b.ro=false→∀(cs:Array Value) ty fz,w.heap[l.b]? =some (.cells cs ty fz)→∀(k:Nat) (v:Value),l.o+b.cells.length≤k→cs[k]? =some v→cF v=true
 row: ∃cs ty fz,w.heap[l.b]? =some (.cells cs ty fz)∧cs.size=l.sz∧(b.ro=false→fz=(0,0))∧l.o+b.cells.length≤cs.size∧
  dR μ b.cells ((cs.toList.drop l.o).take b.cells.length)
def fX (μ:Mu)(E:Nat→Value)(tmps:Array Value):Prop:=∀t,VR μ (E t) (tmps.getD t undef)
theorem fX.mono {μ μ':Mu}{E:Nat→Value}{tmps:Array Value}(h:fX μ E tmps)(hm:μ.le μ'):fX μ' E tmps:=λt=>(h t).mono hm
def af8 (s:qw)(r:Loop):Prop:=match s with
 | .ready=>r.state= .ready∧r.pending=none
 | .busy=>r.state= .busy
 | .ret=>r.state= .done∧r.pending=some .ret
 | .exit id=>r.state= .done∧r.pending=some (.exit id)
def oa (P:Program)(μ:Mu)(w:World):dq→Nat→Prop
 | .loop L s,b=>∃r N,w.heap[b]? =some (.loop r)∧r.params=L.ps∧r.assign=L.assign∧r.body=L.body∧N≤r.tmps.size∧fK P N (.rangeFunc (.global 0) L.ps L.assign L.body)=true∧fX μ (Env.get (L.keep.zip L.vs)) r.tmps∧af8 s r
 | .kz k es,b=>∃ms clock,w.heap[b]? =some (.map ms clock)∧(ms.toList.map (·.key))=es.map (λe=>Value.int k e.1)∧dR μ (es.map (·.2)) (ms.toList.map (·.val))
theorem oa.at {P:Program}{μ:Mu}{w:World}{o:dq}{b:Nat}(h:oa P μ w o b): ∃x,w.heap[b]? =some x∧x.isCells=false:=by
 cases o with
 |loop L s=>obtain⟨r,N,h1,_⟩:=h;exact⟨_,h1,rfl⟩
 |kz k es=>obtain⟨ms,c,h1,_⟩:=h;exact⟨_,h1,rfl⟩
theorem oa.mono {P:Program}{μ μ':Mu}(hm:μ.le μ'){w:World}{o:dq}{b:Nat}(h:oa P μ w o b):oa P μ' w o b:=by
 cases o with
 |loop L s=>obtain⟨r,N,h1,h2,h3,h4,h5,h6,h7,h8⟩:=h;exact⟨r,N,h1,h2,h3,h4,h5,h6,h7.mono hm,h8⟩
 |kz k es=>obtain⟨ms,c,h1,h2,h3⟩:=h;exact⟨ms,c,h1,h2,h3.mono hm⟩
theorem oa.heap {P:Program}{μ:Mu}{w w':World}{o:dq}{b:Nat}(h:oa P μ w o b)(e:w'.heap[b]? =w.heap[b]?):oa P μ w' o b:=by
 cases o with
 |loop L s=>obtain⟨r,N,h1,h2⟩:=h;exact⟨r,N,by rw[e];exact h1,h2⟩
 |kz k es=>obtain⟨ms,c,h1,h2⟩:=h;exact⟨ms,c,by rw[e];exact h1,h2⟩
theorem oa.lt {P:Program}{μ:Mu}{w:World}{o:dq}{b:Nat}(h:oa P μ w o b):b<w.heap.size:=by
 obtain⟨x,h1,_⟩:=h.at;exact(Array.getElem?_eq_some_iff.1 h1).1
structure Oth (P:Program) (μ:Mu) (H:ae) (w:World) (B:Nat):Prop where
 ok: ∀i o,H.db i=some o→∃l,μ i=some l∧B≤l.b∧oa P μ w o l.b
 inj: ∀i j o p l m,H.db i=some o→H.db j=some p→μ i=some l→μ j=some m→i≠j→l.b≠m.b
theorem Oth.keep {P:Program}{μ μ':Mu}{H H':ae}{w w':World}{B:Nat}(h:Oth P μ H w B)(hm:μ.le μ')(hH: ∀i o,H'.db i=some o→H.db i=some o)(hw: ∀(b:Nat) (x:Obj),w.heap[b]? =some x→x.isCells=false→w'.heap[b]? =some x):Oth P μ' H' w' B:=by
 refine⟨λi o hi=>?_,λi j o p l m hi hj hl GD GF=>?_⟩
 ·obtain⟨l,h1,h2,h3⟩:=h.ok i o (hH i o hi);obtain⟨x,h4,h5⟩:=h3.at;exact⟨l,hm _ _ h1,h2,(h3.mono hm).heap (by rw[h4];exact hw _ _ h4 h5)⟩
 ·obtain⟨l1,k1,_⟩:=h.ok i o (hH i o hi);obtain⟨m1,k2,_⟩:=h.ok j p (hH j p hj);have e1:=hm _ _ k1;rw[hl] at e1;cases e1;have e2:=hm _ _ k2;rw[GD] at e2;cases e2;exact h.inj i j o p l m (hH i o hi) (hH j p hj) k1 k2 GF
structure da (P:Program) (μ:Mu) (H:ae) (w:World) (B:Nat):Prop where
 base:B≤w.heap.size
 ok: ∀i b,H.get i=some b→∃l,μ i=some l∧n9 μ w b l
 Cv: ∀i,H.length≤i→μ i=none
 inj: ∀i j b c l m,H.get i=some b→H.get j=some c→μ i=some l→μ j=some m→i≠j→b.ro=false→l.b≠m.b
 own: ∀i b l,H.get i=some b→b.ro=false→μ i=some l→B≤l.b
 db:Oth P μ H w B
 yl: ∀i,H[i]? =some .hole→μ i=none
theorem n9.mono {μ μ':Mu}(hm:μ.le μ'){w:World}{b:eY}{l:Loc}(h:n9 μ w b l):n9 μ' w b l:=
 ⟨h.es,h.one,h.spare,let ⟨cs,ty,fz,h1,h2,h3,h4,h5⟩:=h.row;⟨cs,ty,fz,h1,h2,h3,h4,h5.mono hm⟩⟩
theorem n9.heap {μ:Mu}{w w':World}{b:eY}{l:Loc}(h:n9 μ w b l)(e:w'.heap[l.b]? =w.heap[l.b]?):n9 μ w' b l:=
 ⟨h.es,h.one,by rw[e];exact h.spare,let ⟨cs,ty,fz,h1,h2⟩:=h.row;⟨cs,ty,fz,by rw[e];exact h1,h2⟩⟩
theorem n9.lt {μ:Mu}{w:World}{b:eY}{l:Loc}(h:n9 μ w b l):l.b<w.heap.size:=by
 obtain⟨cs,ty,fz,h1,_⟩:=h.row;exact(Array.getElem?_eq_some_iff.1 h1).1
theorem ae.tY {H:ae}{i:Nat}{b:eY}:H.get i=some b↔H[i]? =some (.hZ b):=by
 unfold ae.get;split
 ·rename_i c h;rw[h];simp
 ·rename_i h;constructor
  ·intro e;cases e
  ·intro e;exact absurd e (h b)
theorem ae.tZ {H:ae}{i:Nat}{o:dq}:H.db i=some o↔H[i]? =some (.db o):=by
 unfold ae.db;split
 ·rename_i c h;rw[h];simp
 ·rename_i h;constructor
  ·intro e;cases e
  ·intro e;exact absurd e (h o)
theorem ae.get_congr {H H':ae}{i j:Nat}(h:H[i]? =H'[j]?):H.get i=H'.get j:=by unfold ae.get;rw[h]
theorem ae.kN {H H':ae}{i j:Nat}(h:H[i]? =H'[j]?):H.db i=H'.db j:=by unfold ae.db;rw[h]
theorem ae.aq {H:ae}{i:Nat}{b:eY}(h:H.get i=some b):i<H.length:=by
 exact(List.getElem?_eq_some_iff.1 (ae.tY.1 h)).1
theorem ae.fi {H:ae}{i:Nat}{o:dq}(h:H.db i=some o):i<H.length:=by
 exact(List.getElem?_eq_some_iff.1 (ae.tZ.1 h)).1
theorem ae.sV {H:ae}{i:Nat}{b:eY}(h:H.get i=some b):H.db i=none:=by
 rw[ae.tY] at h;unfold ae.db;rw[h]
theorem ae.sW {H:ae}{i:Nat}{o:dq}(h:H.db i=some o):H.get i=none:=by
 rw[ae.tZ] at h;unfold ae.get;rw[h]
theorem ae.lB {H:ae}{b:eY}{i:Nat}(h:i<H.length):(H.new b).get i=H.get i:=ae.get_congr (List.getElem?_append_left h)
theorem ae.jj {H:ae}{b:eY}:(H.new b).get H.length=some b:=by
 rw[ae.tY];unfold ae.new;simp
theorem ae.kO {H:ae}{b:eY}:(H.new b).length=H.length+1:=by simp[ae.new]
theorem ae.qC {H:ae}{o:dq}:(H.gX o).length=H.length+1:=by simp[ae.gX]
theorem ae.az {H:ae}{b c:eY}{i:Nat}(h:(H.new b).get i=some c):(i=H.length∧c=b)∨(i<H.length∧H.get i=some c):=by
 have hl:=ae.aq h;rw[ae.kO] at hl;by_cases e:i=H.length
 ·subst e;rw[ae.jj] at h;exact .inl ⟨rfl,by cases h;rfl⟩
 ·right;rw[ae.lB (by omega)] at h;exact⟨by omega,h⟩
theorem ae.yo {H:ae}{b:eY}{i:Nat}{o:dq}(h:(H.new b).db i=some o):H.db i=some o:=by
 have hl:=ae.fi h;rw[ae.kO] at hl;by_cases e:i=H.length
 ·subst e;rw[ae.sV ae.jj] at h;cases h
 ·rw[←h];exact ae.kN (List.getElem?_append_left (by omega)).symm
theorem ae.sG {H:ae}{o:dq}:(H.gX o).db H.length=some o:=by
 rw[ae.tZ];unfold ae.gX;simp
theorem ae.od {H:ae}{o p:dq}{i:Nat}(h:(H.gX o).db i=some p):(i=H.length∧p=o)∨(i<H.length∧H.db i=some p):=by
 have hl:=ae.fi h;rw[ae.qC] at hl;by_cases e:i=H.length
 ·subst e;rw[ae.sG] at h;exact .inl ⟨rfl,by cases h;rfl⟩
 ·right;refine⟨by omega,?_⟩;rw[←h];exact ae.kN (List.getElem?_append_left (by omega)).symm
theorem ae.ua {H:ae}{o:dq}{b:eY}{i:Nat}(h:(H.gX o).get i=some b):H.get i=some b:=by
 have hl:=ae.aq h;rw[ae.qC] at hl;by_cases e:i=H.length
 ·subst e;rw[ae.sW ae.sG] at h;cases h
 ·rw[←h];exact ae.get_congr (List.getElem?_append_left (by omega)).symm
theorem ae.mD {H:ae}{b:eY}{i:Nat}:(H.put i b).length=H.length:=by simp[ae.put]
theorem ae.GX {H:ae}{o:dq}{i:Nat}:(H.fC i o).length=H.length:=by simp[ae.fC]
theorem ae.ie {H:ae}{i:Nat}:(H.kill i).length=H.length:=by simp[ae.kill]
theorem ae.fg {H:ae}{b:eY}{i:Nat}(h:i<H.length):(H.put i b).get i=some b:=by
 rw[ae.tY];unfold ae.put;simp[h]
theorem ae.bt {H:ae}{b:eY}{i j:Nat}(h:j≠i):(H.put i b).get j=H.get j:=ae.get_congr (List.getElem?_set_ne (Ne.symm h))
theorem ae.UN {H:ae}{b c:eY}{i j:Nat}{o:dq}(hb:H.get i=some b)(h:(H.put i c).db j=some o):H.db j=some o:=by
 by_cases e:j=i
 ·subst e;rw[ae.sV (ae.fg (ae.aq hb))] at h;cases h
 ·rw[←h];exact ae.kN (List.getElem?_set_ne (Ne.symm e)).symm
theorem ae.sH {H:ae}{o:dq}{i:Nat}(h:i<H.length):(H.fC i o).db i=some o:=by
 rw[ae.tZ];unfold ae.fC;simp[h]
theorem ae.wW {H:ae}{o:dq}{i j:Nat}(h:j≠i):(H.fC i o).db j=H.db j:=ae.kN (List.getElem?_set_ne (Ne.symm h))
theorem ae.oe {H:ae}{o p:dq}{i j:Nat}(ho:H.db i=some o):(H.fC i p).get j=H.get j:=by
 by_cases e:j=i
 ·subst e;rw[ae.sW (ae.sH (ae.fi ho)),ae.sW ho]
 ·exact ae.get_congr (List.getElem?_set_ne (Ne.symm e))
theorem ae.nK {H:ae}{i:Nat}:(H.kill i).get i=none:=by
 unfold ae.get ae.kill;by_cases h:i<H.length
 ·simp[h]
 ·rw[List.getElem?_eq_none (by simp;omega)]
theorem ae.sI {H:ae}{i:Nat}:(H.kill i).db i=none:=by
 unfold ae.db ae.kill;by_cases h:i<H.length
 ·simp[h]
 ·rw[List.getElem?_eq_none (by simp;omega)]
theorem ae.iX {H:ae}{i j:Nat}(h:j≠i):(H.kill i).get j=H.get j:=ae.get_congr (List.getElem?_set_ne (Ne.symm h))
theorem ae.GY {H:ae}{i j:Nat}(h:j≠i):(H.kill i).db j=H.db j:=ae.kN (List.getElem?_set_ne (Ne.symm h))
theorem ae.qD {H:ae}{i j:Nat}{o:dq}(h:(H.kill i).db j=some o):H.db j=some o:=by
 by_cases e:j=i
 ·subst e;rw[ae.sI] at h;cases h
 ·rw[←h,ae.GY e]
theorem ae.ub {H:ae}{i j:Nat}{b:eY}(h:(H.kill i).get j=some b):H.get j=some b:=by
 by_cases e:j=i
 ·subst e;rw[ae.nK] at h;cases h
 ·rw[←h,ae.iX e]
theorem ae.uc {H:ae}{b:eY}{i:Nat}(h:(H.new b)[i]? =some .hole):H[i]? =some .hole∧i<H.length:=by
 have hl:=(List.getElem?_eq_some_iff.1 h).1;unfold ae.new at h hl;by_cases e:i<H.length
 ·rw[List.getElem?_append_left e] at h;exact⟨h,e⟩
 ·have:i=H.length:=by simp at hl;omega
  subst this;simp at h
theorem ae.Nh {H:ae}{o:dq}{i:Nat}(h:(H.gX o)[i]? =some .hole):H[i]? =some .hole∧i<H.length:=by
 have hl:=(List.getElem?_eq_some_iff.1 h).1;unfold ae.gX at h hl;by_cases e:i<H.length
 ·rw[List.getElem?_append_left e] at h;exact⟨h,e⟩
 ·have:i=H.length:=by simp at hl;omega
  subst this;simp at h
theorem ud {H:ae}{s:Slot}{i j:Nat}(hs:s≠ .hole)(h:(H.set j s)[i]? =some .hole):H[i]? =some .hole∧i≠j:=by
 by_cases e:j=i
 ·subst e;rw[List.getElem?_set] at h;simp only[if_true] at h;split at h
  ·cases h;exact absurd rfl hs
  ·cases h
 ·rw[List.getElem?_set_ne e] at h;exact⟨h,Ne.symm e⟩
theorem ae.Qn {H:ae}{b:eY}{i j:Nat}(h:(H.put j b)[i]? =some .hole):H[i]? =some .hole∧i≠j:=ud (by simp) h
theorem ae.Ni {H:ae}{o:dq}{i j:Nat}(h:(H.fC j o)[i]? =some .hole):H[i]? =some .hole∧i≠j:=ud (by simp) h
theorem ae.vT {H:ae}{i j:Nat}(h:(H.kill j)[i]? =some .hole):H[i]? =some .hole∧i≠j:=ud (by simp) h
theorem da.heap {P:Program}{μ:Mu}{H:ae}{w w':World}{B:Nat}(h:da P μ H w B)(e:w'.heap=w.heap):da P μ H w' B:=
 ⟨by rw[e];exact h.base,λi b hb=>let ⟨l,h1,h2⟩:=h.ok i b hb;⟨l,h1,h2.heap (by rw[e])⟩,h.Cv,h.inj,h.own,h.db.keep μ.le_refl (λ_ _ h=>h) (λb x hb _=>by rw[e];exact hb),h.yl⟩
theorem da.alloc {P:Program}{μ:Mu}{H:ae}{w:World}{B:Nat}(h:da P μ H w B)(cs:List Value)(ty t:TypeId)(es:Nat)(dg:Array Value)(n:Nat)(hn:n=dg.size)(Qo:cs.all aD=true)(hle:cs.length≤dg.size)(hv:dR μ cs (dg.toList.take cs.length))(Qp: ∀(k:Nat) (v:Value),cs.length≤k→dg[k]? =some v→cF v=true):
  μ.le (μ.up H.length ⟨w.heap.size,0,n,es⟩)∧da P (μ.up H.length ⟨w.heap.size,0,n,es⟩) (H.new ⟨cs,t,es,false⟩) (w.alloc (.cells dg ty)) B:=by
 subst hn;have kP:=Mu.Dq (l:=⟨w.heap.size,0,dg.size,es⟩) (h.Cv H.length (Nat.le_refl _));refine⟨kP,by have:=h.base;simp;omega,?_,?_,?_,?_,h.db.keep kP (λ_ _=>ae.yo) (λb x hb _=>(Go.RowKit.Below.heap_alloc _ _ _ (Array.getElem?_eq_some_iff.1 hb).1).trans hb),λi hi=>by obtain⟨h1,h2⟩:=ae.uc hi;rw[Mu.dc (by omega)];exact h.yl i h1⟩
 ·intro i b hb;rcases ae.az hb with⟨rfl,rfl⟩|⟨hi,hb⟩
  ·have lD:(w.heap.push (.cells dg ty (0,0)))[w.heap.size]? =some (.cells dg ty (0,0)):=by simp
   refine⟨_,Mu.aQ,rfl,Qo,(λ_ P7 nL UO h2 k v hk xF=>?_),dg,ty,(0,0),?_,rfl,λ_=>rfl,by simpa using hle,?_⟩
   ·have Nj:(w.heap.push (.cells dg ty (0,0)))[w.heap.size]? =some (.cells P7 nL UO):=h2;rw[lD] at Nj;cases Nj;exact Qp k v (by simpa using hk) xF
   ·show(w.heap.push _)[w.heap.size]? =_;simp
   ·simpa using hv.mono kP
  ·obtain⟨l,h1,h2⟩:=h.ok i b hb;refine⟨l,kP _ _ h1,(h2.mono kP).heap ?_⟩;exact Go.RowKit.Below.heap_alloc _ _ _ h2.lt
 ·intro i hi;rw[ae.kO] at hi;rw[Mu.dc (by omega)];exact h.Cv i (by omega)
 ·intro i j b c l m hb hc hl hm GF fQ;rcases ae.az hb with⟨rfl,rfl⟩|⟨hi,hb⟩<;>rcases ae.az hc with⟨rfl,rfl⟩|⟨hj,hc⟩
  ·exact absurd rfl GF
  ·rw[Mu.aQ] at hl;cases hl;rw[Mu.dc (by omega)] at hm
   obtain⟨m',e,k⟩:=h.ok j c hc;rw[hm] at e;cases e;have:=k.lt;show w.heap.size≠m.b;omega
  ·rw[Mu.aQ] at hm;cases hm;rw[Mu.dc (by omega)] at hl
   obtain⟨l',e,k⟩:=h.ok i b hb;rw[hl] at e;cases e;have:=k.lt;show l.b≠w.heap.size;omega
  ·rw[Mu.dc (by omega)] at hl hm
   exact h.inj i j b c l m hb hc hl hm GF fQ
 ·intro i b l hb fQ hl;rcases ae.az hb with⟨rfl,rfl⟩|⟨hi,hb⟩
  ·rw[Mu.aQ] at hl;cases hl;exact h.base
  ·rw[Mu.dc (by omega)] at hl;exact h.own i b l hb fQ hl
end Go.Proofs.YtjgmnoaalbbonaaGreatA.Am
end
section
namespace Go.Proofs.YtjgmnoaalbbonaaGreatA.Am
open Go.RowKit (Below)
structure gE (B:Nat) (w w':World):Prop where
 below:Below B w w'
 loops: ∀(b:Nat) (r:Loop),w.heap[b]? =some (.loop r)→∃r',w'.heap[b]? =some (.loop r')∧r'.defers=r.defers
 dfr: ∀(b:Nat),w.heap[b]? =some (.deferred (some []))→w'.heap[b]? =some (.deferred (some []))
 size:w.heap.size≤w'.heap.size
theorem gE.ue {B:Nat}{w w':World}(h:Below B w w')(k:KeepsOthers w w'):gE B w w':=
 ⟨h,λ_ r hb=>⟨r,k.same _ _ hb rfl,rfl⟩,λ_ hb=>k.same _ _ hb rfl,k.size⟩
theorem gE.refl (B:Nat)(w:World):gE B w w:=.ue (Below.refl _ _) (KeepsOthers.refl _)
theorem gE.trans {B:Nat}{w w1 w2:World}(h:gE B w w1)(k:gE B w1 w2):gE B w w2:=
 ⟨h.below.trans k.below,λb r hb=>by
  obtain⟨r1,h1,e1⟩:=h.loops b r hb;obtain⟨r2,h2,e2⟩:=k.loops b r1 h1;exact⟨r2,h2,e2.trans e1⟩,λb hb=>k.dfr b (h.dfr b hb),Nat.le_trans h.size k.size⟩
theorem gE.drew {B:Nat}{w w1:World}(h:gE B w w1):gE B w w1.drew:=h.trans (.ue ((Below.refl _ _).drew) (KeepsOthers.drew _))
theorem gE.alloc {B:Nat}{w w1:World}(h:gE B w w1)(hB:B≤w1.heap.size)(o:Obj):gE B w (w1.alloc o):=h.trans (.ue ((Below.refl _ _).alloc hB o) (KeepsOthers.alloc _ _))
theorem iY (b o j:Nat):(⟨b,o,none⟩:Addr).add j=⟨b,o+j,none⟩:=by unfold Addr.add;split<;>simp_all
theorem da.ld {P:Program}{μ:Mu}{H:ae}{w:World}{B i off:Nat}{b:eY}{l:Loc}{v:Value}(h:da P μ H w B)(hb:H.get i=some b)(hl:μ i=some l)(hv:b.cells[off]? =some v): ∃v',w.cell? ⟨l.b,l.o+off,none⟩=some v'∧VR μ v v':=by
 obtain⟨l',e,k⟩:=h.ok i b hb;rw[hl] at e;cases e;obtain⟨cs,ty,fz,h1,h2,h3,h4,h5⟩:=k.row;obtain⟨v',e,r⟩:=h5.2 off v hv;refine⟨v',?_,r⟩;have dH:off<b.cells.length:=(List.getElem?_eq_some_iff.1 hv).1;rw[List.getElem?_take,if_pos dH,List.getElem?_drop] at e;simp only[World.cell?,h1];simpa using e
theorem da.aA {P:Program}{μ:Mu}{H:ae}{w:World}{B i off n:Nat}{l:Loc}{vs:List Value}(h:da P μ H w B)(hl:μ i=some l)(hv:Am.aA H i off n=some vs):vs.length=n∧∃ju,dR μ vs ju∧∀(j:Nat) (v:Value),ju[j]? =some v→w.cell? ((⟨l.b,l.o+off,none⟩:Addr).add j)=some v:=by
 unfold Am.aA at hv;cases hb:H.get i with
 |none=>rw[hb] at hv;cases hv
 |some b=>
  rw[hb] at hv;simp only at hv;split at hv
  ·rename_i hle;cases hv;obtain⟨l',e,k⟩:=h.ok i b hb;rw[hl] at e;cases e;obtain⟨cs,ty,fz,h1,h2,h3,h4,h5⟩:=k.row;refine⟨by simp;omega,_,(h5.drop off).take n,λj v hj=>?_⟩
   rw[iY];rw[List.getElem?_take] at hj;split at hj
   ·rename_i hjn;rw[List.getElem?_drop,List.getElem?_take] at hj;split at hj
    ·rw[List.getElem?_drop] at hj;simp only[World.cell?,h1];simpa[Nat.add_assoc] using hj
    ·cases hj
   ·cases hj
  ·cases hv
theorem da.Dt {P:Program}{μ:Mu}{H:ae}{w:World}{B i off n:Nat}{vs:List Value}(h:da P μ H w B)(hv:Am.aA H i off n=some vs):vs.all aD=true:=by
 unfold Am.aA at hv;cases hb:H.get i with
 |none=>rw[hb] at hv;cases hv
 |some b=>
  rw[hb] at hv;simp only at hv;split at hv
  ·cases hv;obtain⟨l,_,k⟩:=h.ok i b hb;have:=k.one
   rw[List.all_eq_true] at this ⊢;intro x hx;exact this x (List.mem_of_mem_drop (List.mem_of_mem_take hx))
  ·cases hv
theorem jk: ∀(vs cs:List Value) (off:Nat),off+vs.length≤cs.length→bO cs off vs=cs.take off++vs++cs.drop (off+vs.length)
 | [],cs,off,_=>by simp[bO]
 |v::r,cs,off,h=>by
  simp only[List.length_cons] at h;rw[bO,jk r (cs.set off v) (off+1) (by simp;omega)]
  have e1:(cs.set off v).take (off+1)=cs.take off++[v]:=by
   rw[List.take_set,List.take_succ_eq_append_getElem (by omega)]
   rw[List.set_append_right _ _ (by simp;omega)]
   simp[Nat.min_eq_left (show off≤cs.length by omega)]
  have e2:(cs.set off v).drop (off+1+r.length)=cs.drop (off+(v::r).length):=by
   rw[List.drop_set_of_lt (by omega)]
   congr 1;simp;omega
  rw[e1,e2];simp
theorem y9 {f:Value→Bool}: ∀(vs cs:List Value) (off:Nat),cs.all f=true→vs.all f=true→(bO cs off vs).all f=true
 | [],cs,off,h,_=>h
 |v::r,cs,off,h,k=>by
  rw[bO];simp only[List.all_cons,Bool.and_eq_true] at k;refine y9 r _ _ ?_ k.2;rw[List.all_eq_true] at h ⊢;intro x hx;rcases List.mem_or_eq_of_mem_set hx with hx|rfl
  ·exact h x hx
  ·exact k.1
theorem gM {vs cs:List Value}{off:Nat}(h:off+vs.length≤cs.length):(bO cs off vs).length=cs.length:=by
 rw[jk _ _ _ h];simp;omega
theorem GZ {P:Program}{μ:Mu}{H:ae}{w w':World}{B i:Nat}{b:eY}{l:Loc}(hb:H.get i=some b)(hl:μ i=some l)(h:da P μ H w B)(hw: ∀k,k≠l.b→w'.heap[k]? =w.heap[k]?)(k:Nat)(x:Obj)(hk:w.heap[k]? =some x)(hx:x.isCells=false):w'.heap[k]? =some x:=by
 rw[hw k ?_];exact hk;rintro rfl;obtain⟨l',e,ko⟩:=h.ok i b hb;rw[hl] at e;cases e;obtain⟨cs,ty,fz,h1,_⟩:=ko.row;rw[h1] at hk;cases hk;cases hx
theorem da.put {P:Program}{μ:Mu}{H:ae}{w w':World}{B i:Nat}{b b':eY}{l:Loc}(h:da P μ H w B)(hb:H.get i=some b)(fQ:b.ro=false)(hl:μ i=some l)(hw: ∀k,k≠l.b→w'.heap[k]? =w.heap[k]?)(hs:w'.heap.size=w.heap.size)(ah3:b'.ro=false)(gJ:n9 μ w' b' l):da P μ (H.put i b') w' B:=by
 have hi:=ae.aq hb;refine⟨by rw[hs];exact h.base,?_,λk hk=>h.Cv k (by rw[ae.mD] at hk;exact hk),?_,?_,h.db.keep μ.le_refl (λ_ _=>ae.UN hb) (GZ hb hl h hw),λk hk=>h.yl k (ae.Qn hk).1⟩
 ·intro j c hc;by_cases e:j=i
  ·subst e;rw[ae.fg hi] at hc;cases hc;exact⟨l,hl,gJ⟩
  ·rw[ae.bt e] at hc;obtain⟨m,hm,k⟩:=h.ok j c hc;exact⟨m,hm,k.heap (hw _ (Ne.symm (h.inj i j b c l m hb hc hl hm (Ne.symm e) fQ)))⟩
 ·intro j k c d m n hc hd hm hn Ek G0;by_cases e:j=i
  ·subst e;rw[ae.fg hi] at hc;cases hc;rw[ae.bt (Ne.symm Ek)] at hd;exact h.inj j k b d m n hb hd hm hn Ek fQ
  ·rw[ae.bt e] at hc;by_cases e2:k=i
   ·subst e2;exact h.inj j k c b m n hc hb hm hn Ek G0
   ·rw[ae.bt e2] at hd;exact h.inj j k c d m n hc hd hm hn Ek G0
 ·intro j c m hc G0 hm;by_cases e:j=i
  ·subst e;exact h.own j b m hb fQ hm
  ·rw[ae.bt e] at hc;exact h.own j c m hc G0 hm
theorem da.move {P:Program}{μ:Mu}{H:ae}{w w':World}{B i:Nat}{b b':eY}{l l':Loc}(h:da P μ H w B)(hb:H.get i=some b)(fQ:b.ro=false)(hl:μ i=some l)(I6:l'.b=l.b)(hw: ∀k,k≠l.b→w'.heap[k]? =w.heap[k]?)(hs:w'.heap.size=w.heap.size)(gJ:n9 μ w' b' l'):
  μ.le (μ.up H.length l')∧da P (μ.up H.length l') ((H.kill i).new b') w' B:=by
 have hi:=ae.aq hb;have hle:=Mu.Dq (l:=l') (h.Cv H.length (Nat.le_refl _));have old: ∀{j:Nat} {c:eY},((H.kill i).new b').get j=some c→(j=H.length∧c=b')∨(j<H.length∧j≠i∧H.get j=some c):=by
  intro j c hc;rcases ae.az hc with⟨e,e'⟩|⟨hj,hc⟩
  ·rw[ae.ie] at e;exact .inl ⟨e,e'⟩
  ·rw[ae.ie] at hj;by_cases e:j=i
   ·subst e;rw[ae.nK] at hc;cases hc
   ·rw[ae.iX e] at hc;exact .inr ⟨hj,e,hc⟩
 refine⟨hle,by rw[hs];exact h.base,?_,?_,?_,?_,h.db.keep hle (λ_ _ hk=>ae.qD (ae.yo hk)) (GZ hb hl h hw),λk hk=>by obtain⟨h1,h2⟩:=ae.uc hk;rw[ae.ie] at h2;rw[Mu.dc (by omega)];exact h.yl k (ae.vT h1).1⟩
 ·intro j c hc;rcases old hc with⟨rfl,rfl⟩|⟨hj,e,hc⟩
  ·exact⟨l',Mu.aQ,gJ.mono hle⟩
  ·obtain⟨m,hm,k⟩:=h.ok j c hc;exact⟨m,hle _ _ hm,(k.heap (hw _ (Ne.symm (h.inj i j b c l m hb hc hl hm (Ne.symm e) fQ)))).mono hle⟩
 ·intro j hj;rw[ae.kO,ae.ie] at hj;rw[Mu.dc (by omega)];exact h.Cv j (by omega)
 ·intro j k c d m n hc hd hm hn Ek G0;rcases old hc with⟨rfl,rfl⟩|⟨hj,e,Uj⟩<;>rcases old hd with⟨rfl,rfl⟩|⟨hk,e2,hd1⟩
  ·exact absurd rfl Ek
  ·rw[Mu.aQ] at hm;cases hm;rw[Mu.dc (by omega)] at hn
   rw[I6];exact h.inj i k b d l n hb hd1 hl hn (Ne.symm e2) fQ
  ·rw[Mu.aQ] at hn;cases hn;rw[Mu.dc (by omega)] at hm
   rw[I6];exact λx=>h.inj i j b c l m hb Uj hl hm (Ne.symm e) fQ x.symm
  ·rw[Mu.dc (by omega)] at hm hn
   exact h.inj j k c d m n Uj hd1 hm hn Ek G0
 ·intro j c m hc G0 hm;rcases old hc with⟨rfl,rfl⟩|⟨hj,e,hc⟩
  ·rw[Mu.aQ] at hm;cases hm;rw[I6];exact h.own i b l hb fQ hl
  ·rw[Mu.dc (by omega)] at hm;exact h.own j c m hc G0 hm
theorem uf {w:World}{g B:Nat}{cs:Array Value}(h:B≤g)(hg: ∀o,w.heap[g]? =some o→o.isCells=true):gE B w (w.setRow g cs):=
 .ue ⟨rfl,rfl,rfl,by simp[World.setRow],λk hk=>setRow_other w g k cs (by omega)⟩ ⟨by simp[World.setRow],λk o hk ho=>by
  by_cases e:k=g
  ·subst e;rw[hg o hk] at ho;cases ho
  ·rw[setRow_other w g k cs e];exact hk⟩
theorem setRow_size (w:World)(g:Nat)(cs:Array Value):(w.setRow g cs).heap.size=w.heap.size:=by simp[World.setRow]
theorem da.st {P:Program}{μ:Mu}{H H':ae}{w:World}{B i off:Nat}{l:Loc}{vs ju:List Value}(h:da P μ H w B)(hl:μ i=some l)(ky:bG H i off vs=some H')(hv:dR μ vs ju):
  ∃w',(storeCells ⟨l.b,l.o+off,none⟩ ju).run P w= .ok () w'∧da P μ H' w' B∧gE B w w':=by
 unfold bG at ky;cases hb:H.get i with
 |none=>rw[hb] at ky;cases ky
 |some b=>
  rw[hb] at ky;simp only at ky;split at ky
  ·rename_i hc;cases ky;simp only[Bool.and_eq_true,Bool.not_eq_true',decide_eq_true_eq] at hc;obtain⟨⟨fQ,hle⟩,kA⟩:=hc;obtain⟨l',e,k⟩:=h.ok i b hb;rw[hl] at e;cases e;obtain⟨cs,ty,fz,h1,h2,h3,h4,h5⟩:=k.row;obtain rfl:=h3 fQ;have hlen:=hv.1;have eK:=run_storeCells_at (P:=P) l.b (l.o+off) ty ju 0 cs w h1 (by omega) (hv.GU kA)
   refine⟨_,eK,?_,uf (h.own i b l hb fQ hl) (λo ho=>by rw[h1] at ho;cases ho;rfl)⟩
   refine h.put hb fQ hl (λk hk=>setRow_other w l.b k _ hk) (setRow_size _ _ _) fQ ?_
   refine⟨k.es,y9 _ _ _ k.one kA,?_,_,ty,(0,0),setRow_heap w l.b cs _ ty (0,0) h1,?_,λ_=>rfl,?_,?_⟩
   ·intro _ P7 nL UO g2 j v hj xF;rw[setRow_heap w l.b cs _ ty (0,0) h1] at g2;cases g2;simp only[gM hle] at hj;refine k.spare fQ cs ty (0,0) h1 j v hj ?_;have lQ:cs.toList.length=cs.size:=by simp
    rw[←xF];simp only[Nat.add_zero,List.getElem?_toArray,List.getElem?_append,List.length_append,List.length_take,lQ,List.getElem?_drop];rw[if_neg (by omega), ←Array.getElem?_toList]
    congr 1;omega
   ·simp;omega
   ·simp only[gM hle];simp;omega
   ·simp only[gM hle];rw[jk _ _ _ hle];have e:(((cs.toList.take (l.o+off+0)++ju++cs.toList.drop (l.o+off+0+ju.length)).toArray.toList.drop l.o).take b.cells.length)=
      ((cs.toList.drop l.o).take b.cells.length).take off++ju++((cs.toList.drop l.o).take b.cells.length).drop (off+vs.length):=by
     apply List.ext_getElem?;intro j;have lQ:cs.toList.length=cs.size:=by simp
     simp only[Nat.add_zero,List.getElem?_take,List.getElem?_drop,List.getElem?_append,List.length_append,List.length_take,List.length_drop,lQ];by_cases hj:j<b.cells.length
     ·rw[if_pos hj];by_cases h1:j<off
      ·rw[if_pos (by omega),if_pos (by omega),if_pos (by omega),if_pos (by omega),if_pos (by omega),if_pos h1,if_pos hj]
      ·by_cases h2:j<off+ju.length
       ·rw[if_pos (by omega),if_neg (by omega),if_pos (by omega),if_neg (by omega)]
        congr 1;omega
       ·rw[if_neg (by omega),if_neg (by omega),if_pos (by omega)]
        congr 1;omega
     ·rw[if_neg hj,if_neg (by omega),if_neg (by omega)]
    rw[e];exact((h5.take off).append hv).append (h5.drop (off+vs.length))
  ·cases ky
variable {P:Program} {μ:Mu} {H H':ae} {w:World} {B:Nat}
theorem eZ {t:TypeId}{n:Nat}(h:iU P t=some n)(w:World):(sizeOf t).run P w= .ok n w:=by
 unfold iU at h;cases hi:P.info? t with
 |none=>rw[hi] at h;cases h
 |some i=>rw[hi] at h;cases h;simp[sizeOf,typeInfo,hi]
theorem mE {t:TypeId}{i:TypeInfo}(h:P.info? t=some i)(w:World):(typeInfo t).run P w= .ok i w:=by simp[typeInfo,h]
theorem oX {t:TypeId}{n:Nat}(h:n6 P t=some n): ∃i,P.info? t=some i∧i.bytes=n:=by
 unfold n6 at h;cases hi:P.info? t with
 |none=>rw[hi] at h;cases h
 |some i=>rw[hi] at h;cases h;exact⟨i,rfl,rfl⟩
theorem yp {t:TypeId}{b:Bool}(h:UL P t=some b)(w:World):(isAgg t).run P w= .ok b w:=by
 unfold UL at h;cases hi:P.underlying t with
 |none=>rw[hi] at h;cases h
 |some d=>
  rw[hi] at h;unfold isAgg;cases d<;>simp at h<;>subst h<;>simp[run_underlying hi]
theorem eG {t:TypeId}{z:Value}(h:zeroOf P t=some z)(w:World):(zeroValue t).run P w= .ok z w∧gZ z=true∧∃n,iU P t=some n∧z.cells.size=n:=by
 unfold zeroOf at h;cases hi:P.info? t with
 |none=>rw[hi] at h;cases h
 |some i=>
  rw[hi] at h;simp only[Option.bind_some] at h;cases hz:i.zero with
  |none=>rw[hz] at h;cases h
  |some z'=>
   rw[hz] at h;simp only at h;split at h
   ·rename_i hc;cases h;simp only[Bool.and_eq_true,beq_iff_eq] at hc;refine⟨by simp[zeroValue,typeInfo,hi,hz],hc.1,i.size,by simp[iU,hi],hc.2⟩
   ·cases h
theorem wX {t:TypeId}{p p' v:Value}(hS:da P μ H w B)(hp:VR μ p p')(h:ke P t p H=some v):
  ∃v',(Instr.loadAt t p').run P w= .ok v' w∧VR μ v v':=by
 unfold ke at h;split at h
 ·rename_i i off;obtain⟨i',Qq,l,e,hl,rfl⟩:=hp.oW;cases e;have hsa: ∀w,(Instr.sureAddr (.pointer (some ⟨l.b,l.o+off,none⟩))).run P w= .ok ⟨l.b,l.o+off,none⟩ w:=λ_=>rfl
  split at h
  ·rename_i ha;cases hz:iU P t with
   |none=>rw[hz] at h;cases h
   |some n=>
    rw[hz] at h;simp only at h;cases hc:aA H i off n with
    |none=>rw[hc] at h;cases h
    |some vs=>
     rw[hc] at h;cases h;obtain⟨hlen,ju,hv,wY⟩:=hS.aA hl hc;have ug:ju.length=n:=by rw[←hv.1];exact hlen
     refine⟨.agg ju.toArray,?_,hv.Qm⟩;have hr:=run_loadCells_list (P:=P) w ⟨l.b,l.o+off,none⟩ ju wY;rw[ug] at hr;simp[Instr.loadAt,hsa,loadVar,yp ha,eZ hz,hr]
  ·rename_i ha;cases hb:H.get i with
   |none=>rw[hb] at h;cases h
   |some b=>
    rw[hb] at h;obtain⟨v',hc,hv⟩:=hS.ld hb hl h;exact⟨v',by simp[Instr.loadAt,hsa,loadVar,yp ha,hc],hv⟩
  ·cases h
 ·cases h
theorem G1 {t:TypeId}{p p' v v':Value}(hS:da P μ H w B)(hp:VR μ p p')(hv:VR μ v v')(h:Dm P t p v H=some H'):
  ∃w',(Instr.storeAt t p' v').run P w= .ok () w'∧da P μ H' w' B∧gE B w w':=by
 unfold Dm at h;split at h
 ·rename_i i off;obtain⟨i',Qq,l,e,hl,rfl⟩:=hp.oW;cases e;have hsa: ∀w,(Instr.sureAddr (.pointer (some ⟨l.b,l.o+off,none⟩))).run P w= .ok ⟨l.b,l.o+off,none⟩ w:=λ_=>rfl
  cases hz:iU P t with
  |none=>rw[hz] at h;cases h
  |some n=>
   rw[hz] at h;simp only at h;split at h
   ·rename_i hc;have lQ:=dR.cells hv hc.2;obtain⟨w',hr,pY,hB⟩:=hS.st hl h lQ;have hn:v'.cells.size=n:=by have:=lQ.1;simp at this;omega
    exact⟨w',by simp[Instr.storeAt,hsa,storeVar,eZ hz,hn,hr],pY,hB⟩
   ·cases h
 ·cases h
theorem nh {t:TypeId}{cs dg:Array Value}{off:Nat}{v:Value}(hc:dR μ cs.toList dg.toList)(h:Am.apart P t cs off=some v)(w:World):
  ∃v',(part t dg off).run P w= .ok v' w∧VR μ v v':=by
 unfold Am.apart at h;split at h
 ·rename_i ha;cases hz:iU P t with
  |none=>rw[hz] at h;cases h
  |some n=>
   rw[hz] at h;cases h;refine⟨.agg (dg.extract off (off+n)),by simp[part,yp ha,eZ hz],dR.agg ?_⟩
   have:=(hc.drop off).take n
   simpa[List.take_drop,Nat.add_comm] using this
 ·rename_i ha;obtain⟨v',e,r⟩:=hc.2 off v (by simpa using h)
  exact⟨v',by simp[part,yp ha,show dg[off]? =some v' by simpa using e],r⟩
 ·cases h
end Go.Proofs.YtjgmnoaalbbonaaGreatA.Am
end
