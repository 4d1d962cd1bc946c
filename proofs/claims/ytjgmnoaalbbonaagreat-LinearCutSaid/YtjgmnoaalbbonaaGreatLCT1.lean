/- Texts of the proof of linearCut_holds, put together by a small program of ours (names shortened, spaces taken out). No condition beyond the given statement. -/
import Derived.Test.YtjgmnoaalbbonaaGreatLCT0
import Derived.RangeFuncOwn
import Derived.Laws.CopyRow
import Derived.Laws.Cells
import Derived.Laws.World
import Derived.Laws.Entries
import Derived.Laws.Tables
import Derived.ChangeKeysEq
import Derived.RangeFuncCalls
set_option linter.unusedVariables false
set_option linter.unusedSimpArgs false
set_option linter.unnecessarySimpa false
noncomputable section
section
namespace Go.Proofs.YtjgmnoaalbbonaaGreatA.Am
structure Loc where
 b:Nat
 o:Nat
 sz:Nat
 es:Nat
abbrev Mu:=Nat→Option Loc
def Mu.le (μ μ':Mu):Prop:=∀i l,μ i=some l→μ' i=some l
theorem Mu.le_refl (μ:Mu):μ.le μ:=λ_ _ h=>h
theorem Mu.le_trans {a b c:Mu}(h:a.le b)(k:b.le c):a.le c:=λi l e=>k i l (h i l e)
def Mu.up (μ:Mu)(i:Nat)(l:Loc):Mu:=λj=>if j=i then some l else μ j
theorem Mu.AV {μ:Mu}{i:Nat}{l:Loc}(h:μ i=none):μ.le (μ.up i l):=by
 intro j m hj;unfold Mu.up;by_cases e:j=i
 ·subst e;rw[h] at hj;cases hj
 ·rw[if_neg e];exact hj
theorem Mu.aH {μ:Mu}{i:Nat}{l:Loc}:μ.up i l i=some l:=by simp[Mu.up]
theorem Mu.cZ {μ:Mu}{i j:Nat}{l:Loc}(h:j≠i):μ.up i l j=μ j:=by simp[Mu.up,h]
def isY:Fn→Bool
 | .yield _=>true
 |_=>false
inductive VR (μ:Mu):Value→Value→Prop
 |kI (v:Value):VR μ (.complex .f64 0 0) v
 |plain (v:Value) (h:bY v=true):VR μ v v
 |ptr (i off:Nat) (l:Loc) (h:μ i=some l):VR μ (.pointer (some ⟨i,off,none⟩)) (.pointer (some ⟨l.b,l.o+off,none⟩))
 |slice (i off len cap dG:Nat) (l:Loc) (h:μ i=some l) (h1:len≤cap) (h2:cap≤dG) (h3:l.o+off+dG*l.es≤l.sz):
   VR μ (.slice (some ⟨i,off,none⟩) len cap) (.slice (some ⟨l.b,l.o+off,none⟩) len dG)
 |mj (i off:Nat) (a:Addr):VR μ (.slice (some ⟨i,off,none⟩) 0 0) (.slice (some a) 0 0)
 |BM (i:Nat) (l:Loc) (h:μ i=some l):VR μ (.map (some i)) (.map (some l.b))
 |Tl (i:Nat) (l:Loc) (h:μ i=some l):VR μ (.func (.yield i) #[] #[]) (.func (.yield l.b) #[] #[])
 |func (fn:Fn) (f f' c c':Array Value) (hy:isY fn=false) (hf:f.size=f'.size) (hc:c.size=c'.size)
   (h1: ∀j (h:j<f.size) (h':j<f'.size),VR μ f[j] f'[j]) (h2: ∀j (h:j<c.size) (h':j<c'.size),VR μ c[j] c'[j]):
   VR μ (.func fn f c) (.func fn f' c')
 |agg (c c':Array Value) (hc:c.size=c'.size) (h: ∀j (h:j<c.size) (h':j<c'.size),VR μ c[j] c'[j]):VR μ (.agg c) (.agg c')
 |tuple (c c':Array Value) (hc:c.size=c'.size) (h: ∀j (h:j<c.size) (h':j<c'.size),VR μ c[j] c'[j]):VR μ (.tuple c) (.tuple c')
theorem VR.mono {μ μ':Mu}(hm:μ.le μ'){v v':Value}(h:VR μ v v'):VR μ' v v':=by
 induction h with
 |kI v=>exact .kI v
 |plain v h=>exact .plain v h
 |ptr i off l h=>exact .ptr i off l (hm _ _ h)
 |slice i off len cap dG l h h1 h2 h3=>exact .slice i off len cap dG l (hm _ _ h) h1 h2 h3
 |mj i off a=>exact .mj i off a
 |BM i l h=>exact .BM i l (hm _ _ h)
 |Tl i l h=>exact .Tl i l (hm _ _ h)
 |func fn f f' c c' hy hf hc _ _ i1 i2=>exact .func fn f f' c c' hy hf hc i1 i2
 |agg c c' hc _ ih=>exact .agg c c' hc ih
 |tuple c c' hc _ ih=>exact .tuple c c' hc ih
def dB (μ:Mu)(l l':List Value):Prop:=l.length=l'.length∧∀(j:Nat) (u:Value),l[j]? =some u→∃u':Value,l'[j]? =some u'∧VR μ u u'
theorem dB.mono {μ μ':Mu}(hm:μ.le μ'){l l':List Value}(h:dB μ l l'):dB μ' l l':=
 ⟨h.1,λj u hj=>let ⟨u',a,b⟩:=h.2 j u hj;⟨u',a,b.mono hm⟩⟩
theorem dB.nil {μ:Mu}:dB μ [] []:=⟨rfl,λj u h=>by simp at h⟩
theorem dB.cons {μ:Mu}{a b:Value}{x y:List Value}(h:VR μ a b)(k:dB μ x y):dB μ (a::x) (b::y):=by
 refine⟨by simp[k.1],λj u hj=>?_⟩
 cases j with
 |zero=>simp at hj;subst hj;exact⟨b,rfl,h⟩
 |succ j=>simp at hj ⊢;exact k.2 j u hj
theorem dB.fS {μ:Mu}{a:Value}{x l:List Value}(h:dB μ (a::x) l): ∃b y,l=b::y∧VR μ a b∧dB μ x y:=by
 cases l with
 |nil=>have:=h.1;simp at this
 |cons b y=>
  obtain⟨u',h1,h2⟩:=h.2 0 a rfl;simp at h1;subst h1;exact⟨b,y,rfl,h2,by have:=h.1;simpa using this,λj u hj=>by have:=h.2 (j+1) u (by simpa using hj);simpa using this⟩
theorem dB.iB {μ:Mu}{l:List Value}(h:dB μ [] l):l=[]:=by
 exact List.eq_nil_of_length_eq_zero h.1.symm
theorem dB.append {μ:Mu}{a b x y:List Value}(h:dB μ a b)(k:dB μ x y):dB μ (a++x) (b++y):=by
 induction a generalizing b with
 |nil=>rw[dB.iB h];exact k
 |cons v a ih=>obtain⟨c,z,rfl,h1,h2⟩:=h.fS;exact .cons h1 (ih h2)
theorem dB.drop {μ:Mu}{a b:List Value}(h:dB μ a b)(n:Nat):dB μ (a.drop n) (b.drop n):=by
 refine⟨by simp[h.1],λj u hj=>?_⟩
 simp only[List.getElem?_drop] at hj ⊢;exact h.2 _ _ hj
theorem dB.take {μ:Mu}{a b:List Value}(h:dB μ a b)(n:Nat):dB μ (a.take n) (b.take n):=by
 refine⟨by simp[h.1],λj u hj=>?_⟩
 simp only[List.getElem?_take] at hj ⊢;split
 ·rename_i eR;rw[if_pos eR] at hj;exact h.2 _ _ hj
 ·rename_i eR;rw[if_neg eR] at hj;cases hj
theorem dB.set {μ:Mu}{a b:List Value}(h:dB μ a b){u v:Value}(k:VR μ u v)(n:Nat):dB μ (a.set n u) (b.set n v):=by
 refine⟨by simp[h.1],λj x hj=>?_⟩
 rw[List.getElem?_set] at hj ⊢;by_cases e:n=j
 ·subst e;rw[if_pos rfl] at hj ⊢;by_cases hl:n<a.length
  ·rw[if_pos hl] at hj;cases hj;exact⟨v,by rw[if_pos (by rw[←h.1];exact hl)],k⟩
  ·rw[if_neg hl] at hj;cases hj
 ·rw[if_neg e] at hj ⊢;exact h.2 _ _ hj
theorem dB.wC {μ:Mu}{c c':Array Value}(hc:c.size=c'.size)(h: ∀j (h:j<c.size) (h':j<c'.size),VR μ c[j] c'[j]):dB μ c.toList c'.toList:=by
 refine⟨by simpa using hc,λj u hj=>?_⟩
 obtain⟨kc,rfl⟩:=List.getElem?_eq_some_iff.1 hj;have h1:j<c.size:=by simpa using kc
 have h2:j<c'.size:=by omega
 exact⟨c'[j],by simp[h2],by simpa using h j h1 h2⟩
theorem dB.arr {μ:Mu}{c c':Array Value}(h:dB μ c.toList c'.toList):c.size=c'.size∧∀j (h:j<c.size) (h':j<c'.size),VR μ c[j] c'[j]:=by
 refine⟨by simpa using h.1,λj h1 h2=>?_⟩
 obtain⟨u',e,r⟩:=h.2 j c[j] (by simp[h1])
 simp[h2] at e;subst e;exact r
theorem dB.agg {μ:Mu}{c c':Array Value}(h:dB μ c.toList c'.toList):VR μ (.agg c) (.agg c'):=.agg c c' h.arr.1 h.arr.2
theorem dB.tuple {μ:Mu}{c c':Array Value}(h:dB μ c.toList c'.toList):VR μ (.tuple c) (.tuple c'):=.tuple c c' h.arr.1 h.arr.2
theorem dB.MA {μ:Mu}{c c':List Value}(h:dB μ c c'):VR μ (.agg c.toArray) (.agg c'.toArray):=dB.agg (by simpa using h)
theorem VR.bool {μ:Mu}{b:Bool}{v:Value}(h:VR μ (.bool b) v):v= .bool b:=by cases h;rfl
theorem VR.int {μ:Mu}{k:IntKind}{n:Int}{v:Value}(h:VR μ (.int k n) v):v= .int k n:=by cases h;rfl
theorem VR.string {μ:Mu}{s:ByteArray}{v:Value}(h:VR μ (.string s) v):v= .string s:=by cases h;rfl
theorem VR.Zw {μ:Mu}{v:Value}(h:VR μ (.pointer none) v):v= .pointer none:=by cases h;rfl
theorem VR.nilFunc {μ:Mu}{v:Value}(h:VR μ .nilFunc v):v= .nilFunc:=by cases h;rfl
theorem VR.nu {μ:Mu}{a:Addr}{v:Value}(h:VR μ (.pointer (some a)) v): ∃i off l,a=⟨i,off,none⟩∧μ i=some l∧v= .pointer (some ⟨l.b,l.o+off,none⟩):=by
 cases h with
 |plain _ h=>simp[bY] at h
 |ptr i off l h=>exact⟨i,off,l,rfl,h,rfl⟩
theorem VR.pd {μ:Mu}{a:Option Addr}{v:Value}(h:VR μ (.pointer a) v): ∃a',v= .pointer a'∧a'.isNone=a.isNone:=by
 cases h with
 |plain _ h=>exact⟨_,rfl,rfl⟩
 |ptr i off l h=>exact⟨_,rfl,rfl⟩
theorem VR.iC {μ:Mu}{n c:Nat}{v:Value}(h:VR μ (.slice none n c) v):n=0∧c=0∧v= .slice none 0 0:=by
 cases h with
 |plain _ h=>
  cases n<;>cases c<;>simp[bY] at h;exact⟨rfl,rfl,rfl⟩
theorem VR.dx {μ:Mu}{a:Addr}{n c:Nat}{v:Value}(h:VR μ (.slice (some a) n c) v):
  (∃i off dG l,a=⟨i,off,none⟩∧μ i=some l∧n≤c∧c≤dG∧l.o+off+dG*l.es≤l.sz∧v= .slice (some ⟨l.b,l.o+off,none⟩) n dG)∨
  (∃i off a',a=⟨i,off,none⟩∧n=0∧c=0∧v= .slice (some a') 0 0):=by
 cases h with
 |plain _ h=>simp[bY] at h
 |slice i off len cap dG l h h1 h2 h3=>exact .inl ⟨i,off,dG,l,rfl,h,h1,h2,h3,rfl⟩
 |mj i off a'=>exact .inr ⟨i,off,a',rfl,rfl,rfl,rfl⟩
theorem VR.fG {μ:Mu}{a:Option Addr}{n c:Nat}{v:Value}(h:VR μ (.slice a n c) v):n≤c∧∃a' c',v= .slice a' n c'∧a'.isNone=a.isNone∧c≤c':=by
 cases a with
 |none=>obtain⟨rfl,rfl,rfl⟩:=h.iC;exact⟨Nat.le_refl _,none,0,rfl,rfl,Nat.le_refl _⟩
 |some a=>
  rcases h.dx with⟨i,off,dG,l,_,_,h1,h2,_,rfl⟩|⟨i,off,a',_,rfl,rfl,rfl⟩
  ·exact⟨h1,_,_,rfl,rfl,h2⟩
  ·exact⟨Nat.le_refl _,_,_,rfl,rfl,Nat.le_refl _⟩
theorem VR.pY {μ:Mu}{c:Array Value}{v:Value}(h:VR μ (.agg c) v): ∃c',v= .agg c'∧dB μ c.toList c'.toList:=by
 cases h with
 |plain _ h=>simp[bY] at h
 |agg _ c' hc h=>exact⟨c',rfl,dB.wC hc h⟩
theorem VR.AW {μ:Mu}{c:Array Value}{v:Value}(h:VR μ (.tuple c) v): ∃c',v= .tuple c'∧dB μ c.toList c'.toList:=by
 cases h with
 |plain _ h=>simp[bY] at h
 |tuple _ c' hc h=>exact⟨c',rfl,dB.wC hc h⟩
theorem VR.wD {μ:Mu}{fn:Fn}{f c:Array Value}{v:Value}(h:VR μ (.func fn f c) v)(hy:isY fn=false): ∃f' c',v= .func fn f' c'∧dB μ f.toList f'.toList∧dB μ c.toList c'.toList:=by
 cases h with
 |plain _ h=>simp[bY] at h
 |Tl=>cases hy
 |func _ _ f' _ c' _ hf hc h1 h2=>exact⟨f',c',rfl,dB.wC hf h1,dB.wC hc h2⟩
theorem VR.rU {μ:Mu}{fn:Fn}{f c:Array Value}{v:Value}(h:VR μ (.func fn f c) v): ∃Zx f' c',v= .func Zx f' c':=by
 cases h with
 |plain _ h=>simp[bY] at h
 |Tl=>exact⟨_,_,_,rfl⟩
 |func _ _ f' _ c' _ hf hc h1 h2=>exact⟨_,f',c',rfl⟩
theorem VR.Qm {μ:Mu}{i:Nat}{f c:Array Value}{v:Value}(h:VR μ (.func (.yield i) f c) v):f= #[]∧c= #[]∧∃l,μ i=some l∧v= .func (.yield l.b) #[] #[]:=by
 cases h with
 |plain _ h=>simp[bY] at h
 |Tl _ l h=>exact⟨rfl,rfl,l,h,rfl⟩
 |func _ _ f' _ c' hy hf hc h1 h2=>cases hy
theorem VR.closed {μ:Mu}{v:Value}(h:gn v=true):VR μ v v:=by
 cases v with
 |agg cs=>
  simp only[gn,List.all_eq_true] at h;refine .agg cs cs rfl λj h1 h2=>.plain _ (h _ ?_)
  simp
 |_=>exact .plain _ h
theorem dB.cells {μ:Mu}{v v':Value}(h:VR μ v v')(hk:known v=true):dB μ v.cells.toList v'.cells.toList:=by
 cases h with
 |kI=>simp[known] at hk
 |plain v h=>
  have:VR μ v v:=.plain v h;cases v<;>first|exact dB.cons this .nil| (simp[bY] at h)
 |ptr i off l h=>exact dB.cons (.ptr i off l h) .nil
 |slice i off len cap dG l h h1 h2 h3=>exact dB.cons (.slice i off len cap dG l h h1 h2 h3) .nil
 |mj i off a=>exact dB.cons (.mj i off a) .nil
 |BM i l h=>exact dB.cons (.BM i l h) .nil
 |Tl i l h=>exact dB.cons (.Tl i l h) .nil
 |func fn f f' c c' hy hf hc h1 h2=>exact dB.cons (.func fn f f' c c' hy hf hc h1 h2) .nil
 |agg c c' hc h=>exact dB.wC hc h
 |tuple c c' hc h=>exact dB.cons (.tuple c c' hc h) .nil
theorem VR.av {μ:Mu}{v v':Value}(h:VR μ v v')(hk:av v=true):v'.oneCell'=true:=by
 cases h with
 |plain v h=>cases v<;>first|rfl| (simp[bY] at h)
 |_=>first|rfl| (simp[Am.av] at hk)
theorem dB.DU {μ:Mu}{l l':List Value}(h:dB μ l l')(hk:l.all av=true): ∀v∈l',v.oneCell'=true:=by
 intro v hv;obtain⟨j,hj,rfl⟩:=List.getElem_of_mem hv;have DV:j<l.length:=by rw[h.1];exact hj
 obtain⟨u',e,r⟩:=h.2 j l[j] (List.getElem?_eq_getElem DV);rw[List.getElem?_eq_getElem hj] at e;cases e;exact r.av (List.all_eq_true.1 hk _ (List.getElem_mem DV))
structure mL (μ:Mu) (w:World) (b:eu) (l:Loc):Prop where
 es:l.es=b.es
 one:b.cells.all av=true
 spare:b.ro=false→∀(cs:Array Value) ty fz,w.heap[l.b]? =some (.cells cs ty fz)→∀(k:Nat) (v:Value),l.o+b.cells.length≤k→cs[k]? =some v→bY v=true
 row: ∃cs ty fz,w.heap[l.b]? =some (.cells cs ty fz)∧cs.size=l.sz∧(b.ro=false→fz=(0,0))∧l.o+b.cells.length≤cs.size∧
  dB μ b.cells ((cs.toList.drop l.o).take b.cells.length)
def fi (μ:Mu)(E:Nat→Value)(tmps:Array Value):Prop:=∀t,VR μ (E t) (tmps.getD t undef)
theorem fi.mono {μ μ':Mu}{E:Nat→Value}{tmps:Array Value}(h:fi μ E tmps)(hm:μ.le μ'):fi μ' E tmps:=λt=>(h t).mono hm
def abZ (s:oX)(r:Loop):Prop:=match s with
 | .ready=>r.state= .ready∧r.pending=none
 | .busy=>r.state= .busy
 | .ret=>r.state= .done∧r.pending=some .ret
 | .exit id=>r.state= .done∧r.pending=some (.exit id)
def mM (P:Program)(μ:Mu)(w:World):dg→Nat→Prop
 | .loop L s,b=>∃r N,w.heap[b]? =some (.loop r)∧r.params=L.ps∧r.assign=L.assign∧r.body=L.body∧N≤r.tmps.size∧eX P N (.rangeFunc (.global 0) L.ps L.assign L.body)=true∧fi μ (Env.get (L.keep.zip L.vs)) r.tmps∧abZ s r
 | .jC k es,b=>∃ms clock,w.heap[b]? =some (.map ms clock)∧(ms.toList.map (·.key))=es.map (λe=>Value.int k e.1)∧dB μ (es.map (·.2)) (ms.toList.map (·.val))
theorem mM.at {P:Program}{μ:Mu}{w:World}{o:dg}{b:Nat}(h:mM P μ w o b): ∃x,w.heap[b]? =some x∧x.isCells=false:=by
 cases o with
 |loop L s=>obtain⟨r,N,h1,_⟩:=h;exact⟨_,h1,rfl⟩
 |jC k es=>obtain⟨ms,c,h1,_⟩:=h;exact⟨_,h1,rfl⟩
theorem mM.mono {P:Program}{μ μ':Mu}(hm:μ.le μ'){w:World}{o:dg}{b:Nat}(h:mM P μ w o b):mM P μ' w o b:=by
 cases o with
 |loop L s=>obtain⟨r,N,h1,h2,h3,h4,h5,h6,h7,h8⟩:=h;exact⟨r,N,h1,h2,h3,h4,h5,h6,h7.mono hm,h8⟩
 |jC k es=>obtain⟨ms,c,h1,h2,h3⟩:=h;exact⟨ms,c,h1,h2,h3.mono hm⟩
theorem mM.heap {P:Program}{μ:Mu}{w w':World}{o:dg}{b:Nat}(h:mM P μ w o b)(e:w'.heap[b]? =w.heap[b]?):mM P μ w' o b:=by
 cases o with
 |loop L s=>obtain⟨r,N,h1,h2⟩:=h;exact⟨r,N,by rw[e];exact h1,h2⟩
 |jC k es=>obtain⟨ms,c,h1,h2⟩:=h;exact⟨ms,c,by rw[e];exact h1,h2⟩
theorem mM.lt {P:Program}{μ:Mu}{w:World}{o:dg}{b:Nat}(h:mM P μ w o b):b<w.heap.size:=by
 obtain⟨x,h1,_⟩:=h.at;exact(Array.getElem?_eq_some_iff.1 h1).1
structure Oth (P:Program) (μ:Mu) (H:aa) (w:World) (B:Nat):Prop where
 ok: ∀i o,H.cT i=some o→∃l,μ i=some l∧B≤l.b∧mM P μ w o l.b
 inj: ∀i j o p l m,H.cT i=some o→H.cT j=some p→μ i=some l→μ j=some m→i≠j→l.b≠m.b
theorem Oth.keep {P:Program}{μ μ':Mu}{H H':aa}{w w':World}{B:Nat}(h:Oth P μ H w B)(hm:μ.le μ')(hH: ∀i o,H'.cT i=some o→H.cT i=some o)(hw: ∀(b:Nat) (x:Obj),w.heap[b]? =some x→x.isCells=false→w'.heap[b]? =some x):Oth P μ' H' w' B:=by
 refine⟨λi o hi=>?_,λi j o p l m hi hj hl Ml DN=>?_⟩
 ·obtain⟨l,h1,h2,h3⟩:=h.ok i o (hH i o hi);obtain⟨x,h4,h5⟩:=h3.at;exact⟨l,hm _ _ h1,h2,(h3.mono hm).heap (by rw[h4];exact hw _ _ h4 h5)⟩
 ·obtain⟨l1,k1,_⟩:=h.ok i o (hH i o hi);obtain⟨m1,k2,_⟩:=h.ok j p (hH j p hj);have e1:=hm _ _ k1;rw[hl] at e1;cases e1;have e2:=hm _ _ k2;rw[Ml] at e2;cases e2;exact h.inj i j o p l m (hH i o hi) (hH j p hj) k1 k2 DN
structure cQ (P:Program) (μ:Mu) (H:aa) (w:World) (B:Nat):Prop where
 base:B≤w.heap.size
 ok: ∀i b,H.get i=some b→∃l,μ i=some l∧mL μ w b l
 z3: ∀i,H.length≤i→μ i=none
 inj: ∀i j b c l m,H.get i=some b→H.get j=some c→μ i=some l→μ j=some m→i≠j→b.ro=false→l.b≠m.b
 own: ∀i b l,H.get i=some b→b.ro=false→μ i=some l→B≤l.b
 cT:Oth P μ H w B
 vH: ∀i,H[i]? =some .hole→μ i=none
theorem mL.mono {μ μ':Mu}(hm:μ.le μ'){w:World}{b:eu}{l:Loc}(h:mL μ w b l):mL μ' w b l:=
 ⟨h.es,h.one,h.spare,let ⟨cs,ty,fz,h1,h2,h3,h4,h5⟩:=h.row;⟨cs,ty,fz,h1,h2,h3,h4,h5.mono hm⟩⟩
theorem mL.heap {μ:Mu}{w w':World}{b:eu}{l:Loc}(h:mL μ w b l)(e:w'.heap[l.b]? =w.heap[l.b]?):mL μ w' b l:=
 ⟨h.es,h.one,by rw[e];exact h.spare,let ⟨cs,ty,fz,h1,h2⟩:=h.row;⟨cs,ty,fz,by rw[e];exact h1,h2⟩⟩
theorem mL.lt {μ:Mu}{w:World}{b:eu}{l:Loc}(h:mL μ w b l):l.b<w.heap.size:=by
 obtain⟨cs,ty,fz,h1,_⟩:=h.row;exact(Array.getElem?_eq_some_iff.1 h1).1
theorem aa.rV {H:aa}{i:Nat}{b:eu}:H.get i=some b↔H[i]? =some (.jD b):=by
 unfold aa.get;split
 ·rename_i c h;rw[h];simp
 ·rename_i h;constructor
  ·intro e;cases e
  ·intro e;exact absurd e (h b)
theorem aa.rW {H:aa}{i:Nat}{o:dg}:H.cT i=some o↔H[i]? =some (.cT o):=by
 unfold aa.cT;split
 ·rename_i c h;rw[h];simp
 ·rename_i h;constructor
  ·intro e;cases e
  ·intro e;exact absurd e (h o)
theorem aa.get_congr {H H':aa}{i j:Nat}(h:H[i]? =H'[j]?):H.get i=H'.get j:=by unfold aa.get;rw[h]
theorem aa.jU {H H':aa}{i j:Nat}(h:H[i]? =H'[j]?):H.cT i=H'.cT j:=by unfold aa.cT;rw[h]
theorem aa.an {H:aa}{i:Nat}{b:eu}(h:H.get i=some b):i<H.length:=by
 exact(List.getElem?_eq_some_iff.1 (aa.rV.1 h)).1
theorem aa.eF {H:aa}{i:Nat}{o:dg}(h:H.cT i=some o):i<H.length:=by
 exact(List.getElem?_eq_some_iff.1 (aa.rW.1 h)).1
theorem aa.rf {H:aa}{i:Nat}{b:eu}(h:H.get i=some b):H.cT i=none:=by
 rw[aa.rV] at h;unfold aa.cT;rw[h]
theorem aa.rh {H:aa}{i:Nat}{o:dg}(h:H.cT i=some o):H.get i=none:=by
 rw[aa.rW] at h;unfold aa.get;rw[h]
theorem aa.ki {H:aa}{b:eu}{i:Nat}(h:i<H.length):(H.new b).get i=H.get i:=aa.get_congr (List.getElem?_append_left h)
theorem aa.iD {H:aa}{b:eu}:(H.new b).get H.length=some b:=by
 rw[aa.rV];unfold aa.new;simp
theorem aa.jV {H:aa}{b:eu}:(H.new b).length=H.length+1:=by simp[aa.new]
theorem aa.pe {H:aa}{o:dg}:(H.gj o).length=H.length+1:=by simp[aa.gj]
theorem aa.ay {H:aa}{b c:eu}{i:Nat}(h:(H.new b).get i=some c):(i=H.length∧c=b)∨(i<H.length∧H.get i=some c):=by
 have hl:=aa.an h;rw[aa.jV] at hl;by_cases e:i=H.length
 ·subst e;rw[aa.iD] at h;exact .inl ⟨rfl,by cases h;rfl⟩
 ·right;rw[aa.ki (by omega)] at h;exact⟨by omega,h⟩
theorem aa.vI {H:aa}{b:eu}{i:Nat}{o:dg}(h:(H.new b).cT i=some o):H.cT i=some o:=by
 have hl:=aa.eF h;rw[aa.jV] at hl;by_cases e:i=H.length
 ·subst e;rw[aa.rf aa.iD] at h;cases h
 ·rw[←h];exact aa.jU (List.getElem?_append_left (by omega)).symm
theorem aa.qO {H:aa}{o:dg}:(H.gj o).cT H.length=some o:=by
 rw[aa.rW];unfold aa.gj;simp
theorem aa.mN {H:aa}{o p:dg}{i:Nat}(h:(H.gj o).cT i=some p):(i=H.length∧p=o)∨(i<H.length∧H.cT i=some p):=by
 have hl:=aa.eF h;rw[aa.pe] at hl;by_cases e:i=H.length
 ·subst e;rw[aa.qO] at h;exact .inl ⟨rfl,by cases h;rfl⟩
 ·right;refine⟨by omega,?_⟩;rw[←h];exact aa.jU (List.getElem?_append_left (by omega)).symm
theorem aa.rX {H:aa}{o:dg}{b:eu}{i:Nat}(h:(H.gj o).get i=some b):H.get i=some b:=by
 have hl:=aa.an h;rw[aa.pe] at hl;by_cases e:i=H.length
 ·subst e;rw[aa.rh aa.qO] at h;cases h
 ·rw[←h];exact aa.get_congr (List.getElem?_append_left (by omega)).symm
theorem aa.la {H:aa}{b:eu}{i:Nat}:(H.put i b).length=H.length:=by simp[aa.put]
theorem aa.DW {H:aa}{o:dg}{i:Nat}:(H.eQ i o).length=H.length:=by simp[aa.eQ]
theorem aa.gG {H:aa}{i:Nat}:(H.kill i).length=H.length:=by simp[aa.kill]
theorem aa.eC {H:aa}{b:eu}{i:Nat}(h:i<H.length):(H.put i b).get i=some b:=by
 rw[aa.rV];unfold aa.put;simp[h]
theorem aa.aS {H:aa}{b:eu}{i j:Nat}(h:j≠i):(H.put i b).get j=H.get j:=aa.get_congr (List.getElem?_set_ne (Ne.symm h))
theorem aa.Qn {H:aa}{b c:eu}{i j:Nat}{o:dg}(hb:H.get i=some b)(h:(H.put i c).cT j=some o):H.cT j=some o:=by
 by_cases e:j=i
 ·subst e;rw[aa.rf (aa.eC (aa.an hb))] at h;cases h
 ·rw[←h];exact aa.jU (List.getElem?_set_ne (Ne.symm e)).symm
theorem aa.qP {H:aa}{o:dg}{i:Nat}(h:i<H.length):(H.eQ i o).cT i=some o:=by
 rw[aa.rW];unfold aa.eQ;simp[h]
theorem aa.uO {H:aa}{o:dg}{i j:Nat}(h:j≠i):(H.eQ i o).cT j=H.cT j:=aa.jU (List.getElem?_set_ne (Ne.symm h))
theorem aa.mO {H:aa}{o p:dg}{i j:Nat}(ho:H.cT i=some o):(H.eQ i p).get j=H.get j:=by
 by_cases e:j=i
 ·subst e;rw[aa.rh (aa.qP (aa.eF ho)),aa.rh ho]
 ·exact aa.get_congr (List.getElem?_set_ne (Ne.symm e))
theorem aa.mn {H:aa}{i:Nat}:(H.kill i).get i=none:=by
 unfold aa.get aa.kill;by_cases h:i<H.length
 ·simp[h]
 ·rw[List.getElem?_eq_none (by simp;omega)]
theorem aa.qQ {H:aa}{i:Nat}:(H.kill i).cT i=none:=by
 unfold aa.cT aa.kill;by_cases h:i<H.length
 ·simp[h]
 ·rw[List.getElem?_eq_none (by simp;omega)]
theorem aa.iq {H:aa}{i j:Nat}(h:j≠i):(H.kill i).get j=H.get j:=aa.get_congr (List.getElem?_set_ne (Ne.symm h))
theorem aa.DX {H:aa}{i j:Nat}(h:j≠i):(H.kill i).cT j=H.cT j:=aa.jU (List.getElem?_set_ne (Ne.symm h))
theorem aa.pf {H:aa}{i j:Nat}{o:dg}(h:(H.kill i).cT j=some o):H.cT j=some o:=by
 by_cases e:j=i
 ·subst e;rw[aa.qQ] at h;cases h
 ·rw[←h,aa.DX e]
theorem aa.rY {H:aa}{i j:Nat}{b:eu}(h:(H.kill i).get j=some b):H.get j=some b:=by
 by_cases e:j=i
 ·subst e;rw[aa.mn] at h;cases h
 ·rw[←h,aa.iq e]
theorem aa.rZ {H:aa}{b:eu}{i:Nat}(h:(H.new b)[i]? =some .hole):H[i]? =some .hole∧i<H.length:=by
 have hl:=(List.getElem?_eq_some_iff.1 h).1;unfold aa.new at h hl;by_cases e:i<H.length
 ·rw[List.getElem?_append_left e] at h;exact⟨h,e⟩
 ·have:i=H.length:=by simp at hl;omega
  subst this;simp at h
theorem aa.I6 {H:aa}{o:dg}{i:Nat}(h:(H.gj o)[i]? =some .hole):H[i]? =some .hole∧i<H.length:=by
 have hl:=(List.getElem?_eq_some_iff.1 h).1;unfold aa.gj at h hl;by_cases e:i<H.length
 ·rw[List.getElem?_append_left e] at h;exact⟨h,e⟩
 ·have:i=H.length:=by simp at hl;omega
  subst this;simp at h
theorem sd {H:aa}{s:Slot}{i j:Nat}(hs:s≠ .hole)(h:(H.set j s)[i]? =some .hole):H[i]? =some .hole∧i≠j:=by
 by_cases e:j=i
 ·subst e;rw[List.getElem?_set] at h;simp only[if_true] at h;split at h
  ·cases h;exact absurd rfl hs
  ·cases h
 ·rw[List.getElem?_set_ne e] at h;exact⟨h,Ne.symm e⟩
theorem aa.MB {H:aa}{b:eu}{i j:Nat}(h:(H.put j b)[i]? =some .hole):H[i]? =some .hole∧i≠j:=sd (by simp) h
theorem aa.I7 {H:aa}{o:dg}{i j:Nat}(h:(H.eQ j o)[i]? =some .hole):H[i]? =some .hole∧i≠j:=sd (by simp) h
theorem aa.tX {H:aa}{i j:Nat}(h:(H.kill j)[i]? =some .hole):H[i]? =some .hole∧i≠j:=sd (by simp) h
theorem cQ.heap {P:Program}{μ:Mu}{H:aa}{w w':World}{B:Nat}(h:cQ P μ H w B)(e:w'.heap=w.heap):cQ P μ H w' B:=
 ⟨by rw[e];exact h.base,λi b hb=>let ⟨l,h1,h2⟩:=h.ok i b hb;⟨l,h1,h2.heap (by rw[e])⟩,h.z3,h.inj,h.own,h.cT.keep μ.le_refl (λ_ _ h=>h) (λb x hb _=>by rw[e];exact hb),h.vH⟩
theorem cQ.alloc {P:Program}{μ:Mu}{H:aa}{w:World}{B:Nat}(h:cQ P μ H w B)(cs:List Value)(ty t:TypeId)(es:Nat)(c8:Array Value)(n:Nat)(hn:n=c8.size)(MC:cs.all av=true)(hle:cs.length≤c8.size)(hv:dB μ cs (c8.toList.take cs.length))(MD: ∀(k:Nat) (v:Value),cs.length≤k→c8[k]? =some v→bY v=true):
  μ.le (μ.up H.length ⟨w.heap.size,0,n,es⟩)∧cQ P (μ.up H.length ⟨w.heap.size,0,n,es⟩) (H.new ⟨cs,t,es,false⟩) (w.alloc (.cells c8 ty)) B:=by
 subst hn;have jW:=Mu.AV (l:=⟨w.heap.size,0,c8.size,es⟩) (h.z3 H.length (Nat.le_refl _));refine⟨jW,by have:=h.base;simp;omega,?_,?_,?_,?_,h.cT.keep jW (λ_ _=>aa.vI) (λb x hb _=>(Go.RowKit.Below.heap_alloc _ _ _ (Array.getElem?_eq_some_iff.1 hb).1).trans hb),λi hi=>by obtain⟨h1,h2⟩:=aa.rZ hi;rw[Mu.cZ (by omega)];exact h.vH i h1⟩
 ·intro i b hb;rcases aa.ay hb with⟨rfl,rfl⟩|⟨hi,hb⟩
  ·have kj:(w.heap.push (.cells c8 ty (0,0)))[w.heap.size]? =some (.cells c8 ty (0,0)):=by simp
   refine⟨_,Mu.aH,rfl,MC,(λ_ Mm mo Qo h2 k v hk u9=>?_),c8,ty,(0,0),?_,rfl,λ_=>rfl,by simpa using hle,?_⟩
   ·have ME:(w.heap.push (.cells c8 ty (0,0)))[w.heap.size]? =some (.cells Mm mo Qo):=h2;rw[kj] at ME;cases ME;exact MD k v (by simpa using hk) u9
   ·show(w.heap.push _)[w.heap.size]? =_;simp
   ·simpa using hv.mono jW
  ·obtain⟨l,h1,h2⟩:=h.ok i b hb;refine⟨l,jW _ _ h1,(h2.mono jW).heap ?_⟩;exact Go.RowKit.Below.heap_alloc _ _ _ h2.lt
 ·intro i hi;rw[aa.jV] at hi;rw[Mu.cZ (by omega)];exact h.z3 i (by omega)
 ·intro i j b c l m hb hc hl hm DN fm;rcases aa.ay hb with⟨rfl,rfl⟩|⟨hi,hb⟩<;>rcases aa.ay hc with⟨rfl,rfl⟩|⟨hj,hc⟩
  ·exact absurd rfl DN
  ·rw[Mu.aH] at hl;cases hl;rw[Mu.cZ (by omega)] at hm
   obtain⟨m',e,k⟩:=h.ok j c hc;rw[hm] at e;cases e;have:=k.lt;show w.heap.size≠m.b;omega
  ·rw[Mu.aH] at hm;cases hm;rw[Mu.cZ (by omega)] at hl
   obtain⟨l',e,k⟩:=h.ok i b hb;rw[hl] at e;cases e;have:=k.lt;show l.b≠w.heap.size;omega
  ·rw[Mu.cZ (by omega)] at hl hm
   exact h.inj i j b c l m hb hc hl hm DN fm
 ·intro i b l hb fm hl;rcases aa.ay hb with⟨rfl,rfl⟩|⟨hi,hb⟩
  ·rw[Mu.aH] at hl;cases hl;exact h.base
  ·rw[Mu.cZ (by omega)] at hl;exact h.own i b l hb fm hl
end Go.Proofs.YtjgmnoaalbbonaaGreatA.Am
end
section
namespace Go.Proofs.YtjgmnoaalbbonaaGreatA.Am
open Go.RowKit (Below)
structure fI (B:Nat) (w w':World):Prop where
 below:Below B w w'
 loops: ∀(b:Nat) (r:Loop),w.heap[b]? =some (.loop r)→∃r',w'.heap[b]? =some (.loop r')∧r'.defers=r.defers
 Zy: ∀(b:Nat),w.heap[b]? =some (.deferred (some []))→w'.heap[b]? =some (.deferred (some []))
 size:w.heap.size≤w'.heap.size
theorem fI.se {B:Nat}{w w':World}(h:Below B w w')(k:KeepsOthers w w'):fI B w w':=
 ⟨h,λ_ r hb=>⟨r,k.same _ _ hb rfl,rfl⟩,λ_ hb=>k.same _ _ hb rfl,k.size⟩
theorem fI.refl (B:Nat)(w:World):fI B w w:=.se (Below.refl _ _) (KeepsOthers.refl _)
theorem fI.trans {B:Nat}{w w1 w2:World}(h:fI B w w1)(k:fI B w1 w2):fI B w w2:=
 ⟨h.below.trans k.below,λb r hb=>by
  obtain⟨r1,h1,e1⟩:=h.loops b r hb;obtain⟨r2,h2,e2⟩:=k.loops b r1 h1;exact⟨r2,h2,e2.trans e1⟩,λb hb=>k.Zy b (h.Zy b hb),Nat.le_trans h.size k.size⟩
theorem fI.drew {B:Nat}{w w1:World}(h:fI B w w1):fI B w w1.drew:=h.trans (.se ((Below.refl _ _).drew) (KeepsOthers.drew _))
theorem fI.alloc {B:Nat}{w w1:World}(h:fI B w w1)(hB:B≤w1.heap.size)(o:Obj):fI B w (w1.alloc o):=h.trans (.se ((Below.refl _ _).alloc hB o) (KeepsOthers.alloc _ _))
theorem ir (b o j:Nat):(⟨b,o,none⟩:Addr).add j=⟨b,o+j,none⟩:=by unfold Addr.add;split<;>simp_all
theorem cQ.ld {P:Program}{μ:Mu}{H:aa}{w:World}{B i off:Nat}{b:eu}{l:Loc}{v:Value}(h:cQ P μ H w B)(hb:H.get i=some b)(hl:μ i=some l)(hv:b.cells[off]? =some v): ∃v',w.cell? ⟨l.b,l.o+off,none⟩=some v'∧VR μ v v':=by
 obtain⟨l',e,k⟩:=h.ok i b hb;rw[hl] at e;cases e;obtain⟨cs,ty,fz,h1,h2,h3,h4,h5⟩:=k.row;obtain⟨v',e,r⟩:=h5.2 off v hv;refine⟨v',?_,r⟩;have eR:off<b.cells.length:=(List.getElem?_eq_some_iff.1 hv).1;rw[List.getElem?_take,if_pos eR,List.getElem?_drop] at e;simp only[World.cell?,h1];simpa using e
theorem cQ.aw {P:Program}{μ:Mu}{H:aa}{w:World}{B i off n:Nat}{l:Loc}{vs:List Value}(h:cQ P μ H w B)(hl:μ i=some l)(hv:Am.aw H i off n=some vs):vs.length=n∧∃iM,dB μ vs iM∧∀(j:Nat) (v:Value),iM[j]? =some v→w.cell? ((⟨l.b,l.o+off,none⟩:Addr).add j)=some v:=by
 unfold Am.aw at hv;cases hb:H.get i with
 |none=>rw[hb] at hv;cases hv
 |some b=>
  rw[hb] at hv;simp only at hv;split at hv
  ·rename_i hle;cases hv;obtain⟨l',e,k⟩:=h.ok i b hb;rw[hl] at e;cases e;obtain⟨cs,ty,fz,h1,h2,h3,h4,h5⟩:=k.row;refine⟨by simp;omega,_,(h5.drop off).take n,λj v hj=>?_⟩
   rw[ir];rw[List.getElem?_take] at hj;split at hj
   ·rename_i hjn;rw[List.getElem?_drop,List.getElem?_take] at hj;split at hj
    ·rw[List.getElem?_drop] at hj;simp only[World.cell?,h1];simpa[Nat.add_assoc] using hj
    ·cases hj
   ·cases hj
  ·cases hv
theorem cQ.AX {P:Program}{μ:Mu}{H:aa}{w:World}{B i off n:Nat}{vs:List Value}(h:cQ P μ H w B)(hv:Am.aw H i off n=some vs):vs.all av=true:=by
 unfold Am.aw at hv;cases hb:H.get i with
 |none=>rw[hb] at hv;cases hv
 |some b=>
  rw[hb] at hv;simp only at hv;split at hv
  ·cases hv;obtain⟨l,_,k⟩:=h.ok i b hb;have:=k.one
   rw[List.all_eq_true] at this ⊢;intro x hx;exact this x (List.mem_of_mem_drop (List.mem_of_mem_take hx))
  ·cases hv
theorem iE: ∀(vs cs:List Value) (off:Nat),off+vs.length≤cs.length→bB cs off vs=cs.take off++vs++cs.drop (off+vs.length)
 | [],cs,off,_=>by simp[bB]
 |v::r,cs,off,h=>by
  simp only[List.length_cons] at h;rw[bB,iE r (cs.set off v) (off+1) (by simp;omega)]
  have e1:(cs.set off v).take (off+1)=cs.take off++[v]:=by
   rw[List.take_set,List.take_succ_eq_append_getElem (by omega)]
   rw[List.set_append_right _ _ (by simp;omega)]
   simp[Nat.min_eq_left (show off≤cs.length by omega)]
  have e2:(cs.set off v).drop (off+1+r.length)=cs.drop (off+(v::r).length):=by
   rw[List.drop_set_of_lt (by omega)]
   congr 1;simp;omega
  rw[e1,e2];simp
theorem wE {f:Value→Bool}: ∀(vs cs:List Value) (off:Nat),cs.all f=true→vs.all f=true→(bB cs off vs).all f=true
 | [],cs,off,h,_=>h
 |v::r,cs,off,h,k=>by
  rw[bB];simp only[List.all_cons,Bool.and_eq_true] at k;refine wE r _ _ ?_ k.2;rw[List.all_eq_true] at h ⊢;intro x hx;rcases List.mem_or_eq_of_mem_set hx with hx|rfl
  ·exact h x hx
  ·exact k.1
theorem fT {vs cs:List Value}{off:Nat}(h:off+vs.length≤cs.length):(bB cs off vs).length=cs.length:=by
 rw[iE _ _ _ h];simp;omega
theorem DY {P:Program}{μ:Mu}{H:aa}{w w':World}{B i:Nat}{b:eu}{l:Loc}(hb:H.get i=some b)(hl:μ i=some l)(h:cQ P μ H w B)(hw: ∀k,k≠l.b→w'.heap[k]? =w.heap[k]?)(k:Nat)(x:Obj)(hk:w.heap[k]? =some x)(hx:x.isCells=false):w'.heap[k]? =some x:=by
 rw[hw k ?_];exact hk;rintro rfl;obtain⟨l',e,ko⟩:=h.ok i b hb;rw[hl] at e;cases e;obtain⟨cs,ty,fz,h1,_⟩:=ko.row;rw[h1] at hk;cases hk;cases hx
theorem cQ.put {P:Program}{μ:Mu}{H:aa}{w w':World}{B i:Nat}{b b':eu}{l:Loc}(h:cQ P μ H w B)(hb:H.get i=some b)(fm:b.ro=false)(hl:μ i=some l)(hw: ∀k,k≠l.b→w'.heap[k]? =w.heap[k]?)(hs:w'.heap.size=w.heap.size)(adJ:b'.ro=false)(fP:mL μ w' b' l):cQ P μ (H.put i b') w' B:=by
 have hi:=aa.an hb;refine⟨by rw[hs];exact h.base,?_,λk hk=>h.z3 k (by rw[aa.la] at hk;exact hk),?_,?_,h.cT.keep μ.le_refl (λ_ _=>aa.Qn hb) (DY hb hl h hw),λk hk=>h.vH k (aa.MB hk).1⟩
 ·intro j c hc;by_cases e:j=i
  ·subst e;rw[aa.eC hi] at hc;cases hc;exact⟨l,hl,fP⟩
  ·rw[aa.aS e] at hc;obtain⟨m,hm,k⟩:=h.ok j c hc;exact⟨m,hm,k.heap (hw _ (Ne.symm (h.inj i j b c l m hb hc hl hm (Ne.symm e) fm)))⟩
 ·intro j k c d m n hc hd hm hn BN DZ;by_cases e:j=i
  ·subst e;rw[aa.eC hi] at hc;cases hc;rw[aa.aS (Ne.symm BN)] at hd;exact h.inj j k b d m n hb hd hm hn BN fm
  ·rw[aa.aS e] at hc;by_cases e2:k=i
   ·subst e2;exact h.inj j k c b m n hc hb hm hn BN DZ
   ·rw[aa.aS e2] at hd;exact h.inj j k c d m n hc hd hm hn BN DZ
 ·intro j c m hc DZ hm;by_cases e:j=i
  ·subst e;exact h.own j b m hb fm hm
  ·rw[aa.aS e] at hc;exact h.own j c m hc DZ hm
theorem cQ.move {P:Program}{μ:Mu}{H:aa}{w w':World}{B i:Nat}{b b':eu}{l l':Loc}(h:cQ P μ H w B)(hb:H.get i=some b)(fm:b.ro=false)(hl:μ i=some l)(FK:l'.b=l.b)(hw: ∀k,k≠l.b→w'.heap[k]? =w.heap[k]?)(hs:w'.heap.size=w.heap.size)(fP:mL μ w' b' l'):
  μ.le (μ.up H.length l')∧cQ P (μ.up H.length l') ((H.kill i).new b') w' B:=by
 have hi:=aa.an hb;have hle:=Mu.AV (l:=l') (h.z3 H.length (Nat.le_refl _));have old: ∀{j:Nat} {c:eu},((H.kill i).new b').get j=some c→(j=H.length∧c=b')∨(j<H.length∧j≠i∧H.get j=some c):=by
  intro j c hc;rcases aa.ay hc with⟨e,e'⟩|⟨hj,hc⟩
  ·rw[aa.gG] at e;exact .inl ⟨e,e'⟩
  ·rw[aa.gG] at hj;by_cases e:j=i
   ·subst e;rw[aa.mn] at hc;cases hc
   ·rw[aa.iq e] at hc;exact .inr ⟨hj,e,hc⟩
 refine⟨hle,by rw[hs];exact h.base,?_,?_,?_,?_,h.cT.keep hle (λ_ _ hk=>aa.pf (aa.vI hk)) (DY hb hl h hw),λk hk=>by obtain⟨h1,h2⟩:=aa.rZ hk;rw[aa.gG] at h2;rw[Mu.cZ (by omega)];exact h.vH k (aa.tX h1).1⟩
 ·intro j c hc;rcases old hc with⟨rfl,rfl⟩|⟨hj,e,hc⟩
  ·exact⟨l',Mu.aH,fP.mono hle⟩
  ·obtain⟨m,hm,k⟩:=h.ok j c hc;exact⟨m,hle _ _ hm,(k.heap (hw _ (Ne.symm (h.inj i j b c l m hb hc hl hm (Ne.symm e) fm)))).mono hle⟩
 ·intro j hj;rw[aa.jV,aa.gG] at hj;rw[Mu.cZ (by omega)];exact h.z3 j (by omega)
 ·intro j k c d m n hc hd hm hn BN DZ;rcases old hc with⟨rfl,rfl⟩|⟨hj,e,P3⟩<;>rcases old hd with⟨rfl,rfl⟩|⟨hk,e2,Y3⟩
  ·exact absurd rfl BN
  ·rw[Mu.aH] at hm;cases hm;rw[Mu.cZ (by omega)] at hn
   rw[FK];exact h.inj i k b d l n hb Y3 hl hn (Ne.symm e2) fm
  ·rw[Mu.aH] at hn;cases hn;rw[Mu.cZ (by omega)] at hm
   rw[FK];exact λx=>h.inj i j b c l m hb P3 hl hm (Ne.symm e) fm x.symm
  ·rw[Mu.cZ (by omega)] at hm hn
   exact h.inj j k c d m n P3 Y3 hm hn BN DZ
 ·intro j c m hc DZ hm;rcases old hc with⟨rfl,rfl⟩|⟨hj,e,hc⟩
  ·rw[Mu.aH] at hm;cases hm;rw[FK];exact h.own i b l hb fm hl
  ·rw[Mu.cZ (by omega)] at hm;exact h.own j c m hc DZ hm
theorem sf {w:World}{g B:Nat}{cs:Array Value}(h:B≤g)(hg: ∀o,w.heap[g]? =some o→o.isCells=true):fI B w (w.setRow g cs):=
 .se ⟨rfl,rfl,rfl,by simp[World.setRow],λk hk=>setRow_other w g k cs (by omega)⟩ ⟨by simp[World.setRow],λk o hk ho=>by
  by_cases e:k=g
  ·subst e;rw[hg o hk] at ho;cases ho
  ·rw[setRow_other w g k cs e];exact hk⟩
theorem setRow_size (w:World)(g:Nat)(cs:Array Value):(w.setRow g cs).heap.size=w.heap.size:=by simp[World.setRow]
theorem cQ.st {P:Program}{μ:Mu}{H H':aa}{w:World}{B i off:Nat}{l:Loc}{vs iM:List Value}(h:cQ P μ H w B)(hl:μ i=some l)(kW:bl H i off vs=some H')(hv:dB μ vs iM):
  ∃w',(storeCells ⟨l.b,l.o+off,none⟩ iM).run P w= .ok () w'∧cQ P μ H' w' B∧fI B w w':=by
 unfold bl at kW;cases hb:H.get i with
 |none=>rw[hb] at kW;cases kW
 |some b=>
  rw[hb] at kW;simp only at kW;split at kW
  ·rename_i hc;cases kW;simp only[Bool.and_eq_true,Bool.not_eq_true',decide_eq_true_eq] at hc;obtain⟨⟨fm,hle⟩,jF⟩:=hc;obtain⟨l',e,k⟩:=h.ok i b hb;rw[hl] at e;cases e;obtain⟨cs,ty,fz,h1,h2,h3,h4,h5⟩:=k.row;obtain rfl:=h3 fm;have hlen:=hv.1;have dU:=run_storeCells_at (P:=P) l.b (l.o+off) ty iM 0 cs w h1 (by omega) (hv.DU jF)
   refine⟨_,dU,?_,sf (h.own i b l hb fm hl) (λo ho=>by rw[h1] at ho;cases ho;rfl)⟩
   refine h.put hb fm hl (λk hk=>setRow_other w l.b k _ hk) (setRow_size _ _ _) fm ?_
   refine⟨k.es,wE _ _ _ k.one jF,?_,_,ty,(0,0),setRow_heap w l.b cs _ ty (0,0) h1,?_,λ_=>rfl,?_,?_⟩
   ·intro _ Mm mo Qo g2 j v hj u9;rw[setRow_heap w l.b cs _ ty (0,0) h1] at g2;cases g2;simp only[fT hle] at hj;refine k.spare fm cs ty (0,0) h1 j v hj ?_;have lK:cs.toList.length=cs.size:=by simp
    rw[←u9];simp only[Nat.add_zero,List.getElem?_toArray,List.getElem?_append,List.length_append,List.length_take,lK,List.getElem?_drop];rw[if_neg (by omega), ←Array.getElem?_toList]
    congr 1;omega
   ·simp;omega
   ·simp only[fT hle];simp;omega
   ·simp only[fT hle];rw[iE _ _ _ hle];have e:(((cs.toList.take (l.o+off+0)++iM++cs.toList.drop (l.o+off+0+iM.length)).toArray.toList.drop l.o).take b.cells.length)=
      ((cs.toList.drop l.o).take b.cells.length).take off++iM++((cs.toList.drop l.o).take b.cells.length).drop (off+vs.length):=by
     apply List.ext_getElem?;intro j;have lK:cs.toList.length=cs.size:=by simp
     simp only[Nat.add_zero,List.getElem?_take,List.getElem?_drop,List.getElem?_append,List.length_append,List.length_take,List.length_drop,lK];by_cases hj:j<b.cells.length
     ·rw[if_pos hj];by_cases h1:j<off
      ·rw[if_pos (by omega),if_pos (by omega),if_pos (by omega),if_pos (by omega),if_pos (by omega),if_pos h1,if_pos hj]
      ·by_cases h2:j<off+iM.length
       ·rw[if_pos (by omega),if_neg (by omega),if_pos (by omega),if_neg (by omega)]
        congr 1;omega
       ·rw[if_neg (by omega),if_neg (by omega),if_pos (by omega)]
        congr 1;omega
     ·rw[if_neg hj,if_neg (by omega),if_neg (by omega)]
    rw[e];exact((h5.take off).append hv).append (h5.drop (off+vs.length))
  ·cases kW
variable {P:Program} {μ:Mu} {H H':aa} {w:World} {B:Nat}
theorem eh {t:TypeId}{n:Nat}(h:il P t=some n)(w:World):(sizeOf t).run P w= .ok n w:=by
 unfold il at h;cases hi:P.info? t with
 |none=>rw[hi] at h;cases h
 |some i=>rw[hi] at h;cases h;simp[sizeOf,typeInfo,hi]
theorem lf {t:TypeId}{i:TypeInfo}(h:P.info? t=some i)(w:World):(typeInfo t).run P w= .ok i w:=by simp[typeInfo,h]
theorem nz {t:TypeId}{n:Nat}(h:mJ P t=some n): ∃i,P.info? t=some i∧i.bytes=n:=by
 unfold mJ at h;cases hi:P.info? t with
 |none=>rw[hi] at h;cases h
 |some i=>rw[hi] at h;cases h;exact⟨i,rfl,rfl⟩
theorem vJ {t:TypeId}{b:Bool}(h:Ql P t=some b)(w:World):(isAgg t).run P w= .ok b w:=by
 unfold Ql at h;cases hi:P.underlying t with
 |none=>rw[hi] at h;cases h
 |some d=>
  rw[hi] at h;unfold isAgg;cases d<;>simp at h<;>subst h<;>simp[run_underlying hi]
theorem dR {t:TypeId}{z:Value}(h:zeroOf P t=some z)(w:World):(zeroValue t).run P w= .ok z w∧gn z=true∧∃n,il P t=some n∧z.cells.size=n:=by
 unfold zeroOf at h;cases hi:P.info? t with
 |none=>rw[hi] at h;cases h
 |some i=>
  rw[hi] at h;simp only[Option.bind_some] at h;cases hz:i.zero with
  |none=>rw[hz] at h;cases h
  |some z'=>
   rw[hz] at h;simp only at h;split at h
   ·rename_i hc;cases h;simp only[Bool.and_eq_true,beq_iff_eq] at hc;refine⟨by simp[zeroValue,typeInfo,hi,hz],hc.1,i.size,by simp[il,hi],hc.2⟩
   ·cases h
theorem uP {t:TypeId}{p p' v:Value}(hS:cQ P μ H w B)(hp:VR μ p p')(h:ju P t p H=some v):
  ∃v',(Instr.loadAt t p').run P w= .ok v' w∧VR μ v v':=by
 unfold ju at h;split at h
 ·rename_i i off;obtain⟨i',MF,l,e,hl,rfl⟩:=hp.nu;cases e;have hsa: ∀w,(Instr.sureAddr (.pointer (some ⟨l.b,l.o+off,none⟩))).run P w= .ok ⟨l.b,l.o+off,none⟩ w:=λ_=>rfl
  split at h
  ·rename_i ha;cases hz:il P t with
   |none=>rw[hz] at h;cases h
   |some n=>
    rw[hz] at h;simp only at h;cases hc:aw H i off n with
    |none=>rw[hc] at h;cases h
    |some vs=>
     rw[hc] at h;cases h;obtain⟨hlen,iM,hv,uQ⟩:=hS.aw hl hc;have wF:iM.length=n:=by rw[←hv.1];exact hlen
     refine⟨.agg iM.toArray,?_,hv.MA⟩;have hr:=run_loadCells_list (P:=P) w ⟨l.b,l.o+off,none⟩ iM uQ;rw[wF] at hr;simp[Instr.loadAt,hsa,loadVar,vJ ha,eh hz,hr]
  ·rename_i ha;cases hb:H.get i with
   |none=>rw[hb] at h;cases h
   |some b=>
    rw[hb] at h;obtain⟨v',hc,hv⟩:=hS.ld hb hl h;exact⟨v',by simp[Instr.loadAt,hsa,loadVar,vJ ha,hc],hv⟩
  ·cases h
 ·cases h
theorem D2 {t:TypeId}{p p' v v':Value}(hS:cQ P μ H w B)(hp:VR μ p p')(hv:VR μ v v')(h:AS P t p v H=some H'):
  ∃w',(Instr.storeAt t p' v').run P w= .ok () w'∧cQ P μ H' w' B∧fI B w w':=by
 unfold AS at h;split at h
 ·rename_i i off;obtain⟨i',MF,l,e,hl,rfl⟩:=hp.nu;cases e;have hsa: ∀w,(Instr.sureAddr (.pointer (some ⟨l.b,l.o+off,none⟩))).run P w= .ok ⟨l.b,l.o+off,none⟩ w:=λ_=>rfl
  cases hz:il P t with
  |none=>rw[hz] at h;cases h
  |some n=>
   rw[hz] at h;simp only at h;split at h
   ·rename_i hc;have lK:=dB.cells hv hc.2;obtain⟨w',hr,pg,hB⟩:=hS.st hl h lK;have hn:v'.cells.size=n:=by have:=lK.1;simp at this;omega
    exact⟨w',by simp[Instr.storeAt,hsa,storeVar,eh hz,hn,hr],pg,hB⟩
   ·cases h
 ·cases h
theorem lT {t:TypeId}{cs c8:Array Value}{off:Nat}{v:Value}(hc:dB μ cs.toList c8.toList)(h:Am.apart P t cs off=some v)(w:World):
  ∃v',(part t c8 off).run P w= .ok v' w∧VR μ v v':=by
 unfold Am.apart at h;split at h
 ·rename_i ha;cases hz:il P t with
  |none=>rw[hz] at h;cases h
  |some n=>
   rw[hz] at h;cases h;refine⟨.agg (c8.extract off (off+n)),by simp[part,vJ ha,eh hz],dB.agg ?_⟩
   have:=(hc.drop off).take n
   simpa[List.take_drop,Nat.add_comm] using this
 ·rename_i ha;obtain⟨v',e,r⟩:=hc.2 off v (by simpa using h)
  exact⟨v',by simp[part,vJ ha,show c8[off]? =some v' by simpa using e],r⟩
 ·cases h
end Go.Proofs.YtjgmnoaalbbonaaGreatA.Am
end
