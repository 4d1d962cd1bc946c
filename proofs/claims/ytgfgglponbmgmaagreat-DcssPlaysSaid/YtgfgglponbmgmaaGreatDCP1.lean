/- Texts of the proof of dcssPlays_holds, put together by a small program of ours (names shortened, spaces taken out). No condition beyond the given statement. -/
import Derived.Test.YtgfgglponbmgmaaGreatDCP0
import Derived.RangeFuncOwn
import Derived.Laws.CopyRow
import Derived.Laws.Cells
import Derived.Laws.World
import Derived.Laws.Entries
import Derived.Laws.Tables
import Derived.ChangeKeysEq
import Derived.RangeFuncCalls
set_option linter.unusedVariables false
set_option linter.unusedSimpArgs false
set_option linter.unnecessarySimpa false
noncomputable section
section
namespace Go.Proofs.YtgfgglponbmgmaaGreatA.Am
structure Loc where
 b:Nat
 o:Nat
 sz:Nat
 es:Nat
abbrev Mu:=Nat→Option Loc
def Mu.le (μ μ':Mu):Prop:=∀i l,μ i=some l→μ' i=some l
theorem Mu.le_refl (μ:Mu):μ.le μ:=λ_ _ h=>h
theorem Mu.le_trans {a b c:Mu}(h:a.le b)(k:b.le c):a.le c:=λi l e=>k i l (h i l e)
def Mu.up (μ:Mu)(i:Nat)(l:Loc):Mu:=λj=>if j=i then some l else μ j
theorem Mu.DC {μ:Mu}{i:Nat}{l:Loc}(h:μ i=none):μ.le (μ.up i l):=by
 intro j m hj;unfold Mu.up;by_cases e:j=i
 ·subst e;rw[h] at hj;cases hj
 ·rw[if_neg e];exact hj
theorem Mu.aO {μ:Mu}{i:Nat}{l:Loc}:μ.up i l i=some l:=by simp[Mu.up]
theorem Mu.dO {μ:Mu}{i j:Nat}{l:Loc}(h:j≠i):μ.up i l j=μ j:=by simp[Mu.up,h]
def isY:Fn→Bool
 | .yield _=>true
 |_=>false
inductive VR (μ:Mu):Value→Value→Prop
 |HF (v:Value):VR μ (.complex .f64 0 0) v
 |plain (v:Value) (h:cu v=true):VR μ v v
 |ptr (i off:Nat) (l:Loc) (h:μ i=some l):VR μ (.pointer (some ⟨i,off,none⟩)) (.pointer (some ⟨l.b,l.o+off,none⟩))
 |slice (i off len cap fj:Nat) (l:Loc) (h:μ i=some l) (h1:len≤cap) (h2:cap≤fj) (h3:l.o+off+fj*l.es≤l.sz):
   VR μ (.slice (some ⟨i,off,none⟩) len cap) (.slice (some ⟨l.b,l.o+off,none⟩) len fj)
 |mi (i off:Nat) (a:Addr):VR μ (.slice (some ⟨i,off,none⟩) 0 0) (.slice (some a) 0 0)
 |BE (i:Nat) (l:Loc) (h:μ i=some l):VR μ (.map (some i)) (.map (some l.b))
 |UL (i:Nat) (l:Loc) (h:μ i=some l):VR μ (.func (.yield i) #[] #[]) (.func (.yield l.b) #[] #[])
 |func (fn:Fn) (f f' c c':Array Value) (hy:isY fn=false) (hf:f.size=f'.size) (hc:c.size=c'.size)
   (h1: ∀j (h:j<f.size) (h':j<f'.size),VR μ f[j] f'[j]) (h2: ∀j (h:j<c.size) (h':j<c'.size),VR μ c[j] c'[j]):
   VR μ (.func fn f c) (.func fn f' c')
 |agg (c c':Array Value) (hc:c.size=c'.size) (h: ∀j (h:j<c.size) (h':j<c'.size),VR μ c[j] c'[j]):VR μ (.agg c) (.agg c')
 |tuple (c c':Array Value) (hc:c.size=c'.size) (h: ∀j (h:j<c.size) (h':j<c'.size),VR μ c[j] c'[j]):VR μ (.tuple c) (.tuple c')
theorem VR.mono {μ μ':Mu}(hm:μ.le μ'){v v':Value}(h:VR μ v v'):VR μ' v v':=by
 induction h with
 |HF v=>exact .HF v
 |plain v h=>exact .plain v h
 |ptr i off l h=>exact .ptr i off l (hm _ _ h)
 |slice i off len cap fj l h h1 h2 h3=>exact .slice i off len cap fj l (hm _ _ h) h1 h2 h3
 |mi i off a=>exact .mi i off a
 |BE i l h=>exact .BE i l (hm _ _ h)
 |UL i l h=>exact .UL i l (hm _ _ h)
 |func fn f f' c c' hy hf hc _ _ i1 i2=>exact .func fn f f' c c' hy hf hc i1 i2
 |agg c c' hc _ ih=>exact .agg c c' hc ih
 |tuple c c' hc _ ih=>exact .tuple c c' hc ih
def cU (μ:Mu)(l l':List Value):Prop:=l.length=l'.length∧∀(j:Nat) (u:Value),l[j]? =some u→∃u':Value,l'[j]? =some u'∧VR μ u u'
theorem cU.mono {μ μ':Mu}(hm:μ.le μ'){l l':List Value}(h:cU μ l l'):cU μ' l l':=
 ⟨h.1,λj u hj=>let ⟨u',a,b⟩:=h.2 j u hj;⟨u',a,b.mono hm⟩⟩
theorem cU.nil {μ:Mu}:cU μ [] []:=⟨rfl,λj u h=>by simp at h⟩
theorem cU.cons {μ:Mu}{a b:Value}{x y:List Value}(h:VR μ a b)(k:cU μ x y):cU μ (a::x) (b::y):=by
 refine⟨by simp[k.1],λj u hj=>?_⟩
 cases j with
 |zero=>simp at hj;subst hj;exact⟨b,rfl,h⟩
 |succ j=>simp at hj ⊢;exact k.2 j u hj
theorem cU.fG {μ:Mu}{a:Value}{x l:List Value}(h:cU μ (a::x) l): ∃b y,l=b::y∧VR μ a b∧cU μ x y:=by
 cases l with
 |nil=>have:=h.1;simp at this
 |cons b y=>
  obtain⟨u',h1,h2⟩:=h.2 0 a rfl;simp at h1;subst h1;exact⟨b,y,rfl,h2,by have:=h.1;simpa using this,λj u hj=>by have:=h.2 (j+1) u (by simpa using hj);simpa using this⟩
theorem cU.ia {μ:Mu}{l:List Value}(h:cU μ [] l):l=[]:=by
 exact List.eq_nil_of_length_eq_zero h.1.symm
theorem cU.append {μ:Mu}{a b x y:List Value}(h:cU μ a b)(k:cU μ x y):cU μ (a++x) (b++y):=by
 induction a generalizing b with
 |nil=>rw[cU.ia h];exact k
 |cons v a ih=>obtain⟨c,z,rfl,h1,h2⟩:=h.fG;exact .cons h1 (ih h2)
theorem cU.drop {μ:Mu}{a b:List Value}(h:cU μ a b)(n:Nat):cU μ (a.drop n) (b.drop n):=by
 refine⟨by simp[h.1],λj u hj=>?_⟩
 simp only[List.getElem?_drop] at hj ⊢;exact h.2 _ _ hj
theorem cU.take {μ:Mu}{a b:List Value}(h:cU μ a b)(n:Nat):cU μ (a.take n) (b.take n):=by
 refine⟨by simp[h.1],λj u hj=>?_⟩
 simp only[List.getElem?_take] at hj ⊢;split
 ·rename_i gF;rw[if_pos gF] at hj;exact h.2 _ _ hj
 ·rename_i gF;rw[if_neg gF] at hj;cases hj
theorem cU.set {μ:Mu}{a b:List Value}(h:cU μ a b){u v:Value}(k:VR μ u v)(n:Nat):cU μ (a.set n u) (b.set n v):=by
 refine⟨by simp[h.1],λj x hj=>?_⟩
 rw[List.getElem?_set] at hj ⊢;by_cases e:n=j
 ·subst e;rw[if_pos rfl] at hj ⊢;by_cases hl:n<a.length
  ·rw[if_pos hl] at hj;cases hj;exact⟨v,by rw[if_pos (by rw[←h.1];exact hl)],k⟩
  ·rw[if_neg hl] at hj;cases hj
 ·rw[if_neg e] at hj ⊢;exact h.2 _ _ hj
theorem cU.wq {μ:Mu}{c c':Array Value}(hc:c.size=c'.size)(h: ∀j (h:j<c.size) (h':j<c'.size),VR μ c[j] c'[j]):cU μ c.toList c'.toList:=by
 refine⟨by simpa using hc,λj u hj=>?_⟩
 obtain⟨fH,rfl⟩:=List.getElem?_eq_some_iff.1 hj;have h1:j<c.size:=by simpa using fH
 have h2:j<c'.size:=by omega
 exact⟨c'[j],by simp[h2],by simpa using h j h1 h2⟩
theorem cU.arr {μ:Mu}{c c':Array Value}(h:cU μ c.toList c'.toList):c.size=c'.size∧∀j (h:j<c.size) (h':j<c'.size),VR μ c[j] c'[j]:=by
 refine⟨by simpa using h.1,λj h1 h2=>?_⟩
 obtain⟨u',e,r⟩:=h.2 j c[j] (by simp[h1])
 simp[h2] at e;subst e;exact r
theorem cU.agg {μ:Mu}{c c':Array Value}(h:cU μ c.toList c'.toList):VR μ (.agg c) (.agg c'):=.agg c c' h.arr.1 h.arr.2
theorem cU.tuple {μ:Mu}{c c':Array Value}(h:cU μ c.toList c'.toList):VR μ (.tuple c) (.tuple c'):=.tuple c c' h.arr.1 h.arr.2
theorem cU.Nz {μ:Mu}{c c':List Value}(h:cU μ c c'):VR μ (.agg c.toArray) (.agg c'.toArray):=cU.agg (by simpa using h)
theorem VR.bool {μ:Mu}{b:Bool}{v:Value}(h:VR μ (.bool b) v):v= .bool b:=by cases h;rfl
theorem VR.int {μ:Mu}{k:IntKind}{n:Int}{v:Value}(h:VR μ (.int k n) v):v= .int k n:=by cases h;rfl
theorem VR.string {μ:Mu}{s:ByteArray}{v:Value}(h:VR μ (.string s) v):v= .string s:=by cases h;rfl
theorem VR.aaf {μ:Mu}{v:Value}(h:VR μ (.pointer none) v):v= .pointer none:=by cases h;rfl
theorem VR.nilFunc {μ:Mu}{v:Value}(h:VR μ .nilFunc v):v= .nilFunc:=by cases h;rfl
theorem VR.mX {μ:Mu}{a:Addr}{v:Value}(h:VR μ (.pointer (some a)) v): ∃i off l,a=⟨i,off,none⟩∧μ i=some l∧v= .pointer (some ⟨l.b,l.o+off,none⟩):=by
 cases h with
 |plain _ h=>simp[cu] at h
 |ptr i off l h=>exact⟨i,off,l,rfl,h,rfl⟩
theorem VR.oq {μ:Mu}{a:Option Addr}{v:Value}(h:VR μ (.pointer a) v): ∃a',v= .pointer a'∧a'.isNone=a.isNone:=by
 cases h with
 |plain _ h=>exact⟨_,rfl,rfl⟩
 |ptr i off l h=>exact⟨_,rfl,rfl⟩
theorem VR.ic {μ:Mu}{n c:Nat}{v:Value}(h:VR μ (.slice none n c) v):n=0∧c=0∧v= .slice none 0 0:=by
 cases h with
 |plain _ h=>
  cases n<;>cases c<;>simp[cu] at h;exact⟨rfl,rfl,rfl⟩
theorem VR.eM {μ:Mu}{a:Addr}{n c:Nat}{v:Value}(h:VR μ (.slice (some a) n c) v):
  (∃i off fj l,a=⟨i,off,none⟩∧μ i=some l∧n≤c∧c≤fj∧l.o+off+fj*l.es≤l.sz∧v= .slice (some ⟨l.b,l.o+off,none⟩) n fj)∨
  (∃i off a',a=⟨i,off,none⟩∧n=0∧c=0∧v= .slice (some a') 0 0):=by
 cases h with
 |plain _ h=>simp[cu] at h
 |slice i off len cap fj l h h1 h2 h3=>exact .inl ⟨i,off,fj,l,rfl,h,h1,h2,h3,rfl⟩
 |mi i off a'=>exact .inr ⟨i,off,a',rfl,rfl,rfl,rfl⟩
theorem VR.fh {μ:Mu}{a:Option Addr}{n c:Nat}{v:Value}(h:VR μ (.slice a n c) v):n≤c∧∃a' c',v= .slice a' n c'∧a'.isNone=a.isNone∧c≤c':=by
 cases a with
 |none=>obtain⟨rfl,rfl,rfl⟩:=h.ic;exact⟨Nat.le_refl _,none,0,rfl,rfl,Nat.le_refl _⟩
 |some a=>
  rcases h.eM with⟨i,off,fj,l,_,_,h1,h2,_,rfl⟩|⟨i,off,a',_,rfl,rfl,rfl⟩
  ·exact⟨h1,_,_,rfl,rfl,h2⟩
  ·exact⟨Nat.le_refl _,_,_,rfl,rfl,Nat.le_refl _⟩
theorem VR.oZ {μ:Mu}{c:Array Value}{v:Value}(h:VR μ (.agg c) v): ∃c',v= .agg c'∧cU μ c.toList c'.toList:=by
 cases h with
 |plain _ h=>simp[cu] at h
 |agg _ c' hc h=>exact⟨c',rfl,cU.wq hc h⟩
theorem VR.AB {μ:Mu}{c:Array Value}{v:Value}(h:VR μ (.tuple c) v): ∃c',v= .tuple c'∧cU μ c.toList c'.toList:=by
 cases h with
 |plain _ h=>simp[cu] at h
 |tuple _ c' hc h=>exact⟨c',rfl,cU.wq hc h⟩
theorem VR.wu {μ:Mu}{fn:Fn}{f c:Array Value}{v:Value}(h:VR μ (.func fn f c) v)(hy:isY fn=false): ∃f' c',v= .func fn f' c'∧cU μ f.toList f'.toList∧cU μ c.toList c'.toList:=by
 cases h with
 |plain _ h=>simp[cu] at h
 |UL=>cases hy
 |func _ _ f' _ c' _ hf hc h1 h2=>exact⟨f',c',rfl,cU.wq hf h1,cU.wq hc h2⟩
theorem VR.qV {μ:Mu}{fn:Fn}{f c:Array Value}{v:Value}(h:VR μ (.func fn f c) v): ∃fn' f' c',v= .func fn' f' c':=by
 cases h with
 |plain _ h=>simp[cu] at h
 |UL=>exact⟨_,_,_,rfl⟩
 |func _ _ f' _ c' _ hf hc h1 h2=>exact⟨_,f',c',rfl⟩
theorem VR.Ro {μ:Mu}{i:Nat}{f c:Array Value}{v:Value}(h:VR μ (.func (.yield i) f c) v):f= #[]∧c= #[]∧∃l,μ i=some l∧v= .func (.yield l.b) #[] #[]:=by
 cases h with
 |plain _ h=>simp[cu] at h
 |UL _ l h=>exact⟨rfl,rfl,l,h,rfl⟩
 |func _ _ f' _ c' hy hf hc h1 h2=>cases hy
theorem VR.closed {μ:Mu}{v:Value}(h:fO v=true):VR μ v v:=by
 cases v with
 |agg cs=>
  simp only[fO,List.all_eq_true] at h;refine .agg cs cs rfl λj h1 h2=>.plain _ (h _ ?_)
  simp
 |_=>exact .plain _ h
theorem cU.cells {μ:Mu}{v v':Value}(h:VR μ v v')(hk:known v=true):cU μ v.cells.toList v'.cells.toList:=by
 cases h with
 |HF=>simp[known] at hk
 |plain v h=>
  have:VR μ v v:=.plain v h;cases v<;>first|exact cU.cons this .nil| (simp[cu] at h)
 |ptr i off l h=>exact cU.cons (.ptr i off l h) .nil
 |slice i off len cap fj l h h1 h2 h3=>exact cU.cons (.slice i off len cap fj l h h1 h2 h3) .nil
 |mi i off a=>exact cU.cons (.mi i off a) .nil
 |BE i l h=>exact cU.cons (.BE i l h) .nil
 |UL i l h=>exact cU.cons (.UL i l h) .nil
 |func fn f f' c c' hy hf hc h1 h2=>exact cU.cons (.func fn f f' c c' hy hf hc h1 h2) .nil
 |agg c c' hc h=>exact cU.wq hc h
 |tuple c c' hc h=>exact cU.cons (.tuple c c' hc h) .nil
theorem VR.aC {μ:Mu}{v v':Value}(h:VR μ v v')(hk:aC v=true):v'.oneCell'=true:=by
 cases h with
 |plain v h=>cases v<;>first|rfl| (simp[cu] at h)
 |_=>first|rfl| (simp[Am.aC] at hk)
theorem cU.DD {μ:Mu}{l l':List Value}(h:cU μ l l')(hk:l.all aC=true): ∀v∈l',v.oneCell'=true:=by
 intro v hv;obtain⟨j,hj,rfl⟩:=List.getElem_of_mem hv;have zM:j<l.length:=by rw[h.1];exact hj
 obtain⟨u',e,r⟩:=h.2 j l[j] (List.getElem?_eq_getElem zM);rw[List.getElem?_eq_getElem hj] at e;cases e;exact r.aC (List.all_eq_true.1 hk _ (List.getElem_mem zM))
structure mF (μ:Mu) (w:World) (b:eS) (l:Loc):Prop where
 es:l.es=b.es
 one:b.cells.all aC=true
 spare:b.ro=false→∀(cs:Array Value) ty fz,w.heap[l.b]? =some (.cells cs ty fz)→∀(k:Nat) (v:Value),l.o+b.cells.length≤k→cs[k]? =some v→cu v=true
 row: ∃cs ty fz,w.heap[l.b]? =some (.cells cs ty fz)∧cs.size=l.sz∧(b.ro=false→fz=(0,0))∧l.o+b.cells.length≤cs.size∧
  cU μ b.cells ((cs.toList.drop l.o).take b.cells.length)
def gW (μ:Mu)(E:Nat→Value)(tmps:Array Value):Prop:=∀t,VR μ (E t) (tmps.getD t undef)
theorem gW.mono {μ μ':Mu}{E:Nat→Value}{tmps:Array Value}(h:gW μ E tmps)(hm:μ.le μ'):gW μ' E tmps:=λt=>(h t).mono hm
def acw (s:sU)(r:Loop):Prop:=match s with
 | .ready=>r.state= .ready∧r.pending=none
 | .busy=>r.state= .busy
 | .ret=>r.state= .done∧r.pending=some .ret
 | .exit id=>r.state= .done∧r.pending=some (.exit id)
def mG (P:Program)(μ:Mu)(w:World):dD→Nat→Prop
 | .loop L s,b=>∃r N,w.heap[b]? =some (.loop r)∧r.params=L.ps∧r.assign=L.assign∧r.body=L.body∧N≤r.tmps.size∧iO P N (.rangeFunc (.global 0) L.ps L.assign L.body)=true∧gW μ (Env.get (L.keep.zip L.vs)) r.tmps∧acw s r
 | .Fv k es,b=>∃ms clock,w.heap[b]? =some (.map ms clock)∧(ms.toList.map (·.key))=es.map (λe=>Value.int k e.1)∧cU μ (es.map (·.2)) (ms.toList.map (·.val))
theorem mG.at {P:Program}{μ:Mu}{w:World}{o:dD}{b:Nat}(h:mG P μ w o b): ∃x,w.heap[b]? =some x∧x.isCells=false:=by
 cases o with
 |loop L s=>obtain⟨r,N,h1,_⟩:=h;exact⟨_,h1,rfl⟩
 |Fv k es=>obtain⟨ms,c,h1,_⟩:=h;exact⟨_,h1,rfl⟩
theorem mG.mono {P:Program}{μ μ':Mu}(hm:μ.le μ'){w:World}{o:dD}{b:Nat}(h:mG P μ w o b):mG P μ' w o b:=by
 cases o with
 |loop L s=>obtain⟨r,N,h1,h2,h3,h4,h5,h6,h7,h8⟩:=h;exact⟨r,N,h1,h2,h3,h4,h5,h6,h7.mono hm,h8⟩
 |Fv k es=>obtain⟨ms,c,h1,h2,h3⟩:=h;exact⟨ms,c,h1,h2,h3.mono hm⟩
theorem mG.heap {P:Program}{μ:Mu}{w w':World}{o:dD}{b:Nat}(h:mG P μ w o b)(e:w'.heap[b]? =w.heap[b]?):mG P μ w' o b:=by
 cases o with
 |loop L s=>obtain⟨r,N,h1,h2⟩:=h;exact⟨r,N,by rw[e];exact h1,h2⟩
 |Fv k es=>obtain⟨ms,c,h1,h2⟩:=h;exact⟨ms,c,by rw[e];exact h1,h2⟩
theorem mG.lt {P:Program}{μ:Mu}{w:World}{o:dD}{b:Nat}(h:mG P μ w o b):b<w.heap.size:=by
 obtain⟨x,h1,_⟩:=h.at;exact(Array.getElem?_eq_some_iff.1 h1).1
structure Oth (P:Program) (μ:Mu) (H:aa) (w:World) (B:Nat):Prop where
 ok: ∀i o,H.dZ i=some o→∃l,μ i=some l∧B≤l.b∧mG P μ w o l.b
 inj: ∀i j o p l m,H.dZ i=some o→H.dZ j=some p→μ i=some l→μ j=some m→i≠j→l.b≠m.b
theorem Oth.keep {P:Program}{μ μ':Mu}{H H':aa}{w w':World}{B:Nat}(h:Oth P μ H w B)(hm:μ.le μ')(hH: ∀i o,H'.dZ i=some o→H.dZ i=some o)(hw: ∀(b:Nat) (x:Obj),w.heap[b]? =some x→x.isCells=false→w'.heap[b]? =some x):Oth P μ' H' w' B:=by
 refine⟨λi o hi=>?_,λi j o p l m hi hj hl Ni Nj=>?_⟩
 ·obtain⟨l,h1,h2,h3⟩:=h.ok i o (hH i o hi);obtain⟨x,h4,h5⟩:=h3.at;exact⟨l,hm _ _ h1,h2,(h3.mono hm).heap (by rw[h4];exact hw _ _ h4 h5)⟩
 ·obtain⟨l1,k1,_⟩:=h.ok i o (hH i o hi);obtain⟨m1,k2,_⟩:=h.ok j p (hH j p hj);have e1:=hm _ _ k1;rw[hl] at e1;cases e1;have e2:=hm _ _ k2;rw[Ni] at e2;cases e2;exact h.inj i j o p l m (hH i o hi) (hH j p hj) k1 k2 Nj
structure cO (P:Program) (μ:Mu) (H:aa) (w:World) (B:Nat):Prop where
 base:B≤w.heap.size
 ok: ∀i b,H.get i=some b→∃l,μ i=some l∧mF μ w b l
 BF: ∀i,H.length≤i→μ i=none
 inj: ∀i j b c l m,H.get i=some b→H.get j=some c→μ i=some l→μ j=some m→i≠j→b.ro=false→l.b≠m.b
 own: ∀i b l,H.get i=some b→b.ro=false→μ i=some l→B≤l.b
 dZ:Oth P μ H w B
 wv: ∀i,H[i]? =some .hole→μ i=none
theorem mF.mono {μ μ':Mu}(hm:μ.le μ'){w:World}{b:eS}{l:Loc}(h:mF μ w b l):mF μ' w b l:=
 ⟨h.es,h.one,h.spare,let ⟨cs,ty,fz,h1,h2,h3,h4,h5⟩:=h.row;⟨cs,ty,fz,h1,h2,h3,h4,h5.mono hm⟩⟩
theorem mF.heap {μ:Mu}{w w':World}{b:eS}{l:Loc}(h:mF μ w b l)(e:w'.heap[l.b]? =w.heap[l.b]?):mF μ w' b l:=
 ⟨h.es,h.one,by rw[e];exact h.spare,let ⟨cs,ty,fz,h1,h2⟩:=h.row;⟨cs,ty,fz,by rw[e];exact h1,h2⟩⟩
theorem mF.lt {μ:Mu}{w:World}{b:eS}{l:Loc}(h:mF μ w b l):l.b<w.heap.size:=by
 obtain⟨cs,ty,fz,h1,_⟩:=h.row;exact(Array.getElem?_eq_some_iff.1 h1).1
theorem aa.qW {H:aa}{i:Nat}{b:eS}:H.get i=some b↔H[i]? =some (.zK b):=by
 unfold aa.get;split
 ·rename_i c h;rw[h];simp
 ·rename_i h;constructor
  ·intro e;cases e
  ·intro e;exact absurd e (h b)
theorem aa.qX {H:aa}{i:Nat}{o:dD}:H.dZ i=some o↔H[i]? =some (.dZ o):=by
 unfold aa.dZ;split
 ·rename_i c h;rw[h];simp
 ·rename_i h;constructor
  ·intro e;cases e
  ·intro e;exact absurd e (h o)
theorem aa.get_congr {H H':aa}{i j:Nat}(h:H[i]? =H'[j]?):H.get i=H'.get j:=by unfold aa.get;rw[h]
theorem aa.jL {H H':aa}{i j:Nat}(h:H[i]? =H'[j]?):H.dZ i=H'.dZ j:=by unfold aa.dZ;rw[h]
theorem aa.ar {H:aa}{i:Nat}{b:eS}(h:H.get i=some b):i<H.length:=by
 exact(List.getElem?_eq_some_iff.1 (aa.qW.1 h)).1
theorem aa.wA {H:aa}{i:Nat}{o:dD}(h:H.dZ i=some o):i<H.length:=by
 exact(List.getElem?_eq_some_iff.1 (aa.qX.1 h)).1
theorem aa.qm {H:aa}{i:Nat}{b:eS}(h:H.get i=some b):H.dZ i=none:=by
 rw[aa.qW] at h;unfold aa.dZ;rw[h]
theorem aa.qo {H:aa}{i:Nat}{o:dD}(h:H.dZ i=some o):H.get i=none:=by
 rw[aa.qX] at h;unfold aa.get;rw[h]
theorem aa.um {H:aa}{b:eS}{i:Nat}(h:i<H.length):(H.new b).get i=H.get i:=aa.get_congr (List.getElem?_append_left h)
theorem aa.kF {H:aa}{b:eS}:(H.new b).get H.length=some b:=by
 rw[aa.qW];unfold aa.new;simp
theorem aa.kS {H:aa}{b:eS}:(H.new b).length=H.length+1:=by simp[aa.new]
theorem aa.ot {H:aa}{o:dD}:(H.km o).length=H.length+1:=by simp[aa.km]
theorem aa.aK {H:aa}{b c:eS}{i:Nat}(h:(H.new b).get i=some c):(i=H.length∧c=b)∨(i<H.length∧H.get i=some c):=by
 have hl:=aa.ar h;rw[aa.kS] at hl;by_cases e:i=H.length
 ·subst e;rw[aa.kF] at h;exact .inl ⟨rfl,by cases h;rfl⟩
 ·right;rw[aa.um (by omega)] at h;exact⟨by omega,h⟩
theorem aa.BG {H:aa}{b:eS}{i:Nat}{o:dD}(h:(H.new b).dZ i=some o):H.dZ i=some o:=by
 have hl:=aa.wA h;rw[aa.kS] at hl;by_cases e:i=H.length
 ·subst e;rw[aa.qm aa.kF] at h;cases h
 ·rw[←h];exact aa.jL (List.getElem?_append_left (by omega)).symm
theorem aa.pO {H:aa}{o:dD}:(H.km o).dZ H.length=some o:=by
 rw[aa.qX];unfold aa.km;simp
theorem aa.wB {H:aa}{o p:dD}{i:Nat}(h:(H.km o).dZ i=some p):(i=H.length∧p=o)∨(i<H.length∧H.dZ i=some p):=by
 have hl:=aa.wA h;rw[aa.ot] at hl;by_cases e:i=H.length
 ·subst e;rw[aa.pO] at h;exact .inl ⟨rfl,by cases h;rfl⟩
 ·right;refine⟨by omega,?_⟩;rw[←h];exact aa.jL (List.getElem?_append_left (by omega)).symm
theorem aa.qY {H:aa}{o:dD}{b:eS}{i:Nat}(h:(H.km o).get i=some b):H.get i=some b:=by
 have hl:=aa.ar h;rw[aa.ot] at hl;by_cases e:i=H.length
 ·subst e;rw[aa.qo aa.pO] at h;cases h
 ·rw[←h];exact aa.get_congr (List.getElem?_append_left (by omega)).symm
theorem aa.FG {H:aa}{b:eS}{i:Nat}:(H.put i b).length=H.length:=by simp[aa.put]
theorem aa.DE {H:aa}{o:dD}{i:Nat}:(H.jJ i o).length=H.length:=by simp[aa.jJ]
theorem aa.fT {H:aa}{i:Nat}:(H.kill i).length=H.length:=by simp[aa.kill]
theorem aa.jg {H:aa}{b:eS}{i:Nat}(h:i<H.length):(H.put i b).get i=some b:=by
 rw[aa.qW];unfold aa.put;simp[h]
theorem aa.bA {H:aa}{b:eS}{i j:Nat}(h:j≠i):(H.put i b).get j=H.get j:=aa.get_congr (List.getElem?_set_ne (Ne.symm h))
theorem aa.Rp {H:aa}{b c:eS}{i j:Nat}{o:dD}(hb:H.get i=some b)(h:(H.put i c).dZ j=some o):H.dZ j=some o:=by
 by_cases e:j=i
 ·subst e;rw[aa.qm (aa.jg (aa.ar hb))] at h;cases h
 ·rw[←h];exact aa.jL (List.getElem?_set_ne (Ne.symm e)).symm
theorem aa.pP {H:aa}{o:dD}{i:Nat}(h:i<H.length):(H.jJ i o).dZ i=some o:=by
 rw[aa.qX];unfold aa.jJ;simp[h]
theorem aa.uo {H:aa}{o:dD}{i j:Nat}(h:j≠i):(H.jJ i o).dZ j=H.dZ j:=aa.jL (List.getElem?_set_ne (Ne.symm h))
theorem aa.wC {H:aa}{o p:dD}{i j:Nat}(ho:H.dZ i=some o):(H.jJ i p).get j=H.get j:=by
 by_cases e:j=i
 ·subst e;rw[aa.qo (aa.pP (aa.wA ho)),aa.qo ho]
 ·exact aa.get_congr (List.getElem?_set_ne (Ne.symm e))
theorem aa.mj {H:aa}{i:Nat}:(H.kill i).get i=none:=by
 unfold aa.get aa.kill;by_cases h:i<H.length
 ·simp[h]
 ·rw[List.getElem?_eq_none (by simp;omega)]
theorem aa.pQ {H:aa}{i:Nat}:(H.kill i).dZ i=none:=by
 unfold aa.dZ aa.kill;by_cases h:i<H.length
 ·simp[h]
 ·rw[List.getElem?_eq_none (by simp;omega)]
theorem aa.iU {H:aa}{i j:Nat}(h:j≠i):(H.kill i).get j=H.get j:=aa.get_congr (List.getElem?_set_ne (Ne.symm h))
theorem aa.DF {H:aa}{i j:Nat}(h:j≠i):(H.kill i).dZ j=H.dZ j:=aa.jL (List.getElem?_set_ne (Ne.symm h))
theorem aa.ou {H:aa}{i j:Nat}{o:dD}(h:(H.kill i).dZ j=some o):H.dZ j=some o:=by
 by_cases e:j=i
 ·subst e;rw[aa.pQ] at h;cases h
 ·rw[←h,aa.DF e]
theorem aa.qZ {H:aa}{i j:Nat}{b:eS}(h:(H.kill i).get j=some b):H.get j=some b:=by
 by_cases e:j=i
 ·subst e;rw[aa.mj] at h;cases h
 ·rw[←h,aa.iU e]
theorem aa.wD {H:aa}{b:eS}{i:Nat}(h:(H.new b)[i]? =some .hole):H[i]? =some .hole∧i<H.length:=by
 have hl:=(List.getElem?_eq_some_iff.1 h).1;unfold aa.new at h hl;by_cases e:i<H.length
 ·rw[List.getElem?_append_left e] at h;exact⟨h,e⟩
 ·have:i=H.length:=by simp at hl;omega
  subst this;simp at h
theorem aa.JY {H:aa}{o:dD}{i:Nat}(h:(H.km o)[i]? =some .hole):H[i]? =some .hole∧i<H.length:=by
 have hl:=(List.getElem?_eq_some_iff.1 h).1;unfold aa.km at h hl;by_cases e:i<H.length
 ·rw[List.getElem?_append_left e] at h;exact⟨h,e⟩
 ·have:i=H.length:=by simp at hl;omega
  subst this;simp at h
theorem q7 {H:aa}{s:Slot}{i j:Nat}(hs:s≠ .hole)(h:(H.set j s)[i]? =some .hole):H[i]? =some .hole∧i≠j:=by
 by_cases e:j=i
 ·subst e;rw[List.getElem?_set] at h;simp only[if_true] at h;split at h
  ·cases h;exact absurd rfl hs
  ·cases h
 ·rw[List.getElem?_set_ne e] at h;exact⟨h,Ne.symm e⟩
theorem aa.NA {H:aa}{b:eS}{i j:Nat}(h:(H.put j b)[i]? =some .hole):H[i]? =some .hole∧i≠j:=q7 (by simp) h
theorem aa.JZ {H:aa}{o:dD}{i j:Nat}(h:(H.jJ j o)[i]? =some .hole):H[i]? =some .hole∧i≠j:=q7 (by simp) h
theorem aa.sY {H:aa}{i j:Nat}(h:(H.kill j)[i]? =some .hole):H[i]? =some .hole∧i≠j:=q7 (by simp) h
theorem cO.heap {P:Program}{μ:Mu}{H:aa}{w w':World}{B:Nat}(h:cO P μ H w B)(e:w'.heap=w.heap):cO P μ H w' B:=
 ⟨by rw[e];exact h.base,λi b hb=>let ⟨l,h1,h2⟩:=h.ok i b hb;⟨l,h1,h2.heap (by rw[e])⟩,h.BF,h.inj,h.own,h.dZ.keep μ.le_refl (λ_ _ h=>h) (λb x hb _=>by rw[e];exact hb),h.wv⟩
theorem cO.alloc {P:Program}{μ:Mu}{H:aa}{w:World}{B:Nat}(h:cO P μ H w B)(cs:List Value)(ty t:TypeId)(es:Nat)(fi:Array Value)(n:Nat)(hn:n=fi.size)(Rq:cs.all aC=true)(hle:cs.length≤fi.size)(hv:cU μ cs (fi.toList.take cs.length))(Wa: ∀(k:Nat) (v:Value),cs.length≤k→fi[k]? =some v→cu v=true):
  μ.le (μ.up H.length ⟨w.heap.size,0,n,es⟩)∧cO P (μ.up H.length ⟨w.heap.size,0,n,es⟩) (H.new ⟨cs,t,es,false⟩) (w.alloc (.cells fi ty)) B:=by
 subst hn;have ml:=Mu.DC (l:=⟨w.heap.size,0,fi.size,es⟩) (h.BF H.length (Nat.le_refl _));refine⟨ml,by have:=h.base;simp;omega,?_,?_,?_,?_,h.dZ.keep ml (λ_ _=>aa.BG) (λb x hb _=>(Go.RowKit.Below.heap_alloc _ _ _ (Array.getElem?_eq_some_iff.1 hb).1).trans hb),λi hi=>by obtain⟨h1,h2⟩:=aa.wD hi;rw[Mu.dO (by omega)];exact h.wv i h1⟩
 ·intro i b hb;rcases aa.aK hb with⟨rfl,rfl⟩|⟨hi,hb⟩
  ·have q8:(w.heap.push (.cells fi ty (0,0)))[w.heap.size]? =some (.cells fi ty (0,0)):=by simp
   refine⟨_,Mu.aO,rfl,Rq,(λ_ UM mT Wb h2 k v hk Dv=>?_),fi,ty,(0,0),?_,rfl,λ_=>rfl,by simpa using hle,?_⟩
   ·have h2':(w.heap.push (.cells fi ty (0,0)))[w.heap.size]? =some (.cells UM mT Wb):=h2;rw[q8] at h2';cases h2';exact Wa k v (by simpa using hk) Dv
   ·show(w.heap.push _)[w.heap.size]? =_;simp
   ·simpa using hv.mono ml
  ·obtain⟨l,h1,h2⟩:=h.ok i b hb;refine⟨l,ml _ _ h1,(h2.mono ml).heap ?_⟩;exact Go.RowKit.Below.heap_alloc _ _ _ h2.lt
 ·intro i hi;rw[aa.kS] at hi;rw[Mu.dO (by omega)];exact h.BF i (by omega)
 ·intro i j b c l m hb hc hl hm Nj iJ;rcases aa.aK hb with⟨rfl,rfl⟩|⟨hi,hb⟩<;>rcases aa.aK hc with⟨rfl,rfl⟩|⟨hj,hc⟩
  ·exact absurd rfl Nj
  ·rw[Mu.aO] at hl;cases hl;rw[Mu.dO (by omega)] at hm
   obtain⟨m',e,k⟩:=h.ok j c hc;rw[hm] at e;cases e;have:=k.lt;show w.heap.size≠m.b;omega
  ·rw[Mu.aO] at hm;cases hm;rw[Mu.dO (by omega)] at hl
   obtain⟨l',e,k⟩:=h.ok i b hb;rw[hl] at e;cases e;have:=k.lt;show l.b≠w.heap.size;omega
  ·rw[Mu.dO (by omega)] at hl hm
   exact h.inj i j b c l m hb hc hl hm Nj iJ
 ·intro i b l hb iJ hl;rcases aa.aK hb with⟨rfl,rfl⟩|⟨hi,hb⟩
  ·rw[Mu.aO] at hl;cases hl;exact h.base
  ·rw[Mu.dO (by omega)] at hl;exact h.own i b l hb iJ hl
end Go.Proofs.YtgfgglponbmgmaaGreatA.Am
end
section
namespace Go.Proofs.YtgfgglponbmgmaaGreatA.Am
open Go.RowKit (Below)
structure eW (B:Nat) (w w':World):Prop where
 below:Below B w w'
 loops: ∀(b:Nat) (r:Loop),w.heap[b]? =some (.loop r)→∃r',w'.heap[b]? =some (.loop r')∧r'.defers=r.defers
 dfr: ∀(b:Nat),w.heap[b]? =some (.deferred (some []))→w'.heap[b]? =some (.deferred (some []))
 size:w.heap.size≤w'.heap.size
theorem eW.q9 {B:Nat}{w w':World}(h:Below B w w')(k:KeepsOthers w w'):eW B w w':=
 ⟨h,λ_ r hb=>⟨r,k.same _ _ hb rfl,rfl⟩,λ_ hb=>k.same _ _ hb rfl,k.size⟩
theorem eW.refl (B:Nat)(w:World):eW B w w:=.q9 (Below.refl _ _) (KeepsOthers.refl _)
theorem eW.trans {B:Nat}{w w1 w2:World}(h:eW B w w1)(k:eW B w1 w2):eW B w w2:=
 ⟨h.below.trans k.below,λb r hb=>by
  obtain⟨r1,h1,e1⟩:=h.loops b r hb;obtain⟨r2,h2,e2⟩:=k.loops b r1 h1;exact⟨r2,h2,e2.trans e1⟩,λb hb=>k.dfr b (h.dfr b hb),Nat.le_trans h.size k.size⟩
theorem eW.drew {B:Nat}{w w1:World}(h:eW B w w1):eW B w w1.drew:=h.trans (.q9 ((Below.refl _ _).drew) (KeepsOthers.drew _))
theorem eW.alloc {B:Nat}{w w1:World}(h:eW B w w1)(hB:B≤w1.heap.size)(o:Obj):eW B w (w1.alloc o):=h.trans (.q9 ((Below.refl _ _).alloc hB o) (KeepsOthers.alloc _ _))
theorem jh (b o j:Nat):(⟨b,o,none⟩:Addr).add j=⟨b,o+j,none⟩:=by unfold Addr.add;split<;>simp_all
theorem cO.ld {P:Program}{μ:Mu}{H:aa}{w:World}{B i off:Nat}{b:eS}{l:Loc}{v:Value}(h:cO P μ H w B)(hb:H.get i=some b)(hl:μ i=some l)(hv:b.cells[off]? =some v): ∃v',w.cell? ⟨l.b,l.o+off,none⟩=some v'∧VR μ v v':=by
 obtain⟨l',e,k⟩:=h.ok i b hb;rw[hl] at e;cases e;obtain⟨cs,ty,fz,h1,h2,h3,h4,h5⟩:=k.row;obtain⟨v',e,r⟩:=h5.2 off v hv;refine⟨v',?_,r⟩;have gF:off<b.cells.length:=(List.getElem?_eq_some_iff.1 hv).1;rw[List.getElem?_take,if_pos gF,List.getElem?_drop] at e;simp only[World.cell?,h1];simpa using e
theorem cO.aQ {P:Program}{μ:Mu}{H:aa}{w:World}{B i off n:Nat}{l:Loc}{vs:List Value}(h:cO P μ H w B)(hl:μ i=some l)(hv:Am.aQ H i off n=some vs):vs.length=n∧∃iY,cU μ vs iY∧∀(j:Nat) (v:Value),iY[j]? =some v→w.cell? ((⟨l.b,l.o+off,none⟩:Addr).add j)=some v:=by
 unfold Am.aQ at hv;cases hb:H.get i with
 |none=>rw[hb] at hv;cases hv
 |some b=>
  rw[hb] at hv;simp only at hv;split at hv
  ·rename_i hle;cases hv;obtain⟨l',e,k⟩:=h.ok i b hb;rw[hl] at e;cases e;obtain⟨cs,ty,fz,h1,h2,h3,h4,h5⟩:=k.row;refine⟨by simp;omega,_,(h5.drop off).take n,λj v hj=>?_⟩
   rw[jh];rw[List.getElem?_take] at hj;split at hj
   ·rename_i hjn;rw[List.getElem?_drop,List.getElem?_take] at hj;split at hj
    ·rw[List.getElem?_drop] at hj;simp only[World.cell?,h1];simpa[Nat.add_assoc] using hj
    ·cases hj
   ·cases hj
  ·cases hv
theorem cO.NB {P:Program}{μ:Mu}{H:aa}{w:World}{B i off n:Nat}{vs:List Value}(h:cO P μ H w B)(hv:Am.aQ H i off n=some vs):vs.all aC=true:=by
 unfold Am.aQ at hv;cases hb:H.get i with
 |none=>rw[hb] at hv;cases hv
 |some b=>
  rw[hb] at hv;simp only at hv;split at hv
  ·cases hv;obtain⟨l,_,k⟩:=h.ok i b hb;have:=k.one
   rw[List.all_eq_true] at this ⊢;intro x hx;exact this x (List.mem_of_mem_drop (List.mem_of_mem_take hx))
  ·cases hv
theorem sZ: ∀(vs cs:List Value) (off:Nat),off+vs.length≤cs.length→dz cs off vs=cs.take off++vs++cs.drop (off+vs.length)
 | [],cs,off,_=>by simp[dz]
 |v::r,cs,off,h=>by
  simp only[List.length_cons] at h;rw[dz,sZ r (cs.set off v) (off+1) (by simp;omega)]
  have e1:(cs.set off v).take (off+1)=cs.take off++[v]:=by
   rw[List.take_set,List.take_succ_eq_append_getElem (by omega)]
   rw[List.set_append_right _ _ (by simp;omega)]
   simp[Nat.min_eq_left (show off≤cs.length by omega)]
  have e2:(cs.set off v).drop (off+1+r.length)=cs.drop (off+(v::r).length):=by
   rw[List.drop_set_of_lt (by omega)]
   congr 1;simp;omega
  rw[e1,e2];simp
theorem wE {f:Value→Bool}: ∀(vs cs:List Value) (off:Nat),cs.all f=true→vs.all f=true→(dz cs off vs).all f=true
 | [],cs,off,h,_=>h
 |v::r,cs,off,h,k=>by
  rw[dz];simp only[List.all_cons,Bool.and_eq_true] at k;refine wE r _ _ ?_ k.2;rw[List.all_eq_true] at h ⊢;intro x hx;rcases List.mem_or_eq_of_mem_set hx with hx|rfl
  ·exact h x hx
  ·exact k.1
theorem mn {vs cs:List Value}{off:Nat}(h:off+vs.length≤cs.length):(dz cs off vs).length=cs.length:=by
 rw[sZ _ _ _ h];simp;omega
theorem DG {P:Program}{μ:Mu}{H:aa}{w w':World}{B i:Nat}{b:eS}{l:Loc}(hb:H.get i=some b)(hl:μ i=some l)(h:cO P μ H w B)(hw: ∀k,k≠l.b→w'.heap[k]? =w.heap[k]?)(k:Nat)(x:Obj)(hk:w.heap[k]? =some x)(hx:x.isCells=false):w'.heap[k]? =some x:=by
 rw[hw k ?_];exact hk;rintro rfl;obtain⟨l',e,ko⟩:=h.ok i b hb;rw[hl] at e;cases e;obtain⟨cs,ty,fz,h1,_⟩:=ko.row;rw[h1] at hk;cases hk;cases hx
theorem cO.put {P:Program}{μ:Mu}{H:aa}{w w':World}{B i:Nat}{b b':eS}{l:Loc}(h:cO P μ H w B)(hb:H.get i=some b)(iJ:b.ro=false)(hl:μ i=some l)(hw: ∀k,k≠l.b→w'.heap[k]? =w.heap[k]?)(hs:w'.heap.size=w.heap.size)(ad1:b'.ro=false)(dH:mF μ w' b' l):cO P μ (H.put i b') w' B:=by
 have hi:=aa.ar hb;refine⟨by rw[hs];exact h.base,?_,λk hk=>h.BF k (by rw[aa.FG] at hk;exact hk),?_,?_,h.dZ.keep μ.le_refl (λ_ _=>aa.Rp hb) (DG hb hl h hw),λk hk=>h.wv k (aa.NA hk).1⟩
 ·intro j c hc;by_cases e:j=i
  ·subst e;rw[aa.jg hi] at hc;cases hc;exact⟨l,hl,dH⟩
  ·rw[aa.bA e] at hc;obtain⟨m,hm,k⟩:=h.ok j c hc;exact⟨m,hm,k.heap (hw _ (Ne.symm (h.inj i j b c l m hb hc hl hm (Ne.symm e) iJ)))⟩
 ·intro j k c d m n hc hd hm hn AD DH;by_cases e:j=i
  ·subst e;rw[aa.jg hi] at hc;cases hc;rw[aa.bA (Ne.symm AD)] at hd;exact h.inj j k b d m n hb hd hm hn AD iJ
  ·rw[aa.bA e] at hc;by_cases e2:k=i
   ·subst e2;exact h.inj j k c b m n hc hb hm hn AD DH
   ·rw[aa.bA e2] at hd;exact h.inj j k c d m n hc hd hm hn AD DH
 ·intro j c m hc DH hm;by_cases e:j=i
  ·subst e;exact h.own j b m hb iJ hm
  ·rw[aa.bA e] at hc;exact h.own j c m hc DH hm
theorem cO.move {P:Program}{μ:Mu}{H:aa}{w w':World}{B i:Nat}{b b':eS}{l l':Loc}(h:cO P μ H w B)(hb:H.get i=some b)(iJ:b.ro=false)(hl:μ i=some l)(hlb:l'.b=l.b)(hw: ∀k,k≠l.b→w'.heap[k]? =w.heap[k]?)(hs:w'.heap.size=w.heap.size)(dH:mF μ w' b' l'):
  μ.le (μ.up H.length l')∧cO P (μ.up H.length l') ((H.kill i).new b') w' B:=by
 have hi:=aa.ar hb;have hle:=Mu.DC (l:=l') (h.BF H.length (Nat.le_refl _));have old: ∀{j:Nat} {c:eS},((H.kill i).new b').get j=some c→(j=H.length∧c=b')∨(j<H.length∧j≠i∧H.get j=some c):=by
  intro j c hc;rcases aa.aK hc with⟨e,e'⟩|⟨hj,hc⟩
  ·rw[aa.fT] at e;exact .inl ⟨e,e'⟩
  ·rw[aa.fT] at hj;by_cases e:j=i
   ·subst e;rw[aa.mj] at hc;cases hc
   ·rw[aa.iU e] at hc;exact .inr ⟨hj,e,hc⟩
 refine⟨hle,by rw[hs];exact h.base,?_,?_,?_,?_,h.dZ.keep hle (λ_ _ hk=>aa.ou (aa.BG hk)) (DG hb hl h hw),λk hk=>by obtain⟨h1,h2⟩:=aa.wD hk;rw[aa.fT] at h2;rw[Mu.dO (by omega)];exact h.wv k (aa.sY h1).1⟩
 ·intro j c hc;rcases old hc with⟨rfl,rfl⟩|⟨hj,e,hc⟩
  ·exact⟨l',Mu.aO,dH.mono hle⟩
  ·obtain⟨m,hm,k⟩:=h.ok j c hc;exact⟨m,hle _ _ hm,(k.heap (hw _ (Ne.symm (h.inj i j b c l m hb hc hl hm (Ne.symm e) iJ)))).mono hle⟩
 ·intro j hj;rw[aa.kS,aa.fT] at hj;rw[Mu.dO (by omega)];exact h.BF j (by omega)
 ·intro j k c d m n hc hd hm hn AD DH;rcases old hc with⟨rfl,rfl⟩|⟨hj,e,hc1⟩<;>rcases old hd with⟨rfl,rfl⟩|⟨hk,e2,hd1⟩
  ·exact absurd rfl AD
  ·rw[Mu.aO] at hm;cases hm;rw[Mu.dO (by omega)] at hn
   rw[hlb];exact h.inj i k b d l n hb hd1 hl hn (Ne.symm e2) iJ
  ·rw[Mu.aO] at hn;cases hn;rw[Mu.dO (by omega)] at hm
   rw[hlb];exact λx=>h.inj i j b c l m hb hc1 hl hm (Ne.symm e) iJ x.symm
  ·rw[Mu.dO (by omega)] at hm hn
   exact h.inj j k c d m n hc1 hd1 hm hn AD DH
 ·intro j c m hc DH hm;rcases old hc with⟨rfl,rfl⟩|⟨hj,e,hc⟩
  ·rw[Mu.aO] at hm;cases hm;rw[hlb];exact h.own i b l hb iJ hl
  ·rw[Mu.dO (by omega)] at hm;exact h.own j c m hc DH hm
theorem ra {w:World}{g B:Nat}{cs:Array Value}(h:B≤g)(hg: ∀o,w.heap[g]? =some o→o.isCells=true):eW B w (w.setRow g cs):=
 .q9 ⟨rfl,rfl,rfl,by simp[World.setRow],λk hk=>setRow_other w g k cs (by omega)⟩ ⟨by simp[World.setRow],λk o hk ho=>by
  by_cases e:k=g
  ·subst e;rw[hg o hk] at ho;cases ho
  ·rw[setRow_other w g k cs e];exact hk⟩
theorem setRow_size (w:World)(g:Nat)(cs:Array Value):(w.setRow g cs).heap.size=w.heap.size:=by simp[World.setRow]
theorem cO.st {P:Program}{μ:Mu}{H H':aa}{w:World}{B i off:Nat}{l:Loc}{vs iY:List Value}(h:cO P μ H w B)(hl:μ i=some l)(kx:bZ H i off vs=some H')(hv:cU μ vs iY):
  ∃w',(storeCells ⟨l.b,l.o+off,none⟩ iY).run P w= .ok () w'∧cO P μ H' w' B∧eW B w w':=by
 unfold bZ at kx;cases hb:H.get i with
 |none=>rw[hb] at kx;cases kx
 |some b=>
  rw[hb] at kx;simp only at kx;split at kx
  ·rename_i hc;cases kx;simp only[Bool.and_eq_true,Bool.not_eq_true',decide_eq_true_eq] at hc;obtain⟨⟨iJ,hle⟩,zU⟩:=hc;obtain⟨l',e,k⟩:=h.ok i b hb;rw[hl] at e;cases e;obtain⟨cs,ty,fz,h1,h2,h3,h4,h5⟩:=k.row;obtain rfl:=h3 iJ;have hlen:=hv.1;have dI:=run_storeCells_at (P:=P) l.b (l.o+off) ty iY 0 cs w h1 (by omega) (hv.DD zU)
   refine⟨_,dI,?_,ra (h.own i b l hb iJ hl) (λo ho=>by rw[h1] at ho;cases ho;rfl)⟩
   refine h.put hb iJ hl (λk hk=>setRow_other w l.b k _ hk) (setRow_size _ _ _) iJ ?_
   refine⟨k.es,wE _ _ _ k.one zU,?_,_,ty,(0,0),setRow_heap w l.b cs _ ty (0,0) h1,?_,λ_=>rfl,?_,?_⟩
   ·intro _ UM mT Wb g2 j v hj Dv;rw[setRow_heap w l.b cs _ ty (0,0) h1] at g2;cases g2;simp only[mn hle] at hj;refine k.spare iJ cs ty (0,0) h1 j v hj ?_;have rb:cs.toList.length=cs.size:=by simp
    rw[←Dv];simp only[Nat.add_zero,List.getElem?_toArray,List.getElem?_append,List.length_append,List.length_take,rb,List.getElem?_drop];rw[if_neg (by omega), ←Array.getElem?_toList]
    congr 1;omega
   ·simp;omega
   ·simp only[mn hle];simp;omega
   ·simp only[mn hle];rw[sZ _ _ _ hle];have e:(((cs.toList.take (l.o+off+0)++iY++cs.toList.drop (l.o+off+0+iY.length)).toArray.toList.drop l.o).take b.cells.length)=
      ((cs.toList.drop l.o).take b.cells.length).take off++iY++((cs.toList.drop l.o).take b.cells.length).drop (off+vs.length):=by
     apply List.ext_getElem?;intro j;have rb:cs.toList.length=cs.size:=by simp
     simp only[Nat.add_zero,List.getElem?_take,List.getElem?_drop,List.getElem?_append,List.length_append,List.length_take,List.length_drop,rb];by_cases hj:j<b.cells.length
     ·rw[if_pos hj];by_cases h1:j<off
      ·rw[if_pos (by omega),if_pos (by omega),if_pos (by omega),if_pos (by omega),if_pos (by omega),if_pos h1,if_pos hj]
      ·by_cases h2:j<off+iY.length
       ·rw[if_pos (by omega),if_neg (by omega),if_pos (by omega),if_neg (by omega)]
        congr 1;omega
       ·rw[if_neg (by omega),if_neg (by omega),if_pos (by omega)]
        congr 1;omega
     ·rw[if_neg hj,if_neg (by omega),if_neg (by omega)]
    rw[e];exact((h5.take off).append hv).append (h5.drop (off+vs.length))
  ·cases kx
variable {P:Program} {μ:Mu} {H H':aa} {w:World} {B:Nat}
theorem eC {t:TypeId}{n:Nat}(h:jK P t=some n)(w:World):(sizeOf t).run P w= .ok n w:=by
 unfold jK at h;cases hi:P.info? t with
 |none=>rw[hi] at h;cases h
 |some i=>rw[hi] at h;cases h;simp[sizeOf,typeInfo,hi]
theorem kU {t:TypeId}{i:TypeInfo}(h:P.info? t=some i)(w:World):(typeInfo t).run P w= .ok i w:=by simp[typeInfo,h]
theorem qp {t:TypeId}{n:Nat}(h:qR P t=some n): ∃i,P.info? t=some i∧i.bytes=n:=by
 unfold qR at h;cases hi:P.info? t with
 |none=>rw[hi] at h;cases h
 |some i=>rw[hi] at h;cases h;exact⟨i,rfl,rfl⟩
theorem vo {t:TypeId}{b:Bool}(h:Rm P t=some b)(w:World):(isAgg t).run P w= .ok b w:=by
 unfold Rm at h;cases hi:P.underlying t with
 |none=>rw[hi] at h;cases h
 |some d=>
  rw[hi] at h;unfold isAgg;cases d<;>simp at h<;>subst h<;>simp[run_underlying hi]
theorem dS {t:TypeId}{z:Value}(h:zeroOf P t=some z)(w:World):(zeroValue t).run P w= .ok z w∧fO z=true∧∃n,jK P t=some n∧z.cells.size=n:=by
 unfold zeroOf at h;cases hi:P.info? t with
 |none=>rw[hi] at h;cases h
 |some i=>
  rw[hi] at h;simp only[Option.bind_some] at h;cases hz:i.zero with
  |none=>rw[hz] at h;cases h
  |some z'=>
   rw[hz] at h;simp only at h;split at h
   ·rename_i hc;cases h;simp only[Bool.and_eq_true,beq_iff_eq] at hc;refine⟨by simp[zeroValue,typeInfo,hi,hz],hc.1,i.size,by simp[jK,hi],hc.2⟩
   ·cases h
theorem uq {t:TypeId}{p p' v:Value}(hS:cO P μ H w B)(hp:VR μ p p')(h:jf P t p H=some v):
  ∃v',(Instr.loadAt t p').run P w= .ok v' w∧VR μ v v':=by
 unfold jf at h;split at h
 ·rename_i i off;obtain⟨i',NC,l,e,hl,rfl⟩:=hp.mX;cases e;have hsa: ∀w,(Instr.sureAddr (.pointer (some ⟨l.b,l.o+off,none⟩))).run P w= .ok ⟨l.b,l.o+off,none⟩ w:=λ_=>rfl
  split at h
  ·rename_i ha;cases hz:jK P t with
   |none=>rw[hz] at h;cases h
   |some n=>
    rw[hz] at h;simp only at h;cases hc:aQ H i off n with
    |none=>rw[hc] at h;cases h
    |some vs=>
     rw[hc] at h;cases h;obtain⟨hlen,iY,hv,AE⟩:=hS.aQ hl hc;have DI:iY.length=n:=by rw[←hv.1];exact hlen
     refine⟨.agg iY.toArray,?_,hv.Nz⟩;have hr:=run_loadCells_list (P:=P) w ⟨l.b,l.o+off,none⟩ iY AE;rw[DI] at hr;simp[Instr.loadAt,hsa,loadVar,vo ha,eC hz,hr]
  ·rename_i ha;cases hb:H.get i with
   |none=>rw[hb] at h;cases h
   |some b=>
    rw[hb] at h;obtain⟨v',hc,hv⟩:=hS.ld hb hl h;exact⟨v',by simp[Instr.loadAt,hsa,loadVar,vo ha,hc],hv⟩
  ·cases h
 ·cases h
theorem DJ {t:TypeId}{p p' v v':Value}(hS:cO P μ H w B)(hp:VR μ p p')(hv:VR μ v v')(h:Ay P t p v H=some H'):
  ∃w',(Instr.storeAt t p' v').run P w= .ok () w'∧cO P μ H' w' B∧eW B w w':=by
 unfold Ay at h;split at h
 ·rename_i i off;obtain⟨i',NC,l,e,hl,rfl⟩:=hp.mX;cases e;have hsa: ∀w,(Instr.sureAddr (.pointer (some ⟨l.b,l.o+off,none⟩))).run P w= .ok ⟨l.b,l.o+off,none⟩ w:=λ_=>rfl
  cases hz:jK P t with
  |none=>rw[hz] at h;cases h
  |some n=>
   rw[hz] at h;simp only at h;split at h
   ·rename_i hc;have rb:=cU.cells hv hc.2;obtain⟨w',hr,s9,hB⟩:=hS.st hl h rb;have hn:v'.cells.size=n:=by have:=rb.1;simp at this;omega
    exact⟨w',by simp[Instr.storeAt,hsa,storeVar,eC hz,hn,hr],s9,hB⟩
   ·cases h
 ·cases h
theorem lN {t:TypeId}{cs fi:Array Value}{off:Nat}{v:Value}(hc:cU μ cs.toList fi.toList)(h:Am.apart P t cs off=some v)(w:World):
  ∃v',(part t fi off).run P w= .ok v' w∧VR μ v v':=by
 unfold Am.apart at h;split at h
 ·rename_i ha;cases hz:jK P t with
  |none=>rw[hz] at h;cases h
  |some n=>
   rw[hz] at h;cases h;refine⟨.agg (fi.extract off (off+n)),by simp[part,vo ha,eC hz],cU.agg ?_⟩
   have:=(hc.drop off).take n
   simpa[List.take_drop,Nat.add_comm] using this
 ·rename_i ha;obtain⟨v',e,r⟩:=hc.2 off v (by simpa using h)
  exact⟨v',by simp[part,vo ha,show fi[off]? =some v' by simpa using e],r⟩
 ·cases h
end Go.Proofs.YtgfgglponbmgmaaGreatA.Am
end
