/- Texts of the proof of helpLogic_holds, put together by a small program of ours (names shortened, spaces taken out). No condition beyond the given statement. -/
import Derived.Test.YtgfgglponbmgmaaGreatHLG0
import Derived.RangeFuncOwn
import Derived.Laws.CopyRow
import Derived.Laws.Cells
import Derived.Laws.World
import Derived.Laws.Entries
import Derived.Laws.Tables
import Derived.ChangeKeysEq
import Derived.RangeFuncCalls
set_option linter.unusedVariables false
set_option linter.unusedSimpArgs false
set_option linter.unnecessarySimpa false
noncomputable section
section
namespace Go.Proofs.YtgfgglponbmgmaaGreatA.Am
structure Loc where
 b:Nat
 o:Nat
 sz:Nat
 es:Nat
abbrev Mu:=Nat→Option Loc
def Mu.le (μ μ':Mu):Prop:=∀i l,μ i=some l→μ' i=some l
theorem Mu.le_refl (μ:Mu):μ.le μ:=λ_ _ h=>h
theorem Mu.le_trans {a b c:Mu}(h:a.le b)(k:b.le c):a.le c:=λi l e=>k i l (h i l e)
def Mu.up (μ:Mu)(i:Nat)(l:Loc):Mu:=λj=>if j=i then some l else μ j
theorem Mu.C6 {μ:Mu}{i:Nat}{l:Loc}(h:μ i=none):μ.le (μ.up i l):=by
 intro j m hj;unfold Mu.up;by_cases e:j=i
 ·subst e;rw[h] at hj;cases hj
 ·rw[if_neg e];exact hj
theorem Mu.aP {μ:Mu}{i:Nat}{l:Loc}:μ.up i l i=some l:=by simp[Mu.up]
theorem Mu.dL {μ:Mu}{i j:Nat}{l:Loc}(h:j≠i):μ.up i l j=μ j:=by simp[Mu.up,h]
def isY:Fn→Bool
 | .yield _=>true
 |_=>false
inductive VR (μ:Mu):Value→Value→Prop
 |Gn (v:Value):VR μ (.complex .f64 0 0) v
 |plain (v:Value) (h:cp v=true):VR μ v v
 |ptr (i off:Nat) (l:Loc) (h:μ i=some l):VR μ (.pointer (some ⟨i,off,none⟩)) (.pointer (some ⟨l.b,l.o+off,none⟩))
 |slice (i off len cap eY:Nat) (l:Loc) (h:μ i=some l) (h1:len≤cap) (h2:cap≤eY) (h3:l.o+off+eY*l.es≤l.sz):
   VR μ (.slice (some ⟨i,off,none⟩) len cap) (.slice (some ⟨l.b,l.o+off,none⟩) len eY)
 |lU (i off:Nat) (a:Addr):VR μ (.slice (some ⟨i,off,none⟩) 0 0) (.slice (some a) 0 0)
 |Be (i:Nat) (l:Loc) (h:μ i=some l):VR μ (.map (some i)) (.map (some l.b))
 |SS (i:Nat) (l:Loc) (h:μ i=some l):VR μ (.func (.yield i) #[] #[]) (.func (.yield l.b) #[] #[])
 |func (fn:Fn) (f f' c c':Array Value) (hy:isY fn=false) (hf:f.size=f'.size) (hc:c.size=c'.size)
   (h1: ∀j (h:j<f.size) (h':j<f'.size),VR μ f[j] f'[j]) (h2: ∀j (h:j<c.size) (h':j<c'.size),VR μ c[j] c'[j]):
   VR μ (.func fn f c) (.func fn f' c')
 |agg (c c':Array Value) (hc:c.size=c'.size) (h: ∀j (h:j<c.size) (h':j<c'.size),VR μ c[j] c'[j]):VR μ (.agg c) (.agg c')
 |tuple (c c':Array Value) (hc:c.size=c'.size) (h: ∀j (h:j<c.size) (h':j<c'.size),VR μ c[j] c'[j]):VR μ (.tuple c) (.tuple c')
theorem VR.mono {μ μ':Mu}(hm:μ.le μ'){v v':Value}(h:VR μ v v'):VR μ' v v':=by
 induction h with
 |Gn v=>exact .Gn v
 |plain v h=>exact .plain v h
 |ptr i off l h=>exact .ptr i off l (hm _ _ h)
 |slice i off len cap eY l h h1 h2 h3=>exact .slice i off len cap eY l (hm _ _ h) h1 h2 h3
 |lU i off a=>exact .lU i off a
 |Be i l h=>exact .Be i l (hm _ _ h)
 |SS i l h=>exact .SS i l (hm _ _ h)
 |func fn f f' c c' hy hf hc _ _ i1 i2=>exact .func fn f f' c c' hy hf hc i1 i2
 |agg c c' hc _ ih=>exact .agg c c' hc ih
 |tuple c c' hc _ ih=>exact .tuple c c' hc ih
def cT (μ:Mu)(l l':List Value):Prop:=l.length=l'.length∧∀(j:Nat) (u:Value),l[j]? =some u→∃u':Value,l'[j]? =some u'∧VR μ u u'
theorem cT.mono {μ μ':Mu}(hm:μ.le μ'){l l':List Value}(h:cT μ l l'):cT μ' l l':=
 ⟨h.1,λj u hj=>let ⟨u',a,b⟩:=h.2 j u hj;⟨u',a,b.mono hm⟩⟩
theorem cT.nil {μ:Mu}:cT μ [] []:=⟨rfl,λj u h=>by simp at h⟩
theorem cT.cons {μ:Mu}{a b:Value}{x y:List Value}(h:VR μ a b)(k:cT μ x y):cT μ (a::x) (b::y):=by
 refine⟨by simp[k.1],λj u hj=>?_⟩
 cases j with
 |zero=>simp at hj;subst hj;exact⟨b,rfl,h⟩
 |succ j=>simp at hj ⊢;exact k.2 j u hj
theorem cT.fq {μ:Mu}{a:Value}{x l:List Value}(h:cT μ (a::x) l): ∃b y,l=b::y∧VR μ a b∧cT μ x y:=by
 cases l with
 |nil=>have:=h.1;simp at this
 |cons b y=>
  obtain⟨u',h1,h2⟩:=h.2 0 a rfl;simp at h1;subst h1;exact⟨b,y,rfl,h2,by have:=h.1;simpa using this,λj u hj=>by have:=h.2 (j+1) u (by simpa using hj);simpa using this⟩
theorem cT.gY {μ:Mu}{l:List Value}(h:cT μ [] l):l=[]:=by
 exact List.eq_nil_of_length_eq_zero h.1.symm
theorem cT.append {μ:Mu}{a b x y:List Value}(h:cT μ a b)(k:cT μ x y):cT μ (a++x) (b++y):=by
 induction a generalizing b with
 |nil=>rw[cT.gY h];exact k
 |cons v a ih=>obtain⟨c,z,rfl,h1,h2⟩:=h.fq;exact .cons h1 (ih h2)
theorem cT.drop {μ:Mu}{a b:List Value}(h:cT μ a b)(n:Nat):cT μ (a.drop n) (b.drop n):=by
 refine⟨by simp[h.1],λj u hj=>?_⟩
 simp only[List.getElem?_drop] at hj ⊢;exact h.2 _ _ hj
theorem cT.take {μ:Mu}{a b:List Value}(h:cT μ a b)(n:Nat):cT μ (a.take n) (b.take n):=by
 refine⟨by simp[h.1],λj u hj=>?_⟩
 simp only[List.getElem?_take] at hj ⊢;split
 ·rename_i gB;rw[if_pos gB] at hj;exact h.2 _ _ hj
 ·rename_i gB;rw[if_neg gB] at hj;cases hj
theorem cT.set {μ:Mu}{a b:List Value}(h:cT μ a b){u v:Value}(k:VR μ u v)(n:Nat):cT μ (a.set n u) (b.set n v):=by
 refine⟨by simp[h.1],λj x hj=>?_⟩
 rw[List.getElem?_set] at hj ⊢;by_cases e:n=j
 ·subst e;rw[if_pos rfl] at hj ⊢;by_cases hl:n<a.length
  ·rw[if_pos hl] at hj;cases hj;exact⟨v,by rw[if_pos (by rw[←h.1];exact hl)],k⟩
  ·rw[if_neg hl] at hj;cases hj
 ·rw[if_neg e] at hj ⊢;exact h.2 _ _ hj
theorem cT.vL {μ:Mu}{c c':Array Value}(hc:c.size=c'.size)(h: ∀j (h:j<c.size) (h':j<c'.size),VR μ c[j] c'[j]):cT μ c.toList c'.toList:=by
 refine⟨by simpa using hc,λj u hj=>?_⟩
 obtain⟨fv,rfl⟩:=List.getElem?_eq_some_iff.1 hj;have h1:j<c.size:=by simpa using fv
 have h2:j<c'.size:=by omega
 exact⟨c'[j],by simp[h2],by simpa using h j h1 h2⟩
theorem cT.arr {μ:Mu}{c c':Array Value}(h:cT μ c.toList c'.toList):c.size=c'.size∧∀j (h:j<c.size) (h':j<c'.size),VR μ c[j] c'[j]:=by
 refine⟨by simpa using h.1,λj h1 h2=>?_⟩
 obtain⟨u',e,r⟩:=h.2 j c[j] (by simp[h1])
 simp[h2] at e;subst e;exact r
theorem cT.agg {μ:Mu}{c c':Array Value}(h:cT μ c.toList c'.toList):VR μ (.agg c) (.agg c'):=.agg c c' h.arr.1 h.arr.2
theorem cT.tuple {μ:Mu}{c c':Array Value}(h:cT μ c.toList c'.toList):VR μ (.tuple c) (.tuple c'):=.tuple c c' h.arr.1 h.arr.2
theorem cT.Mh {μ:Mu}{c c':List Value}(h:cT μ c c'):VR μ (.agg c.toArray) (.agg c'.toArray):=cT.agg (by simpa using h)
theorem VR.bool {μ:Mu}{b:Bool}{v:Value}(h:VR μ (.bool b) v):v= .bool b:=by cases h;rfl
theorem VR.int {μ:Mu}{k:IntKind}{n:Int}{v:Value}(h:VR μ (.int k n) v):v= .int k n:=by cases h;rfl
theorem VR.string {μ:Mu}{s:ByteArray}{v:Value}(h:VR μ (.string s) v):v= .string s:=by cases h;rfl
theorem VR.YG {μ:Mu}{v:Value}(h:VR μ (.pointer none) v):v= .pointer none:=by cases h;rfl
theorem VR.nilFunc {μ:Mu}{v:Value}(h:VR μ .nilFunc v):v= .nilFunc:=by cases h;rfl
theorem VR.mL {μ:Mu}{a:Addr}{v:Value}(h:VR μ (.pointer (some a)) v): ∃i off l,a=⟨i,off,none⟩∧μ i=some l∧v= .pointer (some ⟨l.b,l.o+off,none⟩):=by
 cases h with
 |plain _ h=>simp[cp] at h
 |ptr i off l h=>exact⟨i,off,l,rfl,h,rfl⟩
theorem VR.om {μ:Mu}{a:Option Addr}{v:Value}(h:VR μ (.pointer a) v): ∃a',v= .pointer a'∧a'.isNone=a.isNone:=by
 cases h with
 |plain _ h=>exact⟨_,rfl,rfl⟩
 |ptr i off l h=>exact⟨_,rfl,rfl⟩
theorem VR.gZ {μ:Mu}{n c:Nat}{v:Value}(h:VR μ (.slice none n c) v):n=0∧c=0∧v= .slice none 0 0:=by
 cases h with
 |plain _ h=>
  cases n<;>cases c<;>simp[cp] at h;exact⟨rfl,rfl,rfl⟩
theorem VR.eD {μ:Mu}{a:Addr}{n c:Nat}{v:Value}(h:VR μ (.slice (some a) n c) v):
  (∃i off eY l,a=⟨i,off,none⟩∧μ i=some l∧n≤c∧c≤eY∧l.o+off+eY*l.es≤l.sz∧v= .slice (some ⟨l.b,l.o+off,none⟩) n eY)∨
  (∃i off a',a=⟨i,off,none⟩∧n=0∧c=0∧v= .slice (some a') 0 0):=by
 cases h with
 |plain _ h=>simp[cp] at h
 |slice i off len cap eY l h h1 h2 h3=>exact .inl ⟨i,off,eY,l,rfl,h,h1,h2,h3,rfl⟩
 |lU i off a'=>exact .inr ⟨i,off,a',rfl,rfl,rfl,rfl⟩
theorem VR.eW {μ:Mu}{a:Option Addr}{n c:Nat}{v:Value}(h:VR μ (.slice a n c) v):n≤c∧∃a' c',v= .slice a' n c'∧a'.isNone=a.isNone∧c≤c':=by
 cases a with
 |none=>obtain⟨rfl,rfl,rfl⟩:=h.gZ;exact⟨Nat.le_refl _,none,0,rfl,rfl,Nat.le_refl _⟩
 |some a=>
  rcases h.eD with⟨i,off,eY,l,_,_,h1,h2,_,rfl⟩|⟨i,off,a',_,rfl,rfl,rfl⟩
  ·exact⟨h1,_,_,rfl,rfl,h2⟩
  ·exact⟨Nat.le_refl _,_,_,rfl,rfl,Nat.le_refl _⟩
theorem VR.oZ {μ:Mu}{c:Array Value}{v:Value}(h:VR μ (.agg c) v): ∃c',v= .agg c'∧cT μ c.toList c'.toList:=by
 cases h with
 |plain _ h=>simp[cp] at h
 |agg _ c' hc h=>exact⟨c',rfl,cT.vL hc h⟩
theorem VR.z8 {μ:Mu}{c:Array Value}{v:Value}(h:VR μ (.tuple c) v): ∃c',v= .tuple c'∧cT μ c.toList c'.toList:=by
 cases h with
 |plain _ h=>simp[cp] at h
 |tuple _ c' hc h=>exact⟨c',rfl,cT.vL hc h⟩
theorem VR.vM {μ:Mu}{fn:Fn}{f c:Array Value}{v:Value}(h:VR μ (.func fn f c) v)(hy:isY fn=false): ∃f' c',v= .func fn f' c'∧cT μ f.toList f'.toList∧cT μ c.toList c'.toList:=by
 cases h with
 |plain _ h=>simp[cp] at h
 |SS=>cases hy
 |func _ _ f' _ c' _ hf hc h1 h2=>exact⟨f',c',rfl,cT.vL hf h1,cT.vL hc h2⟩
theorem VR.qO {μ:Mu}{fn:Fn}{f c:Array Value}{v:Value}(h:VR μ (.func fn f c) v): ∃YH f' c',v= .func YH f' c':=by
 cases h with
 |plain _ h=>simp[cp] at h
 |SS=>exact⟨_,_,_,rfl⟩
 |func _ _ f' _ c' _ hf hc h1 h2=>exact⟨_,f',c',rfl⟩
theorem VR.PX {μ:Mu}{i:Nat}{f c:Array Value}{v:Value}(h:VR μ (.func (.yield i) f c) v):f= #[]∧c= #[]∧∃l,μ i=some l∧v= .func (.yield l.b) #[] #[]:=by
 cases h with
 |plain _ h=>simp[cp] at h
 |SS _ l h=>exact⟨rfl,rfl,l,h,rfl⟩
 |func _ _ f' _ c' hy hf hc h1 h2=>cases hy
theorem VR.closed {μ:Mu}{v:Value}(h:fJ v=true):VR μ v v:=by
 cases v with
 |agg cs=>
  simp only[fJ,List.all_eq_true] at h;refine .agg cs cs rfl λj h1 h2=>.plain _ (h _ ?_)
  simp
 |_=>exact .plain _ h
theorem cT.cells {μ:Mu}{v v':Value}(h:VR μ v v')(hk:known v=true):cT μ v.cells.toList v'.cells.toList:=by
 cases h with
 |Gn=>simp[known] at hk
 |plain v h=>
  have:VR μ v v:=.plain v h;cases v<;>first|exact cT.cons this .nil| (simp[cp] at h)
 |ptr i off l h=>exact cT.cons (.ptr i off l h) .nil
 |slice i off len cap eY l h h1 h2 h3=>exact cT.cons (.slice i off len cap eY l h h1 h2 h3) .nil
 |lU i off a=>exact cT.cons (.lU i off a) .nil
 |Be i l h=>exact cT.cons (.Be i l h) .nil
 |SS i l h=>exact cT.cons (.SS i l h) .nil
 |func fn f f' c c' hy hf hc h1 h2=>exact cT.cons (.func fn f f' c c' hy hf hc h1 h2) .nil
 |agg c c' hc h=>exact cT.vL hc h
 |tuple c c' hc h=>exact cT.cons (.tuple c c' hc h) .nil
theorem VR.aD {μ:Mu}{v v':Value}(h:VR μ v v')(hk:aD v=true):v'.oneCell'=true:=by
 cases h with
 |plain v h=>cases v<;>first|rfl| (simp[cp] at h)
 |_=>first|rfl| (simp[Am.aD] at hk)
theorem cT.C7 {μ:Mu}{l l':List Value}(h:cT μ l l')(hk:l.all aD=true): ∀v∈l',v.oneCell'=true:=by
 intro v hv;obtain⟨j,hj,rfl⟩:=List.getElem_of_mem hv;have y9:j<l.length:=by rw[h.1];exact hj
 obtain⟨u',e,r⟩:=h.2 j l[j] (List.getElem?_eq_getElem y9);rw[List.getElem?_eq_getElem hj] at e;cases e;exact r.aD (List.all_eq_true.1 hk _ (List.getElem_mem y9))
structure mr (μ:Mu) (w:World) (b:eM) (l:Loc):Prop where
 es:l.es=b.es
 one:b.cells.all aD=true
 spare:b.ro=false→∀(cs:Array Value) ty fz,w.heap[l.b]? =some (.cells cs ty fz)→∀(k:Nat) (v:Value),l.o+b.cells.length≤k→cs[k]? =some v→cp v=true
 row: ∃cs ty fz,w.heap[l.b]? =some (.cells cs ty fz)∧cs.size=l.sz∧(b.ro=false→fz=(0,0))∧l.o+b.cells.length≤cs.size∧
  cT μ b.cells ((cs.toList.drop l.o).take b.cells.length)
def gP (μ:Mu)(E:Nat→Value)(tmps:Array Value):Prop:=∀t,VR μ (E t) (tmps.getD t undef)
theorem gP.mono {μ μ':Mu}{E:Nat→Value}{tmps:Array Value}(h:gP μ E tmps)(hm:μ.le μ'):gP μ' E tmps:=λt=>(h t).mono hm
def abi (s:sH)(r:Loop):Prop:=match s with
 | .ready=>r.state= .ready∧r.pending=none
 | .busy=>r.state= .busy
 | .ret=>r.state= .done∧r.pending=some .ret
 | .exit id=>r.state= .done∧r.pending=some (.exit id)
def mu (P:Program)(μ:Mu)(w:World):dA→Nat→Prop
 | .loop L s,b=>∃r N,w.heap[b]? =some (.loop r)∧r.params=L.ps∧r.assign=L.assign∧r.body=L.body∧N≤r.tmps.size∧iI P N (.rangeFunc (.global 0) L.ps L.assign L.body)=true∧gP μ (Env.get (L.keep.zip L.vs)) r.tmps∧abi s r
 | .EE k es,b=>∃ms clock,w.heap[b]? =some (.map ms clock)∧(ms.toList.map (·.key))=es.map (λe=>Value.int k e.1)∧cT μ (es.map (·.2)) (ms.toList.map (·.val))
theorem mu.at {P:Program}{μ:Mu}{w:World}{o:dA}{b:Nat}(h:mu P μ w o b): ∃x,w.heap[b]? =some x∧x.isCells=false:=by
 cases o with
 |loop L s=>obtain⟨r,N,h1,_⟩:=h;exact⟨_,h1,rfl⟩
 |EE k es=>obtain⟨ms,c,h1,_⟩:=h;exact⟨_,h1,rfl⟩
theorem mu.mono {P:Program}{μ μ':Mu}(hm:μ.le μ'){w:World}{o:dA}{b:Nat}(h:mu P μ w o b):mu P μ' w o b:=by
 cases o with
 |loop L s=>obtain⟨r,N,h1,h2,h3,h4,h5,h6,h7,h8⟩:=h;exact⟨r,N,h1,h2,h3,h4,h5,h6,h7.mono hm,h8⟩
 |EE k es=>obtain⟨ms,c,h1,h2,h3⟩:=h;exact⟨ms,c,h1,h2,h3.mono hm⟩
theorem mu.heap {P:Program}{μ:Mu}{w w':World}{o:dA}{b:Nat}(h:mu P μ w o b)(e:w'.heap[b]? =w.heap[b]?):mu P μ w' o b:=by
 cases o with
 |loop L s=>obtain⟨r,N,h1,h2⟩:=h;exact⟨r,N,by rw[e];exact h1,h2⟩
 |EE k es=>obtain⟨ms,c,h1,h2⟩:=h;exact⟨ms,c,by rw[e];exact h1,h2⟩
theorem mu.lt {P:Program}{μ:Mu}{w:World}{o:dA}{b:Nat}(h:mu P μ w o b):b<w.heap.size:=by
 obtain⟨x,h1,_⟩:=h.at;exact(Array.getElem?_eq_some_iff.1 h1).1
structure Oth (P:Program) (μ:Mu) (H:aa) (w:World) (B:Nat):Prop where
 ok: ∀i o,H.dT i=some o→∃l,μ i=some l∧B≤l.b∧mu P μ w o l.b
 inj: ∀i j o p l m,H.dT i=some o→H.dT j=some p→μ i=some l→μ j=some m→i≠j→l.b≠m.b
theorem Oth.keep {P:Program}{μ μ':Mu}{H H':aa}{w w':World}{B:Nat}(h:Oth P μ H w B)(hm:μ.le μ')(hH: ∀i o,H'.dT i=some o→H.dT i=some o)(hw: ∀(b:Nat) (x:Obj),w.heap[b]? =some x→x.isCells=false→w'.heap[b]? =some x):Oth P μ' H' w' B:=by
 refine⟨λi o hi=>?_,λi j o p l m hi hj hl PA LO=>?_⟩
 ·obtain⟨l,h1,h2,h3⟩:=h.ok i o (hH i o hi);obtain⟨x,h4,h5⟩:=h3.at;exact⟨l,hm _ _ h1,h2,(h3.mono hm).heap (by rw[h4];exact hw _ _ h4 h5)⟩
 ·obtain⟨l1,k1,_⟩:=h.ok i o (hH i o hi);obtain⟨m1,k2,_⟩:=h.ok j p (hH j p hj);have e1:=hm _ _ k1;rw[hl] at e1;cases e1;have e2:=hm _ _ k2;rw[PA] at e2;cases e2;exact h.inj i j o p l m (hH i o hi) (hH j p hj) k1 k2 LO
structure cJ (P:Program) (μ:Mu) (H:aa) (w:World) (B:Nat):Prop where
 base:B≤w.heap.size
 ok: ∀i b,H.get i=some b→∃l,μ i=some l∧mr μ w b l
 Bf: ∀i,H.length≤i→μ i=none
 inj: ∀i j b c l m,H.get i=some b→H.get j=some c→μ i=some l→μ j=some m→i≠j→b.ro=false→l.b≠m.b
 own: ∀i b l,H.get i=some b→b.ro=false→μ i=some l→B≤l.b
 dT:Oth P μ H w B
 vN: ∀i,H[i]? =some .hole→μ i=none
theorem mr.mono {μ μ':Mu}(hm:μ.le μ'){w:World}{b:eM}{l:Loc}(h:mr μ w b l):mr μ' w b l:=
 ⟨h.es,h.one,h.spare,let ⟨cs,ty,fz,h1,h2,h3,h4,h5⟩:=h.row;⟨cs,ty,fz,h1,h2,h3,h4,h5.mono hm⟩⟩
theorem mr.heap {μ:Mu}{w w':World}{b:eM}{l:Loc}(h:mr μ w b l)(e:w'.heap[l.b]? =w.heap[l.b]?):mr μ w' b l:=
 ⟨h.es,h.one,by rw[e];exact h.spare,let ⟨cs,ty,fz,h1,h2⟩:=h.row;⟨cs,ty,fz,by rw[e];exact h1,h2⟩⟩
theorem mr.lt {μ:Mu}{w:World}{b:eM}{l:Loc}(h:mr μ w b l):l.b<w.heap.size:=by
 obtain⟨cs,ty,fz,h1,_⟩:=h.row;exact(Array.getElem?_eq_some_iff.1 h1).1
theorem aa.qP {H:aa}{i:Nat}{b:eM}:H.get i=some b↔H[i]? =some (.y7 b):=by
 unfold aa.get;split
 ·rename_i c h;rw[h];simp
 ·rename_i h;constructor
  ·intro e;cases e
  ·intro e;exact absurd e (h b)
theorem aa.qQ {H:aa}{i:Nat}{o:dA}:H.dT i=some o↔H[i]? =some (.dT o):=by
 unfold aa.dT;split
 ·rename_i c h;rw[h];simp
 ·rename_i h;constructor
  ·intro e;cases e
  ·intro e;exact absurd e (h o)
theorem aa.get_congr {H H':aa}{i j:Nat}(h:H[i]? =H'[j]?):H.get i=H'.get j:=by unfold aa.get;rw[h]
theorem aa.jC {H H':aa}{i j:Nat}(h:H[i]? =H'[j]?):H.dT i=H'.dT j:=by unfold aa.dT;rw[h]
theorem aa.ar {H:aa}{i:Nat}{b:eM}(h:H.get i=some b):i<H.length:=by
 exact(List.getElem?_eq_some_iff.1 (aa.qP.1 h)).1
theorem aa.vO {H:aa}{i:Nat}{o:dA}(h:H.dT i=some o):i<H.length:=by
 exact(List.getElem?_eq_some_iff.1 (aa.qQ.1 h)).1
theorem aa.qo {H:aa}{i:Nat}{b:eM}(h:H.get i=some b):H.dT i=none:=by
 rw[aa.qP] at h;unfold aa.dT;rw[h]
theorem aa.qp {H:aa}{i:Nat}{o:dA}(h:H.dT i=some o):H.get i=none:=by
 rw[aa.qQ] at h;unfold aa.get;rw[h]
theorem aa.tN {H:aa}{b:eM}{i:Nat}(h:i<H.length):(H.new b).get i=H.get i:=aa.get_congr (List.getElem?_append_left h)
theorem aa.kB {H:aa}{b:eM}:(H.new b).get H.length=some b:=by
 rw[aa.qP];unfold aa.new;simp
theorem aa.kL {H:aa}{b:eM}:(H.new b).length=H.length+1:=by simp[aa.new]
theorem aa.oo {H:aa}{o:dA}:(H.jZ o).length=H.length+1:=by simp[aa.jZ]
theorem aa.aL {H:aa}{b c:eM}{i:Nat}(h:(H.new b).get i=some c):(i=H.length∧c=b)∨(i<H.length∧H.get i=some c):=by
 have hl:=aa.ar h;rw[aa.kL] at hl;by_cases e:i=H.length
 ·subst e;rw[aa.kB] at h;exact .inl ⟨rfl,by cases h;rfl⟩
 ·right;rw[aa.tN (by omega)] at h;exact⟨by omega,h⟩
theorem aa.Bg {H:aa}{b:eM}{i:Nat}{o:dA}(h:(H.new b).dT i=some o):H.dT i=some o:=by
 have hl:=aa.vO h;rw[aa.kL] at hl;by_cases e:i=H.length
 ·subst e;rw[aa.qo aa.kB] at h;cases h
 ·rw[←h];exact aa.jC (List.getElem?_append_left (by omega)).symm
theorem aa.pU {H:aa}{o:dA}:(H.jZ o).dT H.length=some o:=by
 rw[aa.qQ];unfold aa.jZ;simp
theorem aa.vP {H:aa}{o p:dA}{i:Nat}(h:(H.jZ o).dT i=some p):(i=H.length∧p=o)∨(i<H.length∧H.dT i=some p):=by
 have hl:=aa.vO h;rw[aa.oo] at hl;by_cases e:i=H.length
 ·subst e;rw[aa.pU] at h;exact .inl ⟨rfl,by cases h;rfl⟩
 ·right;refine⟨by omega,?_⟩;rw[←h];exact aa.jC (List.getElem?_append_left (by omega)).symm
theorem aa.qR {H:aa}{o:dA}{b:eM}{i:Nat}(h:(H.jZ o).get i=some b):H.get i=some b:=by
 have hl:=aa.ar h;rw[aa.oo] at hl;by_cases e:i=H.length
 ·subst e;rw[aa.qp aa.pU] at h;cases h
 ·rw[←h];exact aa.get_congr (List.getElem?_append_left (by omega)).symm
theorem aa.EM {H:aa}{b:eM}{i:Nat}:(H.put i b).length=H.length:=by simp[aa.put]
theorem aa.C8 {H:aa}{o:dA}{i:Nat}:(H.jA i o).length=H.length:=by simp[aa.jA]
theorem aa.fQ {H:aa}{i:Nat}:(H.kill i).length=H.length:=by simp[aa.kill]
theorem aa.iZ {H:aa}{b:eM}{i:Nat}(h:i<H.length):(H.put i b).get i=some b:=by
 rw[aa.qP];unfold aa.put;simp[h]
theorem aa.bt {H:aa}{b:eM}{i j:Nat}(h:j≠i):(H.put i b).get j=H.get j:=aa.get_congr (List.getElem?_set_ne (Ne.symm h))
theorem aa.PY {H:aa}{b c:eM}{i j:Nat}{o:dA}(hb:H.get i=some b)(h:(H.put i c).dT j=some o):H.dT j=some o:=by
 by_cases e:j=i
 ·subst e;rw[aa.qo (aa.iZ (aa.ar hb))] at h;cases h
 ·rw[←h];exact aa.jC (List.getElem?_set_ne (Ne.symm e)).symm
theorem aa.pV {H:aa}{o:dA}{i:Nat}(h:i<H.length):(H.jA i o).dT i=some o:=by
 rw[aa.qQ];unfold aa.jA;simp[h]
theorem aa.tO {H:aa}{o:dA}{i j:Nat}(h:j≠i):(H.jA i o).dT j=H.dT j:=aa.jC (List.getElem?_set_ne (Ne.symm h))
theorem aa.vQ {H:aa}{o p:dA}{i j:Nat}(ho:H.dT i=some o):(H.jA i p).get j=H.get j:=by
 by_cases e:j=i
 ·subst e;rw[aa.qp (aa.pV (aa.vO ho)),aa.qp ho]
 ·exact aa.get_congr (List.getElem?_set_ne (Ne.symm e))
theorem aa.lV {H:aa}{i:Nat}:(H.kill i).get i=none:=by
 unfold aa.get aa.kill;by_cases h:i<H.length
 ·simp[h]
 ·rw[List.getElem?_eq_none (by simp;omega)]
theorem aa.pW {H:aa}{i:Nat}:(H.kill i).dT i=none:=by
 unfold aa.dT aa.kill;by_cases h:i<H.length
 ·simp[h]
 ·rw[List.getElem?_eq_none (by simp;omega)]
theorem aa.iP {H:aa}{i j:Nat}(h:j≠i):(H.kill i).get j=H.get j:=aa.get_congr (List.getElem?_set_ne (Ne.symm h))
theorem aa.C9 {H:aa}{i j:Nat}(h:j≠i):(H.kill i).dT j=H.dT j:=aa.jC (List.getElem?_set_ne (Ne.symm h))
theorem aa.oq {H:aa}{i j:Nat}{o:dA}(h:(H.kill i).dT j=some o):H.dT j=some o:=by
 by_cases e:j=i
 ·subst e;rw[aa.pW] at h;cases h
 ·rw[←h,aa.C9 e]
theorem aa.qS {H:aa}{i j:Nat}{b:eM}(h:(H.kill i).get j=some b):H.get j=some b:=by
 by_cases e:j=i
 ·subst e;rw[aa.lV] at h;cases h
 ·rw[←h,aa.iP e]
theorem aa.vR {H:aa}{b:eM}{i:Nat}(h:(H.new b)[i]? =some .hole):H[i]? =some .hole∧i<H.length:=by
 have hl:=(List.getElem?_eq_some_iff.1 h).1;unfold aa.new at h hl;by_cases e:i<H.length
 ·rw[List.getElem?_append_left e] at h;exact⟨h,e⟩
 ·have:i=H.length:=by simp at hl;omega
  subst this;simp at h
theorem aa.IM {H:aa}{o:dA}{i:Nat}(h:(H.jZ o)[i]? =some .hole):H[i]? =some .hole∧i<H.length:=by
 have hl:=(List.getElem?_eq_some_iff.1 h).1;unfold aa.jZ at h hl;by_cases e:i<H.length
 ·rw[List.getElem?_append_left e] at h;exact⟨h,e⟩
 ·have:i=H.length:=by simp at hl;omega
  subst this;simp at h
theorem qT {H:aa}{s:Slot}{i j:Nat}(hs:s≠ .hole)(h:(H.set j s)[i]? =some .hole):H[i]? =some .hole∧i≠j:=by
 by_cases e:j=i
 ·subst e;rw[List.getElem?_set] at h;simp only[if_true] at h;split at h
  ·cases h;exact absurd rfl hs
  ·cases h
 ·rw[List.getElem?_set_ne e] at h;exact⟨h,Ne.symm e⟩
theorem aa.Mi {H:aa}{b:eM}{i j:Nat}(h:(H.put j b)[i]? =some .hole):H[i]? =some .hole∧i≠j:=qT (by simp) h
theorem aa.IN {H:aa}{o:dA}{i j:Nat}(h:(H.jA j o)[i]? =some .hole):H[i]? =some .hole∧i≠j:=qT (by simp) h
theorem aa.sL {H:aa}{i j:Nat}(h:(H.kill j)[i]? =some .hole):H[i]? =some .hole∧i≠j:=qT (by simp) h
theorem cJ.heap {P:Program}{μ:Mu}{H:aa}{w w':World}{B:Nat}(h:cJ P μ H w B)(e:w'.heap=w.heap):cJ P μ H w' B:=
 ⟨by rw[e];exact h.base,λi b hb=>let ⟨l,h1,h2⟩:=h.ok i b hb;⟨l,h1,h2.heap (by rw[e])⟩,h.Bf,h.inj,h.own,h.dT.keep μ.le_refl (λ_ _ h=>h) (λb x hb _=>by rw[e];exact hb),h.vN⟩
theorem cJ.alloc {P:Program}{μ:Mu}{H:aa}{w:World}{B:Nat}(h:cJ P μ H w B)(cs:List Value)(ty t:TypeId)(es:Nat)(eX:Array Value)(n:Nat)(hn:n=eX.size)(PZ:cs.all aD=true)(hle:cs.length≤eX.size)(hv:cT μ cs (eX.toList.take cs.length))(Ub: ∀(k:Nat) (v:Value),cs.length≤k→eX[k]? =some v→cp v=true):
  μ.le (μ.up H.length ⟨w.heap.size,0,n,es⟩)∧cJ P (μ.up H.length ⟨w.heap.size,0,n,es⟩) (H.new ⟨cs,t,es,false⟩) (w.alloc (.cells eX ty)) B:=by
 subst hn;have lW:=Mu.C6 (l:=⟨w.heap.size,0,eX.size,es⟩) (h.Bf H.length (Nat.le_refl _));refine⟨lW,by have:=h.base;simp;omega,?_,?_,?_,?_,h.dT.keep lW (λ_ _=>aa.Bg) (λb x hb _=>(Go.RowKit.Below.heap_alloc _ _ _ (Array.getElem?_eq_some_iff.1 hb).1).trans hb),λi hi=>by obtain⟨h1,h2⟩:=aa.vR hi;rw[Mu.dL (by omega)];exact h.vN i h1⟩
 ·intro i b hb;rcases aa.aL hb with⟨rfl,rfl⟩|⟨hi,hb⟩
  ·have qU:(w.heap.push (.cells eX ty (0,0)))[w.heap.size]? =some (.cells eX ty (0,0)):=by simp
   refine⟨_,Mu.aP,rfl,PZ,(λ_ SU nE Uc h2 k v hk CW=>?_),eX,ty,(0,0),?_,rfl,λ_=>rfl,by simpa using hle,?_⟩
   ·have YI:(w.heap.push (.cells eX ty (0,0)))[w.heap.size]? =some (.cells SU nE Uc):=h2;rw[qU] at YI;cases YI;exact Ub k v (by simpa using hk) CW
   ·show(w.heap.push _)[w.heap.size]? =_;simp
   ·simpa using hv.mono lW
  ·obtain⟨l,h1,h2⟩:=h.ok i b hb;refine⟨l,lW _ _ h1,(h2.mono lW).heap ?_⟩;exact Go.RowKit.Below.heap_alloc _ _ _ h2.lt
 ·intro i hi;rw[aa.kL] at hi;rw[Mu.dL (by omega)];exact h.Bf i (by omega)
 ·intro i j b c l m hb hc hl hm LO iB;rcases aa.aL hb with⟨rfl,rfl⟩|⟨hi,hb⟩<;>rcases aa.aL hc with⟨rfl,rfl⟩|⟨hj,hc⟩
  ·exact absurd rfl LO
  ·rw[Mu.aP] at hl;cases hl;rw[Mu.dL (by omega)] at hm
   obtain⟨m',e,k⟩:=h.ok j c hc;rw[hm] at e;cases e;have:=k.lt;show w.heap.size≠m.b;omega
  ·rw[Mu.aP] at hm;cases hm;rw[Mu.dL (by omega)] at hl
   obtain⟨l',e,k⟩:=h.ok i b hb;rw[hl] at e;cases e;have:=k.lt;show l.b≠w.heap.size;omega
  ·rw[Mu.dL (by omega)] at hl hm
   exact h.inj i j b c l m hb hc hl hm LO iB
 ·intro i b l hb iB hl;rcases aa.aL hb with⟨rfl,rfl⟩|⟨hi,hb⟩
  ·rw[Mu.aP] at hl;cases hl;exact h.base
  ·rw[Mu.dL (by omega)] at hl;exact h.own i b l hb iB hl
end Go.Proofs.YtgfgglponbmgmaaGreatA.Am
end
section
namespace Go.Proofs.YtgfgglponbmgmaaGreatA.Am
open Go.RowKit (Below)
structure eN (B:Nat) (w w':World):Prop where
 below:Below B w w'
 loops: ∀(b:Nat) (r:Loop),w.heap[b]? =some (.loop r)→∃r',w'.heap[b]? =some (.loop r')∧r'.defers=r.defers
 YJ: ∀(b:Nat),w.heap[b]? =some (.deferred (some []))→w'.heap[b]? =some (.deferred (some []))
 size:w.heap.size≤w'.heap.size
theorem eN.qV {B:Nat}{w w':World}(h:Below B w w')(k:KeepsOthers w w'):eN B w w':=
 ⟨h,λ_ r hb=>⟨r,k.same _ _ hb rfl,rfl⟩,λ_ hb=>k.same _ _ hb rfl,k.size⟩
theorem eN.refl (B:Nat)(w:World):eN B w w:=.qV (Below.refl _ _) (KeepsOthers.refl _)
theorem eN.trans {B:Nat}{w w1 w2:World}(h:eN B w w1)(k:eN B w1 w2):eN B w w2:=
 ⟨h.below.trans k.below,λb r hb=>by
  obtain⟨r1,h1,e1⟩:=h.loops b r hb;obtain⟨r2,h2,e2⟩:=k.loops b r1 h1;exact⟨r2,h2,e2.trans e1⟩,λb hb=>k.YJ b (h.YJ b hb),Nat.le_trans h.size k.size⟩
theorem eN.drew {B:Nat}{w w1:World}(h:eN B w w1):eN B w w1.drew:=h.trans (.qV ((Below.refl _ _).drew) (KeepsOthers.drew _))
theorem eN.alloc {B:Nat}{w w1:World}(h:eN B w w1)(hB:B≤w1.heap.size)(o:Obj):eN B w (w1.alloc o):=h.trans (.qV ((Below.refl _ _).alloc hB o) (KeepsOthers.alloc _ _))
theorem ja (b o j:Nat):(⟨b,o,none⟩:Addr).add j=⟨b,o+j,none⟩:=by unfold Addr.add;split<;>simp_all
theorem cJ.ld {P:Program}{μ:Mu}{H:aa}{w:World}{B i off:Nat}{b:eM}{l:Loc}{v:Value}(h:cJ P μ H w B)(hb:H.get i=some b)(hl:μ i=some l)(hv:b.cells[off]? =some v): ∃v',w.cell? ⟨l.b,l.o+off,none⟩=some v'∧VR μ v v':=by
 obtain⟨l',e,k⟩:=h.ok i b hb;rw[hl] at e;cases e;obtain⟨cs,ty,fz,h1,h2,h3,h4,h5⟩:=k.row;obtain⟨v',e,r⟩:=h5.2 off v hv;refine⟨v',?_,r⟩;have gB:off<b.cells.length:=(List.getElem?_eq_some_iff.1 hv).1;rw[List.getElem?_take,if_pos gB,List.getElem?_drop] at e;simp only[World.cell?,h1];simpa using e
theorem cJ.aR {P:Program}{μ:Mu}{H:aa}{w:World}{B i off n:Nat}{l:Loc}{vs:List Value}(h:cJ P μ H w B)(hl:μ i=some l)(hv:Am.aR H i off n=some vs):vs.length=n∧∃iU,cT μ vs iU∧∀(j:Nat) (v:Value),iU[j]? =some v→w.cell? ((⟨l.b,l.o+off,none⟩:Addr).add j)=some v:=by
 unfold Am.aR at hv;cases hb:H.get i with
 |none=>rw[hb] at hv;cases hv
 |some b=>
  rw[hb] at hv;simp only at hv;split at hv
  ·rename_i hle;cases hv;obtain⟨l',e,k⟩:=h.ok i b hb;rw[hl] at e;cases e;obtain⟨cs,ty,fz,h1,h2,h3,h4,h5⟩:=k.row;refine⟨by simp;omega,_,(h5.drop off).take n,λj v hj=>?_⟩
   rw[ja];rw[List.getElem?_take] at hj;split at hj
   ·rename_i hjn;rw[List.getElem?_drop,List.getElem?_take] at hj;split at hj
    ·rw[List.getElem?_drop] at hj;simp only[World.cell?,h1];simpa[Nat.add_assoc] using hj
    ·cases hj
   ·cases hj
  ·cases hv
theorem cJ.Mj {P:Program}{μ:Mu}{H:aa}{w:World}{B i off n:Nat}{vs:List Value}(h:cJ P μ H w B)(hv:Am.aR H i off n=some vs):vs.all aD=true:=by
 unfold Am.aR at hv;cases hb:H.get i with
 |none=>rw[hb] at hv;cases hv
 |some b=>
  rw[hb] at hv;simp only at hv;split at hv
  ·cases hv;obtain⟨l,_,k⟩:=h.ok i b hb;have:=k.one
   rw[List.all_eq_true] at this ⊢;intro x hx;exact this x (List.mem_of_mem_drop (List.mem_of_mem_take hx))
  ·cases hv
theorem sM: ∀(vs cs:List Value) (off:Nat),off+vs.length≤cs.length→dt cs off vs=cs.take off++vs++cs.drop (off+vs.length)
 | [],cs,off,_=>by simp[dt]
 |v::r,cs,off,h=>by
  simp only[List.length_cons] at h;rw[dt,sM r (cs.set off v) (off+1) (by simp;omega)]
  have e1:(cs.set off v).take (off+1)=cs.take off++[v]:=by
   rw[List.take_set,List.take_succ_eq_append_getElem (by omega)]
   rw[List.set_append_right _ _ (by simp;omega)]
   simp[Nat.min_eq_left (show off≤cs.length by omega)]
  have e2:(cs.set off v).drop (off+1+r.length)=cs.drop (off+(v::r).length):=by
   rw[List.drop_set_of_lt (by omega)]
   congr 1;simp;omega
  rw[e1,e2];simp
theorem vS {f:Value→Bool}: ∀(vs cs:List Value) (off:Nat),cs.all f=true→vs.all f=true→(dt cs off vs).all f=true
 | [],cs,off,h,_=>h
 |v::r,cs,off,h,k=>by
  rw[dt];simp only[List.all_cons,Bool.and_eq_true] at k;refine vS r _ _ ?_ k.2;rw[List.all_eq_true] at h ⊢;intro x hx;rcases List.mem_or_eq_of_mem_set hx with hx|rfl
  ·exact h x hx
  ·exact k.1
theorem lX {vs cs:List Value}{off:Nat}(h:off+vs.length≤cs.length):(dt cs off vs).length=cs.length:=by
 rw[sM _ _ _ h];simp;omega
theorem Da {P:Program}{μ:Mu}{H:aa}{w w':World}{B i:Nat}{b:eM}{l:Loc}(hb:H.get i=some b)(hl:μ i=some l)(h:cJ P μ H w B)(hw: ∀k,k≠l.b→w'.heap[k]? =w.heap[k]?)(k:Nat)(x:Obj)(hk:w.heap[k]? =some x)(hx:x.isCells=false):w'.heap[k]? =some x:=by
 rw[hw k ?_];exact hk;rintro rfl;obtain⟨l',e,ko⟩:=h.ok i b hb;rw[hl] at e;cases e;obtain⟨cs,ty,fz,h1,_⟩:=ko.row;rw[h1] at hk;cases hk;cases hx
theorem cJ.put {P:Program}{μ:Mu}{H:aa}{w w':World}{B i:Nat}{b b':eM}{l:Loc}(h:cJ P μ H w B)(hb:H.get i=some b)(iB:b.ro=false)(hl:μ i=some l)(hw: ∀k,k≠l.b→w'.heap[k]? =w.heap[k]?)(hs:w'.heap.size=w.heap.size)(adi:b'.ro=false)(eA:mr μ w' b' l):cJ P μ (H.put i b') w' B:=by
 have hi:=aa.ar hb;refine⟨by rw[hs];exact h.base,?_,λk hk=>h.Bf k (by rw[aa.EM] at hk;exact hk),?_,?_,h.dT.keep μ.le_refl (λ_ _=>aa.PY hb) (Da hb hl h hw),λk hk=>h.vN k (aa.Mi hk).1⟩
 ·intro j c hc;by_cases e:j=i
  ·subst e;rw[aa.iZ hi] at hc;cases hc;exact⟨l,hl,eA⟩
  ·rw[aa.bt e] at hc;obtain⟨m,hm,k⟩:=h.ok j c hc;exact⟨m,hm,k.heap (hw _ (Ne.symm (h.inj i j b c l m hb hc hl hm (Ne.symm e) iB)))⟩
 ·intro j k c d m n hc hd hm hn z9 Db;by_cases e:j=i
  ·subst e;rw[aa.iZ hi] at hc;cases hc;rw[aa.bt (Ne.symm z9)] at hd;exact h.inj j k b d m n hb hd hm hn z9 iB
  ·rw[aa.bt e] at hc;by_cases e2:k=i
   ·subst e2;exact h.inj j k c b m n hc hb hm hn z9 Db
   ·rw[aa.bt e2] at hd;exact h.inj j k c d m n hc hd hm hn z9 Db
 ·intro j c m hc Db hm;by_cases e:j=i
  ·subst e;exact h.own j b m hb iB hm
  ·rw[aa.bt e] at hc;exact h.own j c m hc Db hm
theorem cJ.move {P:Program}{μ:Mu}{H:aa}{w w':World}{B i:Nat}{b b':eM}{l l':Loc}(h:cJ P μ H w B)(hb:H.get i=some b)(iB:b.ro=false)(hl:μ i=some l)(hlb:l'.b=l.b)(hw: ∀k,k≠l.b→w'.heap[k]? =w.heap[k]?)(hs:w'.heap.size=w.heap.size)(eA:mr μ w' b' l'):
  μ.le (μ.up H.length l')∧cJ P (μ.up H.length l') ((H.kill i).new b') w' B:=by
 have hi:=aa.ar hb;have hle:=Mu.C6 (l:=l') (h.Bf H.length (Nat.le_refl _));have old: ∀{j:Nat} {c:eM},((H.kill i).new b').get j=some c→(j=H.length∧c=b')∨(j<H.length∧j≠i∧H.get j=some c):=by
  intro j c hc;rcases aa.aL hc with⟨e,e'⟩|⟨hj,hc⟩
  ·rw[aa.fQ] at e;exact .inl ⟨e,e'⟩
  ·rw[aa.fQ] at hj;by_cases e:j=i
   ·subst e;rw[aa.lV] at hc;cases hc
   ·rw[aa.iP e] at hc;exact .inr ⟨hj,e,hc⟩
 refine⟨hle,by rw[hs];exact h.base,?_,?_,?_,?_,h.dT.keep hle (λ_ _ hk=>aa.oq (aa.Bg hk)) (Da hb hl h hw),λk hk=>by obtain⟨h1,h2⟩:=aa.vR hk;rw[aa.fQ] at h2;rw[Mu.dL (by omega)];exact h.vN k (aa.sL h1).1⟩
 ·intro j c hc;rcases old hc with⟨rfl,rfl⟩|⟨hj,e,hc⟩
  ·exact⟨l',Mu.aP,eA.mono hle⟩
  ·obtain⟨m,hm,k⟩:=h.ok j c hc;exact⟨m,hle _ _ hm,(k.heap (hw _ (Ne.symm (h.inj i j b c l m hb hc hl hm (Ne.symm e) iB)))).mono hle⟩
 ·intro j hj;rw[aa.kL,aa.fQ] at hj;rw[Mu.dL (by omega)];exact h.Bf j (by omega)
 ·intro j k c d m n hc hd hm hn z9 Db;rcases old hc with⟨rfl,rfl⟩|⟨hj,e,YK⟩<;>rcases old hd with⟨rfl,rfl⟩|⟨hk,e2,hd1⟩
  ·exact absurd rfl z9
  ·rw[Mu.aP] at hm;cases hm;rw[Mu.dL (by omega)] at hn
   rw[hlb];exact h.inj i k b d l n hb hd1 hl hn (Ne.symm e2) iB
  ·rw[Mu.aP] at hn;cases hn;rw[Mu.dL (by omega)] at hm
   rw[hlb];exact λx=>h.inj i j b c l m hb YK hl hm (Ne.symm e) iB x.symm
  ·rw[Mu.dL (by omega)] at hm hn
   exact h.inj j k c d m n YK hd1 hm hn z9 Db
 ·intro j c m hc Db hm;rcases old hc with⟨rfl,rfl⟩|⟨hj,e,hc⟩
  ·rw[Mu.aP] at hm;cases hm;rw[hlb];exact h.own i b l hb iB hl
  ·rw[Mu.dL (by omega)] at hm;exact h.own j c m hc Db hm
theorem qW {w:World}{g B:Nat}{cs:Array Value}(h:B≤g)(hg: ∀o,w.heap[g]? =some o→o.isCells=true):eN B w (w.setRow g cs):=
 .qV ⟨rfl,rfl,rfl,by simp[World.setRow],λk hk=>setRow_other w g k cs (by omega)⟩ ⟨by simp[World.setRow],λk o hk ho=>by
  by_cases e:k=g
  ·subst e;rw[hg o hk] at ho;cases ho
  ·rw[setRow_other w g k cs e];exact hk⟩
theorem setRow_size (w:World)(g:Nat)(cs:Array Value):(w.setRow g cs).heap.size=w.heap.size:=by simp[World.setRow]
theorem cJ.st {P:Program}{μ:Mu}{H H':aa}{w:World}{B i off:Nat}{l:Loc}{vs iU:List Value}(h:cJ P μ H w B)(hl:μ i=some l)(mj:bW H i off vs=some H')(hv:cT μ vs iU):
  ∃w',(storeCells ⟨l.b,l.o+off,none⟩ iU).run P w= .ok () w'∧cJ P μ H' w' B∧eN B w w':=by
 unfold bW at mj;cases hb:H.get i with
 |none=>rw[hb] at mj;cases mj
 |some b=>
  rw[hb] at mj;simp only at mj;split at mj
  ·rename_i hc;cases mj;simp only[Bool.and_eq_true,Bool.not_eq_true',decide_eq_true_eq] at hc;obtain⟨⟨iB,hle⟩,zj⟩:=hc;obtain⟨l',e,k⟩:=h.ok i b hb;rw[hl] at e;cases e;obtain⟨cs,ty,fz,h1,h2,h3,h4,h5⟩:=k.row;obtain rfl:=h3 iB;have hlen:=hv.1;have dF:=run_storeCells_at (P:=P) l.b (l.o+off) ty iU 0 cs w h1 (by omega) (hv.C7 zj)
   refine⟨_,dF,?_,qW (h.own i b l hb iB hl) (λo ho=>by rw[h1] at ho;cases ho;rfl)⟩
   refine h.put hb iB hl (λk hk=>setRow_other w l.b k _ hk) (setRow_size _ _ _) iB ?_
   refine⟨k.es,vS _ _ _ k.one zj,?_,_,ty,(0,0),setRow_heap w l.b cs _ ty (0,0) h1,?_,λ_=>rfl,?_,?_⟩
   ·intro _ SU nE Uc g2 j v hj CW;rw[setRow_heap w l.b cs _ ty (0,0) h1] at g2;cases g2;simp only[lX hle] at hj;refine k.spare iB cs ty (0,0) h1 j v hj ?_;have qX:cs.toList.length=cs.size:=by simp
    rw[←CW];simp only[Nat.add_zero,List.getElem?_toArray,List.getElem?_append,List.length_append,List.length_take,qX,List.getElem?_drop];rw[if_neg (by omega), ←Array.getElem?_toList]
    congr 1;omega
   ·simp;omega
   ·simp only[lX hle];simp;omega
   ·simp only[lX hle];rw[sM _ _ _ hle];have e:(((cs.toList.take (l.o+off+0)++iU++cs.toList.drop (l.o+off+0+iU.length)).toArray.toList.drop l.o).take b.cells.length)=
      ((cs.toList.drop l.o).take b.cells.length).take off++iU++((cs.toList.drop l.o).take b.cells.length).drop (off+vs.length):=by
     apply List.ext_getElem?;intro j;have qX:cs.toList.length=cs.size:=by simp
     simp only[Nat.add_zero,List.getElem?_take,List.getElem?_drop,List.getElem?_append,List.length_append,List.length_take,List.length_drop,qX];by_cases hj:j<b.cells.length
     ·rw[if_pos hj];by_cases h1:j<off
      ·rw[if_pos (by omega),if_pos (by omega),if_pos (by omega),if_pos (by omega),if_pos (by omega),if_pos h1,if_pos hj]
      ·by_cases h2:j<off+iU.length
       ·rw[if_pos (by omega),if_neg (by omega),if_pos (by omega),if_neg (by omega)]
        congr 1;omega
       ·rw[if_neg (by omega),if_neg (by omega),if_pos (by omega)]
        congr 1;omega
     ·rw[if_neg hj,if_neg (by omega),if_neg (by omega)]
    rw[e];exact((h5.take off).append hv).append (h5.drop (off+vs.length))
  ·cases mj
variable {P:Program} {μ:Mu} {H H':aa} {w:World} {B:Nat}
theorem eh {t:TypeId}{n:Nat}(h:jB P t=some n)(w:World):(sizeOf t).run P w= .ok n w:=by
 unfold jB at h;cases hi:P.info? t with
 |none=>rw[hi] at h;cases h
 |some i=>rw[hi] at h;cases h;simp[sizeOf,typeInfo,hi]
theorem kM {t:TypeId}{i:TypeInfo}(h:P.info? t=some i)(w:World):(typeInfo t).run P w= .ok i w:=by simp[typeInfo,h]
theorem qt {t:TypeId}{n:Nat}(h:qK P t=some n): ∃i,P.info? t=some i∧i.bytes=n:=by
 unfold qK at h;cases hi:P.info? t with
 |none=>rw[hi] at h;cases h
 |some i=>rw[hi] at h;cases h;exact⟨i,rfl,rfl⟩
theorem u3 {t:TypeId}{b:Bool}(h:PV P t=some b)(w:World):(isAgg t).run P w= .ok b w:=by
 unfold PV at h;cases hi:P.underlying t with
 |none=>rw[hi] at h;cases h
 |some d=>
  rw[hi] at h;unfold isAgg;cases d<;>simp at h<;>subst h<;>simp[run_underlying hi]
theorem dN {t:TypeId}{z:Value}(h:zeroOf P t=some z)(w:World):(zeroValue t).run P w= .ok z w∧fJ z=true∧∃n,jB P t=some n∧z.cells.size=n:=by
 unfold zeroOf at h;cases hi:P.info? t with
 |none=>rw[hi] at h;cases h
 |some i=>
  rw[hi] at h;simp only[Option.bind_some] at h;cases hz:i.zero with
  |none=>rw[hz] at h;cases h
  |some z'=>
   rw[hz] at h;simp only at h;split at h
   ·rename_i hc;cases h;simp only[Bool.and_eq_true,beq_iff_eq] at hc;refine⟨by simp[zeroValue,typeInfo,hi,hz],hc.1,i.size,by simp[jB,hi],hc.2⟩
   ·cases h
theorem tP {t:TypeId}{p p' v:Value}(hS:cJ P μ H w B)(hp:VR μ p p')(h:iY P t p H=some v):
  ∃v',(Instr.loadAt t p').run P w= .ok v' w∧VR μ v v':=by
 unfold iY at h;split at h
 ·rename_i i off;obtain⟨i',Ml,l,e,hl,rfl⟩:=hp.mL;cases e;have Ye: ∀w,(Instr.sureAddr (.pointer (some ⟨l.b,l.o+off,none⟩))).run P w= .ok ⟨l.b,l.o+off,none⟩ w:=λ_=>rfl
  split at h
  ·rename_i ha;cases hz:jB P t with
   |none=>rw[hz] at h;cases h
   |some n=>
    rw[hz] at h;simp only at h;cases hc:aR H i off n with
    |none=>rw[hc] at h;cases h
    |some vs=>
     rw[hc] at h;cases h;obtain⟨hlen,iU,hv,Aa⟩:=hS.aR hl hc;have Dc:iU.length=n:=by rw[←hv.1];exact hlen
     refine⟨.agg iU.toArray,?_,hv.Mh⟩;have hr:=run_loadCells_list (P:=P) w ⟨l.b,l.o+off,none⟩ iU Aa;rw[Dc] at hr;simp[Instr.loadAt,Ye,loadVar,u3 ha,eh hz,hr]
  ·rename_i ha;cases hb:H.get i with
   |none=>rw[hb] at h;cases h
   |some b=>
    rw[hb] at h;obtain⟨v',hc,hv⟩:=hS.ld hb hl h;exact⟨v',by simp[Instr.loadAt,Ye,loadVar,u3 ha,hc],hv⟩
  ·cases h
 ·cases h
theorem Dd {t:TypeId}{p p' v v':Value}(hS:cJ P μ H w B)(hp:VR μ p p')(hv:VR μ v v')(h:zY P t p v H=some H'):
  ∃w',(Instr.storeAt t p' v').run P w= .ok () w'∧cJ P μ H' w' B∧eN B w w':=by
 unfold zY at h;split at h
 ·rename_i i off;obtain⟨i',Ml,l,e,hl,rfl⟩:=hp.mL;cases e;have Ye: ∀w,(Instr.sureAddr (.pointer (some ⟨l.b,l.o+off,none⟩))).run P w= .ok ⟨l.b,l.o+off,none⟩ w:=λ_=>rfl
  cases hz:jB P t with
  |none=>rw[hz] at h;cases h
  |some n=>
   rw[hz] at h;simp only at h;split at h
   ·rename_i hc;have qX:=cT.cells hv hc.2;obtain⟨w',hr,sN,hB⟩:=hS.st hl h qX;have hn:v'.cells.size=n:=by have:=qX.1;simp at this;omega
    exact⟨w',by simp[Instr.storeAt,Ye,storeVar,eh hz,hn,hr],sN,hB⟩
   ·cases h
 ·cases h
theorem lH {t:TypeId}{cs eX:Array Value}{off:Nat}{v:Value}(hc:cT μ cs.toList eX.toList)(h:Am.apart P t cs off=some v)(w:World):
  ∃v',(part t eX off).run P w= .ok v' w∧VR μ v v':=by
 unfold Am.apart at h;split at h
 ·rename_i ha;cases hz:jB P t with
  |none=>rw[hz] at h;cases h
  |some n=>
   rw[hz] at h;cases h;refine⟨.agg (eX.extract off (off+n)),by simp[part,u3 ha,eh hz],cT.agg ?_⟩
   have:=(hc.drop off).take n
   simpa[List.take_drop,Nat.add_comm] using this
 ·rename_i ha;obtain⟨v',e,r⟩:=hc.2 off v (by simpa using h)
  exact⟨v',by simp[part,u3 ha,show eX[off]? =some v' by simpa using e],r⟩
 ·cases h
end Go.Proofs.YtgfgglponbmgmaaGreatA.Am
end
