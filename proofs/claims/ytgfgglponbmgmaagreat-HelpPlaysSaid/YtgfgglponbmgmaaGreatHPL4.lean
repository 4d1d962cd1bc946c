/- Texts of the proof of helpPlays_holds, put together by a small program of ours (names shortened, spaces taken out). No condition beyond the given statement. -/
import Derived.Test.YtgfgglponbmgmaaGreatHPL3
set_option linter.unusedVariables false
set_option linter.unusedSimpArgs false
set_option linter.unnecessarySimpa false
noncomputable section
section
namespace Go.Proofs.YtgfgglponbmgmaaGreatA.Am
open Go.RowKit (Below)
variable {P:Program} {μ:Mu} {H H':aa} {w:World} {B:Nat}
theorem z5 {t:TypeId}{x x' v m m':Value}{lo hi Q4 qT:Option Value}(hS:cQ P μ H w B)(hx:VR μ x x')(Kk:Nv μ lo Q4)(Kl:Nv μ hi qT)(hm:VR μ m m')(h:pg P H t x lo hi m=some v):
  ∃v',(Instr.sliceAt t x' Q4 qT (some m')).run P w= .ok v' w∧VR μ v v':=by
 unfold pg at h;split at h
 case h_2=>cases h
 rename_i a len cap hv k mx;split at h
 case isFalse=>cases h
 rename_i hb;obtain rfl:=hm.int;obtain⟨DB,a',fq,rfl,FX,hcc⟩:=hx.fi;have hx0:VR μ (.slice a 0 mx.toNat) (.slice a' 0 mx.toNat):=by
  cases a with
  |none=>
   obtain⟨rfl,rfl,e2⟩:=hx.ig;cases e2;have:mx.toNat=0:=by omega
   rw[this];exact .plain _ rfl
  |some ad=>
   rcases hx.eK with⟨i,off,c2,lc,rfl,DZ,g1,g2,g3,e2⟩|⟨i,off,a2,rfl,rfl,rfl,e2⟩
   ·cases e2;refine .slice i off 0 mx.toNat mx.toNat lc DZ (by omega) (by omega) ?_
    have:mx.toNat*lc.es≤fq*lc.es:=Nat.mul_le_mul_right _ (by omega)
    omega
   ·cases e2;have:mx.toNat=0:=by omega
    rw[this];exact .mo _ _ _
 obtain⟨v',hr,F8⟩:=rz (P:=P) (w:=w) hS hx0 Kk Kl h;refine⟨v',?_,F8⟩;rw[←hr];unfold oq at h;split at h
 case h_2=>cases h
 rename_i elem a0 aec aed hu e0;cases e0;cases hz:jL P elem with
 |none=>rw[hz] at h;cases h
 |some size=>
  rw[hz] at h;simp only at h;split at h
  case h_2=>cases h
  rename_i h' l hh hl;split at h
  case isFalse=>cases h
  rename_i hbb;have hbd:=wI (P:=P) (w:=w) Kk Kl hh hl hbb (Nat.le_refl _);have hb3:(Instr.sliceBounds true len fq Q4 qT (some (.int k mx))).run P w= .ok (l.toNat,h'.toNat,mx.toNat) w:=by
   have NU:=jO (P:=P) (k:=k) (n:=mx) (y:=fq) (c:=.slice3Acap) hb.1 (by omega) w
   rcases Kl with⟨e,_⟩|⟨c,c',e,rfl,r⟩
   ·cases e
   cases e;obtain⟨k1,rfl⟩:=jN r hh;have h1:=jO (P:=P) (k:=k1) (y:=mx.toNat) (c:=.slice3B) hbb.1 (by omega) w
   rcases Kk with⟨rfl,rfl⟩|⟨c2,c2',rfl,rfl,r2⟩
   ·simp only[dj] at hl;cases hl;simp[Instr.sliceBounds,NU,h1]
   ·obtain⟨k2,rfl⟩:=jN r2 hl;have h2:=jO (P:=P) (k:=k2) (n:=l) (y:=h'.toNat) (c:=.slice3C) hbb.2.2.1 (by omega) w
    simp[Instr.sliceBounds,NU,h1,h2]
  simp[Instr.sliceAt,Instr.slice,run_underlying hu,hbd,hb3,eC hz]
theorem BP {argTypes:Array TypeId}{ty:TypeId}{x x' v:Value}(hS:cQ P μ H w B)(hx:VR μ x x')(h:sY P argTypes x H=some (v,H')):
  Told P μ v H' w B ((Builtin.clear_ argTypes ty #[x']).run P w):=by
 have VT:VR μ undef (.tuple #[]):=cY.tuple (c:=#[]) (c':=#[]) .nil;unfold sY at h;split at h
 case h_2=>cases h
 rename_i elem base n cap hu;rw[Option.bind_eq_some_iff] at hu;obtain⟨t,ht,hu⟩:=hu;cases hz:zeroOf P elem with
 |none=>rw[hz] at h;cases h
 |some z=>
  rw[hz] at h;simp only at h;obtain⟨FH,pK,_⟩:=dV hz w;obtain⟨_,a',fq,rfl,FX,_⟩:=hx.fi;cases base with
  |none=>
   simp only at h;cases h;cases a' with
   |some _=>simp at FX
   |none=>
    have:(Builtin.clear_ argTypes ty #[.slice none n fq]).run P w= .ok (.tuple #[]) w:=by
     cases n<;>simp[Builtin.clear_,ht,run_underlying hu]
    rw[this];exact Told.same hS VT
  |some ad=>
   obtain⟨i,off,spot⟩:=ad;cases spot with
   |some _=>cases h
   |none=>
    simp only at h;split at h
    ·rename_i HR;cases h;subst HR;have:(Builtin.clear_ argTypes ty #[.slice a' 0 fq]).run P w= .ok (.tuple #[]) w:=by
      cases a'<;>simp[Builtin.clear_,ht,run_underlying hu]
     rw[this];exact Told.same hS VT
    ·rename_i HR;rw[Option.map_eq_some_iff] at h;obtain⟨H2,kY,e⟩:=h;cases e;rcases hx.eK with⟨i2,nU,BN,l,e,hl,g1,g2,g3,e2⟩|⟨i2,nU,a2,e,rfl,rfl,e2⟩
     ·cases e;cases e2;have mA:=kR (μ:=μ) pK n;obtain⟨w',hr,tm,hB⟩:=hS.st hl kY mA;have dC: ∃n',n=n'+1:=⟨n-1,by omega⟩
      obtain⟨n',rfl⟩:=dC;have hzz:(Builtin.zeroCells z.cells (n'+1)).toList=bK z.cells.toList (n'+1):=by
       by_cases h0:z.cells.size=0
       ·have e1:z.cells= #[]:=Array.eq_empty_of_size_eq_zero h0;rw[e1];simp[Builtin.zeroCells,bK]
       ·rw[←my _ _ h0]
      have:(Builtin.clear_ argTypes ty #[.slice (some ⟨l.b,l.o+off,none⟩) (n'+1) fq]).run P w= .ok (.tuple #[]) w':=by
       simp[Builtin.clear_,ht,run_underlying hu,FH,hzz,hr]
      rw[this];exact⟨_,μ,w',rfl,μ.le_refl,VT,tm,hB⟩
     ·exact absurd rfl HR
theorem tu {t:TypeId}{q:IntKind}{z:Value}(h:mapOf P t=some (q,z)): ∃k e,P.underlying t=some (.map k e)∧P.underlying k=some (.int q)∧zeroOf P e=some z:=by
 unfold mapOf at h;split at h
 case h_2=>cases h
 rename_i k e ht;split at h
 case h_2=>cases h
 rename_i q' z' hk hz;cases h;exact⟨k,e,ht,hk,hz⟩
theorem jq {k:TypeId}{q:IntKind}(hk:P.underlying k=some (.int q))(b:Bool)(q':IntKind)(n:Int)(w:World):(Instr.checkKey b 10000 k (.int q' n)).run P w= .ok () w:=by
 unfold Instr.checkKey;simp[run_underlying hk]
theorem uu (q:IntKind)(n:Int): ∀(ms:List MapEntry) (es:List (Int×Value)) (i:Nat),ms.map (·.key)=es.map (λe=>Value.int q e.1)→
  Instr.findNow (.int q) (.int q n) ms i=some ((es.findIdx? (λe=>e.1==n)).bind λj=>(ms[j]?).map λm=>(i+j,m.val))
 | [],es,i,h=>by
  have:es=[]:=by cases es with|nil=>rfl|cons _ _=>simp at h
  subst this;simp[Instr.findNow]
 |m::ms,es,i,h=>by
  cases es with
  |nil=>simp at h
  |cons e es=>
   simp only[List.map_cons,List.cons.injEq] at h;obtain⟨h1,h2⟩:=h;rw[Instr.findNow,h1];simp only[Instr.sameNow,if_true];by_cases he:n=e.1
   ·subst he;simp[List.findIdx?_cons]
   ·have hb:(n==e.1)=false:=by simpa using he
    have NT:(e.1==n)=false:=by simpa using λx=>he x.symm
    rw[hb];simp only;rw[uu q n ms es (i+1) h2,List.findIdx?_cons,NT];simp only[Bool.false_eq_true,if_false];cases es.findIdx? (λe=>e.1==n) with
    |none=>rfl
    |some j=>simp[Nat.add_assoc,Nat.add_comm 1 j]
theorem NV (es:List (Int×Value))(n:Int):es.find? (λe=>e.1==n)=(es.findIdx? (λe=>e.1==n)).bind (es[·]?):=by
 induction es with
 |nil=>rfl
 |cons e es ih=>
  rw[List.find?_cons,List.findIdx?_cons];by_cases h:(e.1==n)=true
  ·rw[h];rfl
  ·have:(e.1==n)=false:=by simpa using h
   rw[this];simp only[Bool.false_eq_true,if_false,ih];cases es.findIdx? (λe=>e.1==n)<;>rfl
theorem oG {k:TypeId}{q:IntKind}(hk:P.underlying k=some (.int q))(n:Int){ms:Array MapEntry}{es:List (Int×Value)}(h:ms.toList.map (·.key)=es.map (λe=>Value.int q e.1))(w:World):
  (Instr.findKey k (.int q n) ms.toList).run P w= .ok ((es.findIdx? (λe=>e.1==n)).bind λj=>(ms[j]?).map λm=>(j,m.val)) w:=by
 unfold Instr.findKey;simp only[Sem.run_bind,run_underlying hk,Result.andThen_ok,uu q n ms.toList es 0 h,Sem.run_pure]
 congr 2
 funext j
 simp
theorem BQ {t:TypeId}{m m' x x' v:Value}{ok:Bool}(hS:cQ P μ H w B)(hm:VR μ m m')(hx:VR μ x x')(h:pf P t m x ok H=some v):
  ∃v',(Instr.lookup t m' x' ok).run P w= .ok v' w∧VR μ v v':=by
 unfold pf at h;split at h
 case h_2=>cases h
 rename_i q z Rq;obtain⟨k,e,ht,hk,hz⟩:=tu Rq;unfold DQ at h;split at h
 case h_2=>cases h
 rename_i i q1 n;obtain rfl:=hx.int;split at h
 case h_2=>cases h
 rename_i q2 es ho;split at h
 case isFalse=>cases h
 rename_i hq;obtain⟨rfl,rfl⟩:=hq;obtain⟨l,hl,hB,ms,clock,hh,lS,qc⟩:=hS.ef.ok _ _ ho;have Nt:m'= .map (some l.b):=by
  cases hm with
  |plain _ h=>simp[cw] at h
  |BH _ l2 h2=>rw[hl] at h2;cases h2;rfl
 subst Nt;have BR:(getObj l.b).run P w= .ok (.map ms clock) w:=by simp[getObj,Sem.run,hh]
 have lf:=oG hk n lS w;rw[NV] at h;have key: ∀r,(Instr.findKey k (.int q n) ms.toList).run P w= .ok r w→(Instr.lookup t (.map (some l.b)) (.int q n) ok).run P w=
   ((match r with|some (_,v)=>pure (v,true)|none=>do pure ((←zeroValue e),false):Sem (Value×Bool)).run P w).andThen λp w=>.ok (if ok then .tuple #[p.1,.bool p.2] else p.1) w:=by
  intro r hr;unfold Instr.lookup;simp only[Sem.run_bind,run_underlying ht,Result.andThen_ok,BR,Sem.run_pure,jq hk,hr];cases r with
  |none=>cases hzz:(zeroValue e).run P w<;>simp[hzz,Result.andThen]
  |some p=>simp
 rw[key _ lf];cases hi:es.findIdx? (λe=>e.1==n) with
 |none=>
  rw[hi] at h;simp only[Option.bind_none] at h ⊢;obtain⟨FH,pK,_⟩:=dV hz w;simp only[Sem.run_bind,FH,Result.andThen_ok,Sem.run_pure];refine⟨_,rfl,?_⟩;cases h;cases ok with
  |true=>exact cY.tuple (.cons (.closed pK) (.cons (.plain _ rfl) .nil))
  |false=>exact .closed pK
 |some j=>
  rw[hi] at h;simp only[Option.bind_some] at h ⊢;cases hj:es[j]? with
  |none=>exact absurd hj (by
    have:=List.findIdx?_eq_some_iff_getElem.1 hi
    obtain⟨gH,_⟩:=this;rw[List.getElem?_eq_getElem gH];simp)
  |some ev=>
   rw[hj] at h;simp only at h;obtain⟨u',NP,hu2⟩:=qc.2 j ev.2 (by rw[List.getElem?_map,hj];rfl)
   rw[List.getElem?_map] at NP;cases hmj:ms.toList[j]? with
   |none=>rw[hmj] at NP;cases NP
   |some mv=>
    rw[hmj] at NP;cases NP;have acu:ms[j]? =some mv:=by simpa using hmj
    simp only[acu,Option.map_some,Sem.run_pure,Result.andThen_ok];refine⟨_,rfl,?_⟩;cases h;cases ok with
    |true=>exact cY.tuple (.cons hu2 (.cons (.plain _ rfl) .nil))
    |false=>exact hu2
theorem ng {b:Nat}{x:Obj}{ms:Array MapEntry}{c:Nat}(h:w.heap[b]? =some (.map ms c)):(setObj b x).run P w= .ok () (w.putObj b x):=by
 simp[setObj,Sem.run,h,World.putObj]
theorem uX {t:TypeId}{m m' x x' u u' v:Value}(hS:cQ P μ H w B)(hm:VR μ m m')(hx:VR μ x x')(hu:VR μ u u')(h:mY P t m x u H=some (v,H')):
  ∃w',(Instr.mapUpdate t m' x' u').run P w= .ok () w'∧v=undef∧cQ P μ H' w' B∧eX B w w':=by
 unfold mY at h;split at h
 case h_2=>cases h
 rename_i q z Rq;obtain⟨k,e,ht,hk,hz⟩:=tu Rq;unfold NJ at h;split at h
 case h_2=>cases h
 rename_i i q1 n;obtain rfl:=hx.int;split at h
 case h_2=>cases h
 rename_i q2 es ho;split at h
 case isFalse=>cases h
 rename_i hq;obtain⟨rfl,rfl⟩:=hq;cases h;obtain⟨l,hl,hB,ms,clock,hh,lS,qc⟩:=hS.ef.ok _ _ ho;have Nt:m'= .map (some l.b):=by
  cases hm with
  |plain _ h=>simp[cw] at h
  |BH _ l2 h2=>rw[hl] at h2;cases h2;rfl
 subst Nt;have gH:=(Array.getElem?_eq_some_iff.1 hh).1;have BR:(getObj l.b).run P w= .ok (.map ms clock) w:=by simp[getObj,Sem.run,hh]
 have lf:=oG hk n lS w;have hlen:ms.toList.length=es.length:=by have:=congrArg List.length lS;simpa using this
 cases hi:es.findIdx? (λe=>e.1==n) with
 |none=>
  rw[hi] at lf;simp only[Option.bind_none] at lf;refine⟨_,?_,rfl,hS.jK (x:=.map (ms.push {key:=.int q n,val:=u',born:=clock}) (clock+1)) ho hl ?_,eX.BO hh hB⟩
  ·unfold Instr.mapUpdate;simp only[Sem.run_bind,run_underlying ht,Result.andThen_ok,BR,jq hk,lf,ng hh]
  ·refine⟨_,_,World.putObj_heap_same gH,?_,?_⟩
   ·simp only[NG,hi,Array.toList_push,List.map_append,lS,List.map_cons,List.map_nil]
   ·simp only[NG,hi,Array.toList_push,List.map_append,List.map_cons,List.map_nil];exact qc.append (.cons hu .nil)
 |some j=>
  obtain⟨AK,hje,_⟩:=List.findIdx?_eq_some_iff_getElem.1 hi;have z8:j<ms.size:=by simpa using(by omega:j<ms.toList.length)
  have hkj:ms[j].key= .int q n:=by
   have:=congrArg (λl=>l[j]?) lS
   simp only[List.getElem?_map,List.getElem?_eq_getElem AK,Array.getElem?_toList,Array.getElem?_eq_getElem z8,Option.map_some,Option.some.injEq] at this;rw[this];have:es[j].1=n:=by simpa using hje
   rw[this]
  rw[hi] at lf;simp only[Option.bind_some,Array.getElem?_eq_getElem z8,Option.map_some] at lf;refine⟨_,?_,rfl,hS.jK (x:=.map (ms.modify j λe=>{e with key:=.int q n,val:=u'}) clock) ho hl ?_,eX.BO hh hB⟩
  ·unfold Instr.mapUpdate;simp only[Sem.run_bind,run_underlying ht,Result.andThen_ok,BR,jq hk,lf,Array.getElem?_eq_getElem z8,Option.map_some,Option.getD_some,hkj];have kY:(Instr.keyThatStays (.int q n) (.int q n)).run P w= .ok (.int q n) w:=by
    unfold Instr.keyThatStays;simp[Instr.sameBits]
   simp only[kY,Result.andThen_ok,ng hh]
  ·have Rr:(ms.modify j λe=>{e with key:=.int q n,val:=u'}).toList=ms.toList.set j {ms[j] with key:=.int q n,val:=u'}:=by
    apply List.ext_getElem?;intro r;rw[Array.getElem?_toList,Array.getElem?_modify,List.getElem?_set];by_cases e:j=r
    ·subst e;rw[if_pos rfl,if_pos rfl,if_pos (by simpa using z8),Array.getElem?_eq_getElem z8];rfl
    ·rw[if_neg e,if_neg e,Array.getElem?_toList]
   refine⟨_,_,World.putObj_heap_same gH,?_,?_⟩
   ·rw[Rr,List.map_set,lS];simp only[NG,hi,List.map_set]
   ·rw[Rr,List.map_set];simp only[NG,hi,List.map_set];exact qc.set hu j
theorem map_eraseIdx {α β:Type}(f:α→β)(l:List α)(j:Nat):(l.eraseIdx j).map f=(l.map f).eraseIdx j:=by
 apply List.ext_getElem?;intro r;simp only[List.getElem?_map,List.getElem?_eraseIdx];split<;>rfl
theorem BS {argTypes:Array TypeId}{ty:TypeId}{m m' x x' v:Value}(hS:cQ P μ H w B)(hm:VR μ m m')(hx:VR μ x x')(h:vq P argTypes m x H=some (v,H')):
  Told P μ v H' w B ((Builtin.delete_ argTypes ty #[m',x']).run P w):=by
 have VT:VR μ undef (.tuple #[]):=cY.tuple (c:=#[]) (c':=#[]) .nil;unfold vq at h;split at h
 case h_2=>cases h
 rename_i q z Rq;rw[Option.bind_eq_some_iff] at Rq;obtain⟨t,VU,Rq⟩:=Rq;obtain⟨k,e,ht,hk,hz⟩:=tu Rq;unfold NK at h;split at h
 case h_2=>cases h
 rename_i i q1 n;obtain rfl:=hx.int;split at h
 case h_2=>cases h
 rename_i q2 es ho;split at h
 case isFalse=>cases h
 rename_i hq;obtain⟨rfl,rfl⟩:=hq;cases h;obtain⟨l,hl,hB,ms,clock,hh,lS,qc⟩:=hS.ef.ok _ _ ho;have Nt:m'= .map (some l.b):=by
  cases hm with
  |plain _ h=>simp[cw] at h
  |BH _ l2 h2=>rw[hl] at h2;cases h2;rfl
 subst Nt;have gH:=(Array.getElem?_eq_some_iff.1 hh).1;have BR:(getObj l.b).run P w= .ok (.map ms clock) w:=by simp[getObj,Sem.run,hh]
 have lf:=oG hk n lS w;have hlen:ms.toList.length=es.length:=by have:=congrArg List.length lS;simpa using this
 cases hi:es.findIdx? (λe=>e.1==n) with
 |none=>
  rw[hi] at lf;simp only[Option.bind_none] at lf;have dJ:(Builtin.delete_ argTypes ty #[.map (some l.b),.int q n]).run P w= .ok (.tuple #[]) (w.putObj l.b (.map ms clock)):=by
   unfold Builtin.delete_;simp[VU,run_underlying ht,BR,jq hk,lf,ng hh]
  rw[dJ];refine⟨_,μ,_,rfl,μ.le_refl,VT,hS.jK ho hl ⟨ms,clock,World.putObj_heap_same gH,?_,?_⟩,eX.BO hh hB⟩
  ·simpa[NH,hi] using lS
  ·simpa[NH,hi] using qc
 |some j=>
  obtain⟨AK,hje,_⟩:=List.findIdx?_eq_some_iff_getElem.1 hi;have z8:j<ms.size:=by simpa using(by omega:j<ms.toList.length)
  rw[hi] at lf;simp only[Option.bind_some,Array.getElem?_eq_getElem z8,Option.map_some] at lf;have dJ:(Builtin.delete_ argTypes ty #[.map (some l.b),.int q n]).run P w= .ok (.tuple #[]) (w.putObj l.b (.map (ms.eraseIdxIfInBounds j) clock)):=by
   unfold Builtin.delete_;simp[VU,run_underlying ht,BR,jq hk,lf,ng hh]
  rw[dJ];have Rr:(ms.eraseIdxIfInBounds j).toList=ms.toList.eraseIdx j:=by
   unfold Array.eraseIdxIfInBounds;rw[dif_pos z8];simp
  refine⟨_,μ,_,rfl,μ.le_refl,VT,hS.jK ho hl ⟨_,clock,World.putObj_heap_same gH,?_,?_⟩,eX.BO hh hB⟩
  ·rw[Rr,map_eraseIdx,lS];simp only[NH,hi,map_eraseIdx]
  ·rw[Rr];simp only[NH,hi,map_eraseIdx];refine⟨?_,λr y hr=>?_⟩
   ·have:=qc.1;simp[List.length_eraseIdx] at this ⊢;simp[this]
   ·rw[List.getElem?_eraseIdx] at hr ⊢;split
    ·rename_i h1;rw[if_pos h1] at hr;exact qc.2 _ _ hr
    ·rename_i h1;rw[if_neg h1] at hr;exact qc.2 _ _ hr
theorem z9 {t:TypeId}{v:Value}(hS:cQ P μ H w B)(h:q7 P t H=some (v,H')):Told P μ v H' w B ((Instr.makeMap t none).run P w):=by
 unfold q7 at h;split at h
 case h_2=>cases h
 rename_i q z Rq;cases h;have dJ:(Instr.makeMap t none).run P w= .ok (.map (some w.heap.size)) (w.alloc (.map #[] 0)):=by
  unfold Instr.makeMap;simp
 rw[dJ];have BU: ∀k,k<w.heap.size→(w.alloc (.map #[] 0)).heap[k]? =w.heap[k]? :=λk hk=>Below.heap_alloc _ _ _ hk
 obtain⟨h1,h2⟩:=hS.kt (w1:=w.alloc (.map #[] 0)) (l:=w.heap.size) (o:=.FG q []) BU (by simp) (Nat.le_refl _) ⟨#[],0,World.alloc_heap_new w _,rfl,.nil⟩
 exact⟨_,_,_,rfl,h1,.BH _ ⟨w.heap.size,0,0,0⟩ Mu.aP,h2,(eX.refl B w).alloc hS.base _⟩
theorem F9 {t k e:TypeId}{argTypes:Array TypeId}{ty:TypeId}{m m' v:Value}(hS:cQ P μ H w B)(hm:VR μ m m')(VU:argTypes[0]? =some t)(ht:P.underlying t=some (.map k e))(h:Kf m H=some v):
  (Builtin.len_ argTypes ty #[m']).run P w= .ok v w∧cw v=true:=by
 unfold Kf at h;split at h
 case h_2=>cases h
 rename_i i;split at h
 case h_2=>cases h
 rename_i q es ho;cases h;obtain⟨l,hl,hB,ms,clock,hh,lS,qc⟩:=hS.ef.ok _ _ ho;have Nt:m'= .map (some l.b):=by
  cases hm with
  |plain _ h=>simp[cw] at h
  |BH _ l2 h2=>rw[hl] at h2;cases h2;rfl
 subst Nt;have BR:(getObj l.b).run P w= .ok (.map ms clock) w:=by simp[getObj,Sem.run,hh]
 have hlen:ms.size=es.length:=by have:=congrArg List.length lS;simpa using this
 refine⟨?_,rfl⟩;unfold Builtin.len_;simp[VU,run_underlying ht,BR,goInt,hlen]
variable {P:Program} {μ:Mu} {H H':aa} {w:World} {B:Nat}
theorem D4 {argTypes:Array TypeId}{ty:TypeId}{d d' s s' v:Value}(hS:cQ P μ H w B)(hd:VR μ d d')(hs:VR μ s s')(h:AA P argTypes d s H=some (v,H')):
  Told P μ v H' w B ((Builtin.copy_ argTypes ty #[d',s']).run P w):=by
 unfold AA at h;split at h
 ·rename_i Uu hd0;split at h
  ·rename_i elem base DP aee sa sLen sCap hu;cases hz:jL P elem with
   |none=>rw[hz] at h;cases h
   |some size=>
    rw[hz] at h;simp only at h;obtain⟨_,sa',wP,rfl,_,_⟩:=hs.fi;obtain⟨_,wO,aaf,rfl,FX,_⟩:=hd.fi;cases hc:cJ H size (min sLen DP) (.slice sa sLen sCap) with
    |none=>rw[hc] at h;cases h
    |some cs=>
     rw[hc] at h;simp only at h;obtain⟨hlen,zW,fj,hv,dJ⟩:=oE (P:=P) hS hs (Nat.min_le_left _ _) hc;have DX:fj.length=min sLen DP*size:=by rw[←hv.1];exact hlen
     have hr:(Builtin.copy_ argTypes ty #[.slice wO DP aaf,.slice sa' sLen wP]).run P w=
       ((match wO with|some a=>storeCells a fj|none=>pure ():Sem Unit).run P w).andThen λ_ w=>.ok (.int .i64 (min sLen DP:Nat)) w:=by
      have e:Nat.min sLen DP=min sLen DP:=rfl;simp[Builtin.copy_,hd0,run_underlying hu,Builtin.lenOf,eC hz,e,dJ w rfl,goInt];cases wO<;>simp
     rw[hr];cases base with
     |none=>
      simp only at h;cases h;cases wO with
      |some _=>simp at FX
      |none=>exact Told.same hS (.plain _ rfl)
     |some ad=>
      obtain⟨i,off,spot⟩:=ad;cases spot with
      |some _=>cases h
      |none=>
       simp only at h;split at h
       ·rename_i HR;cases h;have:fj=[]:=List.eq_nil_of_length_eq_zero (by rw[DX,HR];simp)
        subst this;cases wO with
        |none=>simp at FX
        |some a=>simp only[storeCells,Sem.run_pure,Result.andThen_ok];exact Told.same hS (.plain _ rfl)
       ·rename_i HR;rw[Option.map_eq_some_iff] at h;obtain⟨H2,kY,e⟩:=h;cases e;rcases hd.eK with⟨i2,nU,BN,l,e,hl,g1,g2,g3,e2⟩|⟨i2,nU,a2,e,rfl,rfl,e2⟩
        ·cases e;cases e2;obtain⟨w',hr,tm,hB⟩:=hS.st hl kY hv;simp only[hr,Result.andThen_ok];exact⟨_,μ,w',rfl,μ.le_refl,.plain _ rfl,tm,hB⟩
        ·simp at HR
  ·cases h
 ·cases h
theorem Gb {argTypes:Array TypeId}{ty:TypeId}{x x' v:Value}(hS:cQ P μ H w B)(hx:VR μ x x')(h:BE P H argTypes x=some v):
  (Builtin.len_ argTypes ty #[x']).run P w= .ok v w∧cw v=true:=by
 unfold BE at h;split at h
 ·rename_i t ht;split at h
  ·rename_i k e hu;exact F9 hS hx ht hu h
  ·rename_i s hu;obtain rfl:=hx.string;cases h;exact⟨by simp[Builtin.len_,ht,run_underlying hu,goInt],rfl⟩
  ·rename_i n e hu;cases h;exact⟨by simp[Builtin.len_,ht,run_underlying hu,goInt],rfl⟩
  ·rename_i a n c e hu;obtain⟨_,a',c',rfl,_⟩:=hx.fi;cases h;exact⟨by simp[Builtin.len_,ht,run_underlying hu,goInt],rfl⟩
  ·cases h
 ·cases h
def fY (P:Program)(μ:Mu)(v:Value)(H':aa)(w:World)(B:Nat)(r:Result Next):Prop:=
 ∃v' μ' w',(r= .ok (.value v') w'∨(r= .ok .skip w'∧v'=undef))∧μ.le μ'∧VR μ' v v'∧cQ P μ' H' w' B∧eX B w w'
theorem Told.next {v:Value}{s:Sem Value}(h:Told P μ v H' w B (s.run P w)):fY P μ v H' w B ((do pure (Next.value (←s)):Sem Next).run P w):=by
 obtain⟨v',μ',w',hr,rest⟩:=h;exact⟨v',μ',w',.inl (by simp[hr]),rest⟩
theorem fY.quiet {v v':Value}{s:Sem Value}(hS:cQ P μ H w B)(hr:s.run P w= .ok v' w)(hv:VR μ v v'):fY P μ v H w B ((do pure (Next.value (←s)):Sem Next).run P w):=
 Told.next (by rw[hr];exact Told.same hS hv)
theorem wQ {b:Builtin}{argTypes:Array TypeId}{ty:TypeId}{consts:Array Bool}{args fC:List Value}{v:Value}(hS:cQ P μ H w B)(ha:cY μ args fC)(h:jY P b argTypes args H=some (v,H')):
  fY P μ v H' w B ((builtin b argTypes ty consts fC.toArray).run P w):=by
 unfold jY at h;split at h
 ·obtain⟨s',_,rfl,r1,h2⟩:=ha.fJ;obtain⟨x',_,rfl,r2,h3⟩:=h2.fJ;obtain rfl:=h3.ic;exact(zZ (ty:=ty) hS r1 r2 h).next
 ·obtain⟨s',_,rfl,r1,h2⟩:=ha.fJ;obtain⟨x',_,rfl,r2,h3⟩:=h2.fJ;obtain rfl:=h3.ic;exact(D4 (ty:=ty) hS r1 r2 h).next
 ·obtain⟨x',_,rfl,r1,h3⟩:=ha.fJ;obtain rfl:=h3.ic;rw[Option.map_eq_some_iff] at h;obtain⟨v2,hv,e⟩:=h;cases e;obtain⟨hr,hp⟩:=Gb (ty:=ty) hS r1 hv;exact fY.quiet hS hr (.plain _ hp)
 ·obtain⟨x',_,rfl,r1,h3⟩:=ha.fJ;obtain rfl:=h3.ic;exact(BP (ty:=ty) hS r1 h).next
 ·obtain⟨s',_,rfl,r1,h2⟩:=ha.fJ;obtain⟨x',_,rfl,r2,h3⟩:=h2.fJ;obtain rfl:=h3.ic;exact(BS (ty:=ty) hS r1 r2 h).next
 ·rename_i len n;obtain⟨x',_,rfl,r1,h3⟩:=ha.fJ;obtain rfl:=h3.ic;obtain⟨rfl,rfl,rfl⟩:=r1.ig;split at h
  ·rename_i e hu;cases h;rw[Option.bind_eq_some_iff] at hu;obtain⟨t,ht,hu⟩:=hu;exact fY.quiet (v':=.int .i64 0) hS (by simp[Builtin.cap_,ht,run_underlying hu,goInt]) (.plain _ rfl)
  ·cases h
 ·rename_i k a k' c;obtain⟨s',_,rfl,r1,h2⟩:=ha.fJ;obtain⟨x',_,rfl,r2,h3⟩:=h2.fJ;obtain rfl:=h3.ic;obtain rfl:=r1.int;obtain rfl:=r2.int;split at h
  ·rename_i e;subst e;cases h;exact fY.quiet hS (by simp[Builtin.min_,Builtin.min2]) (.plain _ rfl)
  ·cases h
 ·rename_i k a k' c;obtain⟨s',_,rfl,r1,h2⟩:=ha.fJ;obtain⟨x',_,rfl,r2,h3⟩:=h2.fJ;obtain rfl:=h3.ic;obtain rfl:=r1.int;obtain rfl:=r2.int;split at h
  ·rename_i e;subst e;cases h;exact fY.quiet hS (by simp[Builtin.max_,Builtin.max2]) (.plain _ rfl)
  ·cases h
 ·cases h
theorem Nv.map {ρ ρ':Operand→Value}(hρ: ∀x,VR μ (ρ x) (ρ' x))(o:Option Operand):Nv μ (o.map ρ) (o.map ρ'):=by
 cases o with
 |none=>exact .inl ⟨rfl,rfl⟩
 |some x=>exact .inr ⟨_,_,rfl,rfl,hρ x⟩
theorem cY.map {ρ ρ':Operand→Value}(hρ: ∀x,VR μ (ρ x) (ρ' x))(l:List Operand):cY μ (l.map ρ) (l.map ρ'):=by
 induction l with
 |nil=>exact .nil
 |cons x l ih=>exact .cons (hρ x) ih
theorem cY.parts {ρ ρ':Operand→Value}(hρ: ∀x,VR μ (ρ x) (ρ' x))(l:List (Nat×Operand)):
  cY μ ((l.map λ(i,x)=>(i,ρ x)).map (·.2)) ((l.map λ(i,x)=>(i,ρ' x)).map (·.2)):=by
 induction l with
 |nil=>exact .nil
 |cons x l ih=>exact .cons (hρ x.2) ih
theorem tv {ρ ρ':Operand→Value}(l:List (Nat×Operand)):
  (l.map λ(i,x)=>(i,ρ x)).map (·.1)=(l.map λ(i,x)=>(i,ρ' x)).map (·.1):=by
 induction l with
 |nil=>rfl
 |cons x l ih=>simp
theorem Kn {ρ ρ':Operand→Value}{o:Oper}{v:Value}(hS:cQ P μ H w B)(hρ: ∀x,VR μ (ρ x) (ρ' x))(h:gU P ρ H o.op=some (v,H')):
  fY P μ v H' w B ((execOp ρ' o).run P w):=by
 obtain⟨dst,op,type,pos,after,guard⟩:=o;simp only at h;unfold gU at h;split at h<;>(unfold execOp;try simp only)
 ·
  cases h;exact⟨_,μ,w,.inl rfl,μ.le_refl,hρ _,hS,eX.refl _ _⟩
 ·cases h;exact⟨_,μ,w,.inl rfl,μ.le_refl,hρ _,hS,eX.refl _ _⟩
 ·
  rename_i c a b;split at h
  ·rename_i t hc;cases h;have hc':=hρ c;rw[hc] at hc';have e:=hc'.bool;refine⟨if t then ρ' a else ρ' b,μ,w,.inl ?_,μ.le_refl,?_,hS,eX.refl _ _⟩
   ·simp[e,asBool]
   ·cases t
    ·exact hρ b
    ·exact hρ a
  ·cases h
 ·
  rename_i t;split at h
  ·rename_i z hz;obtain⟨FH,pK,_⟩:=dV hz w;cases h;have:=rA (P:=P) (t:=t) (t':=t) (fj:=z.cells) hS (qz pK) (jZ pK)
   refine Told.next ?_;have e:(Instr.alloc t true (.tuple #[])).run P w=(do pure (.pointer (some (←newRow t z.cells))):Sem Value).run P w:=by
    simp[Instr.alloc,FH,newVar]
   rw[e];exact this
  ·cases h
 ·
  rename_i t x;split at h
  ·rename_i zW;cases h;have hk:known (ρ x)=true:=by
    revert zW
    cases ρ x<;>simp[Value.cells,aD,known]
   exact Told.next (rA (P:=P) (t:=t) (t':=t) (fj:=(ρ' x).cells) hS zW (cY.cells (hρ x) hk))
  ·cases h
 ·
  rename_i t ps;rw[Option.map_eq_some_iff] at h;obtain⟨v2,hv,e⟩:=h;cases e;obtain⟨v',hr,F8⟩:=BM (tv ps.toList) (cY.parts hρ ps.toList) hv w;refine fY.quiet hS ?_ F8;have e:(ps.map λ(i,x)=>(i,ρ' x))=(ps.toList.map λ(i,x)=>(i,ρ' x)).toArray:=by
   rw[←Array.toList_inj];simp
  rw[e];exact hr
 ·
  rename_i t n ps;have:=rB (P:=P) hS (tv (ρ':=ρ') ps.toList) (cY.parts hρ ps.toList) h
  have e:(ps.map λ(i,x)=>(i,ρ' x))=(ps.toList.map λ(i,x)=>(i,ρ' x)).toArray:=by
   rw[←Array.toList_inj];simp
  simp only[e];exact this.next
 ·
  rw[Option.map_eq_some_iff] at h;obtain⟨v2,hv,e⟩:=h;cases e;obtain⟨v',hr,F8⟩:=ur hS (hρ _) hv;exact fY.quiet hS hr F8
 ·
  rw[Option.map_eq_some_iff] at h;obtain⟨H2,hv,e⟩:=h;cases e;obtain⟨w',hr,tm,hB⟩:=DY hS (hρ _) (hρ _) hv;exact⟨undef,μ,w',.inr ⟨by simp[hr],rfl⟩,μ.le_refl,cY.tuple .nil,tm,hB⟩
 ·
  rename_i x;have hx:=hρ x;split at h
  ·rename_i a e;cases h;rw[e] at hx;obtain⟨i,off,l,rfl,hl,e2⟩:=hx.nc;rw[e2];exact⟨_,μ,w,.inl rfl,μ.le_refl,.ptr i off l hl,hS,eX.refl _ _⟩
  ·rename_i g f c e;cases h;rw[e] at hx;obtain⟨f',c',e2,h1,h2⟩:=hx.wA rfl;rw[e2] at hx ⊢;exact⟨_,μ,w,.inl rfl,μ.le_refl,hx,hS,eX.refl _ _⟩
  ·cases h
 ·
  rename_i op t x y yt;rw[Option.map_eq_some_iff] at h;obtain⟨v2,hv,e⟩:=h;cases e;obtain⟨hr,hp⟩:=FW (hρ x) (hρ y) hv x y w;exact fY.quiet hS hr (.plain _ hp)
 ·
  rw[Option.map_eq_some_iff] at h;obtain⟨v2,hv,e⟩:=h;cases e;obtain⟨hr,hp⟩:=Kj (P:=P) (hρ _) hv w;exact fY.quiet hS hr (.plain _ hp)
 ·
  rename_i src dst x;split at h
  ·rename_i d k k' n hs hu hx;cases h;have D5:=hρ x;rw[hx] at D5;have e:=D5.int;refine fY.quiet (v':=.int k (k.wrap n)) hS ?_ (.plain _ rfl);rw[e];simp only[convert,Sem.run_bind,run_underlying hs,run_underlying hu,Result.andThen_ok];cases d<;>simp[Conv.intToInt]
  ·cases h
 ·
  rename_i g first captured
  cases h;refine fY.quiet (v':=.func (.func g) (first.map ρ') (captured.map ρ')) hS rfl ?_
  have h1:=cY.map hρ first.toList
  have h2:=cY.map hρ captured.toList;rw[←Array.toList_map, ←Array.toList_map] at h1 h2;exact .func _ _ _ _ _ rfl h1.arr.1 h2.arr.1 h1.arr.2 h2.arr.2
 ·
  exact(tq hS (hρ _) (hρ _) h).next
 ·
  rw[Option.map_eq_some_iff] at h;obtain⟨v2,hv,e⟩:=h;cases e;obtain⟨v',hr,F8⟩:=rz (P:=P) hS (hρ _) (Nv.map hρ _) (Nv.map hρ _) hv;exact fY.quiet hS hr F8
 ·
  rw[Option.map_eq_some_iff] at h;obtain⟨v2,hv,e⟩:=h;cases e;obtain⟨v',hr,F8⟩:=z5 (P:=P) hS (hρ _) (Nv.map hρ _) (Nv.map hρ _) (hρ _) hv;exact fY.quiet hS hr F8
 ·
  exact(z9 hS h).next
 ·
  rw[Option.map_eq_some_iff] at h;obtain⟨v2,hv,e⟩:=h;cases e;obtain⟨v',hr,F8⟩:=BQ (P:=P) hS (hρ _) (hρ _) hv;exact fY.quiet hS hr F8
 ·
  obtain⟨w',hr,rfl,tm,hB⟩:=uX (P:=P) hS (hρ _) (hρ _) (hρ _) h;exact⟨undef,μ,w',.inr ⟨by simp[hr],rfl⟩,μ.le_refl,cY.tuple .nil,tm,hB⟩
 ·
  rename_i t x f;have hx:=hρ x;split at h
  ·rename_i fields i off hu e;rw[e] at hx;obtain⟨i2,nU,l,e1,hl,e2⟩:=hx.nc;cases e1;split at h
   ·rename_i fd hf;split at h
    ·cases h
    ·rename_i n HR hn;cases h;have dC:n≠0:=λe=>HR e
     refine fY.quiet (v':=.pointer (some ⟨l.b,l.o+(off+fd.offset),none⟩)) hS ?_ (.ptr i _ l hl);rw[e2];simp[Instr.fieldAt,run_underlying hu,hf,Instr.sureAddr,fieldPlace,eC hn,dC,jl,Nat.add_assoc]
    ·cases h
   ·cases h
  ·cases h
 ·
  rename_i t x f;have hx:=hρ x;split at h
  ·rename_i fields cs hu e;rw[e] at hx;obtain⟨fj,e2,rp⟩:=hx.ph;split at h
   ·rename_i fd hf;rw[Option.map_eq_some_iff] at h;obtain⟨v2,hv,e3⟩:=h;cases e3;obtain⟨v',hr,F8⟩:=lR rp hv w;refine fY.quiet hS ?_ F8;rw[e2];simp[Instr.field,run_underlying hu,hf,asAgg,hr]
   ·cases h
  ·cases h
 ·
  rename_i t x ix;have hx:=hρ x;have hi:=hρ ix;split at h
  ·rename_i elem i off len cap k n hu e1 e2;rw[e1] at hx;rw[e2] at hi;have e3:=hi.int;split at h
   ·rename_i size hz;split at h
    ·rename_i hb;cases h;rcases hx.eK with⟨i2,nU,BN,l,e,hl,g1,g2,g3,e4⟩|⟨i2,nU,a2,e,rfl,rfl,e4⟩
     ·cases e;refine fY.quiet (v':=.pointer (some ⟨l.b,l.o+(off+n.toNat*size),none⟩)) hS ?_ (.ptr i _ l hl);rw[e3,e4];simp[Instr.indexAt,asIntOf,run_underlying hu,hb,eC hz,jl,Nat.add_assoc]
     ·omega
    ·cases h
   ·cases h
  ·rename_i len elem i off k n hu e1 e2;rw[e1] at hx;rw[e2] at hi;have e3:=hi.int;split at h
   ·rename_i size hz;split at h
    ·rename_i hb;cases h;obtain⟨i2,nU,l,e,hl,e4⟩:=hx.nc;cases e;refine fY.quiet (v':=.pointer (some ⟨l.b,l.o+(off+n.toNat*size),none⟩)) hS ?_ (.ptr i _ l hl);rw[e3,e4];simp[Instr.indexAt,asIntOf,run_underlying hu,hb,eC hz,jl,Nat.add_assoc,Instr.sureAddr]
    ·cases h
   ·cases h
  ·cases h
 ·
  rename_i t x ix;have hx:=hρ x;have hi:=hρ ix;split at h
  ·rename_i len elem cs k n hu e1 e2;rw[e1] at hx;rw[e2] at hi;have e3:=hi.int;obtain⟨fj,e4,rp⟩:=hx.ph;split at h
   ·rename_i size hz;split at h
    ·rename_i hb;rw[Option.map_eq_some_iff] at h;obtain⟨v2,hv,e5⟩:=h;cases e5;obtain⟨v',hr,F8⟩:=lR rp hv w;refine fY.quiet hS ?_ F8;rw[e3,e4];simp[Instr.index,asIntOf,run_underlying hu,hb,eC hz,hr]
    ·cases h
   ·cases h
  ·rename_i s k n hu e1 e2;rw[e1] at hx;rw[e2] at hi;have e3:=hi.int;have e4:=hx.string;split at h
   ·rename_i hb;rw[Option.map_eq_some_iff] at h;obtain⟨c,hc,e5⟩:=h;cases e5;refine fY.quiet (v':=.int .u8 c.toNat) hS ?_ (.plain _ rfl);rw[e3,e4];simp[Instr.index,asIntOf,run_underlying hu,hb,hc]
   ·cases h
  ·cases h
 ·
  rename_i t ix;have hx:=hρ t;split at h
  ·rename_i vs e;rw[e] at hx;obtain⟨jf,e2,hvs⟩:=hx.AD;rw[Option.map_eq_some_iff] at h;obtain⟨v2,hv,e5⟩:=h;cases e5;obtain⟨v',VK,DA⟩:=hvs.2 ix v (by simpa using hv)
   refine fY.quiet hS ?_ DA;rw[e2];simp[Instr.extract,show jf[ix]? =some v' by simpa using VK]
  ·cases h
 ·
  rename_i b args argTypes;have:=wQ (P:=P) (ty:=type) (consts:=(args.map λ| .const _=>true|_=>false)) hS (cY.map hρ args.toList) h
  simp only[resolve,Sem.run_bind,Sem.run_pure,Result.andThen_ok,invoke];have e:(args.toList.map ρ').toArray=args.map ρ':=by rw[←Array.toList_inj];simp
  rw[e] at this;exact this
 ·cases h
end Go.Proofs.YtgfgglponbmgmaaGreatA.Am
end
