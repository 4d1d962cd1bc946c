/- Texts of the proof of linearCut_holds, put together by a small program of ours (names shortened, spaces taken out). No condition beyond the given statement. -/
import Derived.Test.YtjgmnoaalbbonaaGreatLCT3
set_option linter.unusedVariables false
set_option linter.unusedSimpArgs false
set_option linter.unnecessarySimpa false
noncomputable section
section
namespace Go.Proofs.YtjgmnoaalbbonaaGreatA.Am
open Go.RowKit (Below)
variable {P:Program} {μ:Mu} {H H':aa} {w:World} {B:Nat}
theorem z8 {t:TypeId}{x x' v m m':Value}{lo hi P7 vK:Option Value}(hS:cQ P μ H w B)(hx:VR μ x x')(z4:Mo μ lo P7)(z5:Mo μ hi vK)(hm:VR μ m m')(h:pX P H t x lo hi m=some v):
  ∃v',(Instr.sliceAt t x' P7 vK (some m')).run P w= .ok v' w∧VR μ v v':=by
 unfold pX at h;split at h
 case h_2=>cases h
 rename_i a len cap hv k mx;split at h
 case isFalse=>cases h
 rename_i hb;obtain rfl:=hm.int;obtain⟨Ja,a',dG,rfl,FM,Um⟩:=hx.fG;have hx0:VR μ (.slice a 0 mx.toNat) (.slice a' 0 mx.toNat):=by
  cases a with
  |none=>
   obtain⟨rfl,rfl,e2⟩:=hx.iC;cases e2;have:mx.toNat=0:=by omega
   rw[this];exact .plain _ rfl
  |some ad=>
   rcases hx.dx with⟨i,off,c2,lc,rfl,DO,g1,g2,g3,e2⟩|⟨i,off,a2,rfl,rfl,rfl,e2⟩
   ·cases e2;refine .slice i off 0 mx.toNat mx.toNat lc DO (by omega) (by omega) ?_
    have:mx.toNat*lc.es≤dG*lc.es:=Nat.mul_le_mul_right _ (by omega)
    omega
   ·cases e2;have:mx.toNat=0:=by omega
    rw[this];exact .mj _ _ _
 obtain⟨v',hr,vM⟩:=sj (P:=P) (w:=w) hS hx0 z4 z5 h;refine⟨v',?_,vM⟩;rw[←hr];unfold oY at h;split at h
 case h_2=>cases h
 rename_i elem a0 adM adN hu e0;cases e0;cases hz:il P elem with
 |none=>rw[hz] at h;cases h
 |some size=>
  rw[hz] at h;simp only at h;split at h
  case h_2=>cases h
  rename_i h' l hh hl;split at h
  case isFalse=>cases h
  rename_i hbb;have ZK:=wI (P:=P) (w:=w) z4 z5 hh hl hbb (Nat.le_refl _);have FW:(Instr.sliceBounds true len dG P7 vK (some (.int k mx))).run P w= .ok (l.toNat,h'.toNat,mx.toNat) w:=by
   have Jd:=iF (P:=P) (k:=k) (n:=mx) (y:=dG) (c:=.slice3Acap) hb.1 (by omega) w
   rcases z5 with⟨e,_⟩|⟨c,c',e,rfl,r⟩
   ·cases e
   cases e;obtain⟨k1,rfl⟩:=jX r hh;have h1:=iF (P:=P) (k:=k1) (y:=mx.toNat) (c:=.slice3B) hbb.1 (by omega) w
   rcases z4 with⟨rfl,rfl⟩|⟨c2,c2',rfl,rfl,r2⟩
   ·simp only[cV] at hl;cases hl;simp[Instr.sliceBounds,Jd,h1]
   ·obtain⟨k2,rfl⟩:=jX r2 hl;have h2:=iF (P:=P) (k:=k2) (n:=l) (y:=h'.toNat) (c:=.slice3C) hbb.2.2.1 (by omega) w
    simp[Instr.sliceBounds,Jd,h1,h2]
  simp[Instr.sliceAt,Instr.slice,run_underlying hu,ZK,FW,eh hz]
theorem BU {argTypes:Array TypeId}{ty:TypeId}{x x' v:Value}(hS:cQ P μ H w B)(hx:VR μ x x')(h:tV P argTypes x H=some (v,H')):
  Told P μ v H' w B ((Builtin.clear_ argTypes ty #[x']).run P w):=by
 have Uw:VR μ undef (.tuple #[]):=dB.tuple (c:=#[]) (c':=#[]) .nil;unfold tV at h;split at h
 case h_2=>cases h
 rename_i elem base n cap hu;rw[Option.bind_eq_some_iff] at hu;obtain⟨t,ht,hu⟩:=hu;cases hz:zeroOf P elem with
 |none=>rw[hz] at h;cases h
 |some z=>
  rw[hz] at h;simp only at h;obtain⟨FB,oS,_⟩:=dR hz w;obtain⟨_,a',dG,rfl,FM,_⟩:=hx.fG;cases base with
  |none=>
   simp only at h;cases h;cases a' with
   |some _=>simp at FM
   |none=>
    have:(Builtin.clear_ argTypes ty #[.slice none n dG]).run P w= .ok (.tuple #[]) w:=by
     cases n<;>simp[Builtin.clear_,ht,run_underlying hu]
    rw[this];exact Told.same hS Uw
  |some ad=>
   obtain⟨i,off,spot⟩:=ad;cases spot with
   |some _=>cases h
   |none=>
    simp only at h;split at h
    ·rename_i Hw;cases h;subst Hw;have:(Builtin.clear_ argTypes ty #[.slice a' 0 dG]).run P w= .ok (.tuple #[]) w:=by
      cases a'<;>simp[Builtin.clear_,ht,run_underlying hu]
     rw[this];exact Told.same hS Uw
    ·rename_i Hw;rw[Option.map_eq_some_iff] at h;obtain⟨H2,kW,e⟩:=h;cases e;rcases hx.dx with⟨i2,po,BS,l,e,hl,g1,g2,g3,e2⟩|⟨i2,po,a2,e,rfl,rfl,e2⟩
     ·cases e;cases e2;have sB:=kX (μ:=μ) oS n;obtain⟨w',hr,pg,hB⟩:=hS.st hl kW sB;have dX: ∃n',n=n'+1:=⟨n-1,by omega⟩
      obtain⟨n',rfl⟩:=dX;have hzz:(Builtin.zeroCells z.cells (n'+1)).toList=bR z.cells.toList (n'+1):=by
       by_cases h0:z.cells.size=0
       ·have e1:z.cells= #[]:=Array.eq_empty_of_size_eq_zero h0;rw[e1];simp[Builtin.zeroCells,bR]
       ·rw[←mq _ _ h0]
      have:(Builtin.clear_ argTypes ty #[.slice (some ⟨l.b,l.o+off,none⟩) (n'+1) dG]).run P w= .ok (.tuple #[]) w':=by
       simp[Builtin.clear_,ht,run_underlying hu,FB,hzz,hr]
      rw[this];exact⟨_,μ,w',rfl,μ.le_refl,Uw,pg,hB⟩
     ·exact absurd rfl Hw
theorem tZ {t:TypeId}{q:IntKind}{z:Value}(h:mapOf P t=some (q,z)): ∃k e,P.underlying t=some (.map k e)∧P.underlying k=some (.int q)∧zeroOf P e=some z:=by
 unfold mapOf at h;split at h
 case h_2=>cases h
 rename_i k e ht;split at h
 case h_2=>cases h
 rename_i q' z' hk hz;cases h;exact⟨k,e,ht,hk,hz⟩
theorem jw {k:TypeId}{q:IntKind}(hk:P.underlying k=some (.int q))(b:Bool)(q':IntKind)(n:Int)(w:World):(Instr.checkKey b 10000 k (.int q' n)).run P w= .ok () w:=by
 unfold Instr.checkKey;simp[run_underlying hk]
theorem uR (q:IntKind)(n:Int): ∀(ms:List MapEntry) (es:List (Int×Value)) (i:Nat),ms.map (·.key)=es.map (λe=>Value.int q e.1)→
  Instr.findNow (.int q) (.int q n) ms i=some ((es.findIdx? (λe=>e.1==n)).bind λj=>(ms[j]?).map λm=>(i+j,m.val))
 | [],es,i,h=>by
  have:es=[]:=by cases es with|nil=>rfl|cons _ _=>simp at h
  subst this;simp[Instr.findNow]
 |m::ms,es,i,h=>by
  cases es with
  |nil=>simp at h
  |cons e es=>
   simp only[List.map_cons,List.cons.injEq] at h;obtain⟨h1,h2⟩:=h;rw[Instr.findNow,h1];simp only[Instr.sameNow,if_true];by_cases he:n=e.1
   ·subst he;simp[List.findIdx?_cons]
   ·have hb:(n==e.1)=false:=by simpa using he
    have z7:(e.1==n)=false:=by simpa using λx=>he x.symm
    rw[hb];simp only;rw[uR q n ms es (i+1) h2,List.findIdx?_cons,z7];simp only[Bool.false_eq_true,if_false];cases es.findIdx? (λe=>e.1==n) with
    |none=>rfl
    |some j=>simp[Nat.add_assoc,Nat.add_comm 1 j]
theorem MK (es:List (Int×Value))(n:Int):es.find? (λe=>e.1==n)=(es.findIdx? (λe=>e.1==n)).bind (es[·]?):=by
 induction es with
 |nil=>rfl
 |cons e es ih=>
  rw[List.find?_cons,List.findIdx?_cons];by_cases h:(e.1==n)=true
  ·rw[h];rfl
  ·have:(e.1==n)=false:=by simpa using h
   rw[this];simp only[Bool.false_eq_true,if_false,ih];cases es.findIdx? (λe=>e.1==n)<;>rfl
theorem pq {k:TypeId}{q:IntKind}(hk:P.underlying k=some (.int q))(n:Int){ms:Array MapEntry}{es:List (Int×Value)}(h:ms.toList.map (·.key)=es.map (λe=>Value.int q e.1))(w:World):
  (Instr.findKey k (.int q n) ms.toList).run P w= .ok ((es.findIdx? (λe=>e.1==n)).bind λj=>(ms[j]?).map λm=>(j,m.val)) w:=by
 unfold Instr.findKey;simp only[Sem.run_bind,run_underlying hk,Result.andThen_ok,uR q n ms.toList es 0 h,Sem.run_pure]
 congr 2
 funext j
 simp
theorem BV {t:TypeId}{m m' x x' v:Value}{ok:Bool}(hS:cQ P μ H w B)(hm:VR μ m m')(hx:VR μ x x')(h:pW P t m x ok H=some v):
  ∃v',(Instr.lookup t m' x' ok).run P w= .ok v' w∧VR μ v v':=by
 unfold pW at h;split at h
 case h_2=>cases h
 rename_i q z Qq;obtain⟨k,e,ht,hk,hz⟩:=tZ Qq;unfold n8 at h;split at h
 case h_2=>cases h
 rename_i i q1 n;obtain rfl:=hx.int;split at h
 case h_2=>cases h
 rename_i q2 es ho;split at h
 case isFalse=>cases h
 rename_i hq;obtain⟨rfl,rfl⟩:=hq;obtain⟨l,hl,hB,ms,clock,hh,lU,qR⟩:=hS.cT.ok _ _ ho;have Ml:m'= .map (some l.b):=by
  cases hm with
  |plain _ h=>simp[bY] at h
  |BM _ l2 h2=>rw[hl] at h2;cases h2;rfl
 subst Ml;have BW:(getObj l.b).run P w= .ok (.map ms clock) w:=by simp[getObj,Sem.run,hh]
 have lz:=pq hk n lU w;rw[MK] at h;have key: ∀r,(Instr.findKey k (.int q n) ms.toList).run P w= .ok r w→(Instr.lookup t (.map (some l.b)) (.int q n) ok).run P w=
   ((match r with|some (_,v)=>pure (v,true)|none=>do pure ((←zeroValue e),false):Sem (Value×Bool)).run P w).andThen λp w=>.ok (if ok then .tuple #[p.1,.bool p.2] else p.1) w:=by
  intro r hr;unfold Instr.lookup;simp only[Sem.run_bind,run_underlying ht,Result.andThen_ok,BW,Sem.run_pure,jw hk,hr];cases r with
  |none=>cases hzz:(zeroValue e).run P w<;>simp[hzz,Result.andThen]
  |some p=>simp
 rw[key _ lz];cases hi:es.findIdx? (λe=>e.1==n) with
 |none=>
  rw[hi] at h;simp only[Option.bind_none] at h ⊢;obtain⟨FB,oS,_⟩:=dR hz w;simp only[Sem.run_bind,FB,Result.andThen_ok,Sem.run_pure];refine⟨_,rfl,?_⟩;cases h;cases ok with
  |true=>exact dB.tuple (.cons (.closed oS) (.cons (.plain _ rfl) .nil))
  |false=>exact .closed oS
 |some j=>
  rw[hi] at h;simp only[Option.bind_some] at h ⊢;cases hj:es[j]? with
  |none=>exact absurd hj (by
    have:=List.findIdx?_eq_some_iff_getElem.1 hi
    obtain⟨eR,_⟩:=this;rw[List.getElem?_eq_getElem eR];simp)
  |some ev=>
   rw[hj] at h;simp only at h;obtain⟨u',MG,hu2⟩:=qR.2 j ev.2 (by rw[List.getElem?_map,hj];rfl)
   rw[List.getElem?_map] at MG;cases hmj:ms.toList[j]? with
   |none=>rw[hmj] at MG;cases MG
   |some mv=>
    rw[hmj] at MG;cases MG;have ab1:ms[j]? =some mv:=by simpa using hmj
    simp only[ab1,Option.map_some,Sem.run_pure,Result.andThen_ok];refine⟨_,rfl,?_⟩;cases h;cases ok with
    |true=>exact dB.tuple (.cons hu2 (.cons (.plain _ rfl) .nil))
    |false=>exact hu2
theorem nD {b:Nat}{x:Obj}{ms:Array MapEntry}{c:Nat}(h:w.heap[b]? =some (.map ms c)):(setObj b x).run P w= .ok () (w.putObj b x):=by
 simp[setObj,Sem.run,h,World.putObj]
theorem vd {t:TypeId}{m m' x x' u u' v:Value}(hS:cQ P μ H w B)(hm:VR μ m m')(hx:VR μ x x')(hu:VR μ u u')(h:nr P t m x u H=some (v,H')):
  ∃w',(Instr.mapUpdate t m' x' u').run P w= .ok () w'∧v=undef∧cQ P μ H' w' B∧fI B w w':=by
 unfold nr at h;split at h
 case h_2=>cases h
 rename_i q z Qq;obtain⟨k,e,ht,hk,hz⟩:=tZ Qq;unfold jS at h;split at h
 case h_2=>cases h
 rename_i i q1 n;obtain rfl:=hx.int;split at h
 case h_2=>cases h
 rename_i q2 es ho;split at h
 case isFalse=>cases h
 rename_i hq;obtain⟨rfl,rfl⟩:=hq;cases h;obtain⟨l,hl,hB,ms,clock,hh,lU,qR⟩:=hS.cT.ok _ _ ho;have Ml:m'= .map (some l.b):=by
  cases hm with
  |plain _ h=>simp[bY] at h
  |BM _ l2 h2=>rw[hl] at h2;cases h2;rfl
 subst Ml;have eR:=(Array.getElem?_eq_some_iff.1 hh).1;have BW:(getObj l.b).run P w= .ok (.map ms clock) w:=by simp[getObj,Sem.run,hh]
 have lz:=pq hk n lU w;have hlen:ms.toList.length=es.length:=by have:=congrArg List.length lU;simpa using this
 cases hi:es.findIdx? (λe=>e.1==n) with
 |none=>
  rw[hi] at lz;simp only[Option.bind_none] at lz;refine⟨_,?_,rfl,hS.eQ (x:=.map (ms.push {key:=.int q n,val:=u',born:=clock}) (clock+1)) ho hl ?_,fI.BT hh hB⟩
  ·unfold Instr.mapUpdate;simp only[Sem.run_bind,run_underlying ht,Result.andThen_ok,BW,jw hk,lz,nD hh]
  ·refine⟨_,_,World.putObj_heap_same eR,?_,?_⟩
   ·simp only[FG,hi,Array.toList_push,List.map_append,lU,List.map_cons,List.map_nil]
   ·simp only[FG,hi,Array.toList_push,List.map_append,List.map_cons,List.map_nil];exact qR.append (.cons hu .nil)
 |some j=>
  obtain⟨z9,hje,_⟩:=List.findIdx?_eq_some_iff_getElem.1 hi;have FX:j<ms.size:=by simpa using(by omega:j<ms.toList.length)
  have hkj:ms[j].key= .int q n:=by
   have:=congrArg (λl=>l[j]?) lU
   simp only[List.getElem?_map,List.getElem?_eq_getElem z9,Array.getElem?_toList,Array.getElem?_eq_getElem FX,Option.map_some,Option.some.injEq] at this;rw[this];have:es[j].1=n:=by simpa using hje
   rw[this]
  rw[hi] at lz;simp only[Option.bind_some,Array.getElem?_eq_getElem FX,Option.map_some] at lz;refine⟨_,?_,rfl,hS.eQ (x:=.map (ms.modify j λe=>{e with key:=.int q n,val:=u'}) clock) ho hl ?_,fI.BT hh hB⟩
  ·unfold Instr.mapUpdate;simp only[Sem.run_bind,run_underlying ht,Result.andThen_ok,BW,jw hk,lz,Array.getElem?_eq_getElem FX,Option.map_some,Option.getD_some,hkj];have kW:(Instr.keyThatStays (.int q n) (.int q n)).run P w= .ok (.int q n) w:=by
    unfold Instr.keyThatStays;simp[Instr.sameBits]
   simp only[kW,Result.andThen_ok,nD hh]
  ·have D6:(ms.modify j λe=>{e with key:=.int q n,val:=u'}).toList=ms.toList.set j {ms[j] with key:=.int q n,val:=u'}:=by
    apply List.ext_getElem?;intro r;rw[Array.getElem?_toList,Array.getElem?_modify,List.getElem?_set];by_cases e:j=r
    ·subst e;rw[if_pos rfl,if_pos rfl,if_pos (by simpa using FX),Array.getElem?_eq_getElem FX];rfl
    ·rw[if_neg e,if_neg e,Array.getElem?_toList]
   refine⟨_,_,World.putObj_heap_same eR,?_,?_⟩
   ·rw[D6,List.map_set,lU];simp only[FG,hi,List.map_set]
   ·rw[D6,List.map_set];simp only[FG,hi,List.map_set];exact qR.set hu j
theorem map_eraseIdx {α β:Type}(f:α→β)(l:List α)(j:Nat):(l.eraseIdx j).map f=(l.map f).eraseIdx j:=by
 apply List.ext_getElem?;intro r;simp only[List.getElem?_map,List.getElem?_eraseIdx];split<;>rfl
theorem BX {argTypes:Array TypeId}{ty:TypeId}{m m' x x' v:Value}(hS:cQ P μ H w B)(hm:VR μ m m')(hx:VR μ x x')(h:vE P argTypes m x H=some (v,H')):
  Told P μ v H' w B ((Builtin.delete_ argTypes ty #[m',x']).run P w):=by
 have Uw:VR μ undef (.tuple #[]):=dB.tuple (c:=#[]) (c':=#[]) .nil;unfold vE at h;split at h
 case h_2=>cases h
 rename_i q z Qq;rw[Option.bind_eq_some_iff] at Qq;obtain⟨t,ZL,Qq⟩:=Qq;obtain⟨k,e,ht,hk,hz⟩:=tZ Qq;unfold mi at h;split at h
 case h_2=>cases h
 rename_i i q1 n;obtain rfl:=hx.int;split at h
 case h_2=>cases h
 rename_i q2 es ho;split at h
 case isFalse=>cases h
 rename_i hq;obtain⟨rfl,rfl⟩:=hq;cases h;obtain⟨l,hl,hB,ms,clock,hh,lU,qR⟩:=hS.cT.ok _ _ ho;have Ml:m'= .map (some l.b):=by
  cases hm with
  |plain _ h=>simp[bY] at h
  |BM _ l2 h2=>rw[hl] at h2;cases h2;rfl
 subst Ml;have eR:=(Array.getElem?_eq_some_iff.1 hh).1;have BW:(getObj l.b).run P w= .ok (.map ms clock) w:=by simp[getObj,Sem.run,hh]
 have lz:=pq hk n lU w;have hlen:ms.toList.length=es.length:=by have:=congrArg List.length lU;simpa using this
 cases hi:es.findIdx? (λe=>e.1==n) with
 |none=>
  rw[hi] at lz;simp only[Option.bind_none] at lz;have dU:(Builtin.delete_ argTypes ty #[.map (some l.b),.int q n]).run P w= .ok (.tuple #[]) (w.putObj l.b (.map ms clock)):=by
   unfold Builtin.delete_;simp[ZL,run_underlying ht,BW,jw hk,lz,nD hh]
  rw[dU];refine⟨_,μ,_,rfl,μ.le_refl,Uw,hS.eQ ho hl ⟨ms,clock,World.putObj_heap_same eR,?_,?_⟩,fI.BT hh hB⟩
  ·simpa[FH,hi] using lU
  ·simpa[FH,hi] using qR
 |some j=>
  obtain⟨z9,hje,_⟩:=List.findIdx?_eq_some_iff_getElem.1 hi;have FX:j<ms.size:=by simpa using(by omega:j<ms.toList.length)
  rw[hi] at lz;simp only[Option.bind_some,Array.getElem?_eq_getElem FX,Option.map_some] at lz;have dU:(Builtin.delete_ argTypes ty #[.map (some l.b),.int q n]).run P w= .ok (.tuple #[]) (w.putObj l.b (.map (ms.eraseIdxIfInBounds j) clock)):=by
   unfold Builtin.delete_;simp[ZL,run_underlying ht,BW,jw hk,lz,nD hh]
  rw[dU];have D6:(ms.eraseIdxIfInBounds j).toList=ms.toList.eraseIdx j:=by
   unfold Array.eraseIdxIfInBounds;rw[dif_pos FX];simp
  refine⟨_,μ,_,rfl,μ.le_refl,Uw,hS.eQ ho hl ⟨_,clock,World.putObj_heap_same eR,?_,?_⟩,fI.BT hh hB⟩
  ·rw[D6,map_eraseIdx,lU];simp only[FH,hi,map_eraseIdx]
  ·rw[D6];simp only[FH,hi,map_eraseIdx];refine⟨?_,λr y hr=>?_⟩
   ·have:=qR.1;simp[List.length_eraseIdx] at this ⊢;simp[this]
   ·rw[List.getElem?_eraseIdx] at hr ⊢;split
    ·rename_i h1;rw[if_pos h1] at hr;exact qR.2 _ _ hr
    ·rename_i h1;rw[if_neg h1] at hr;exact qR.2 _ _ hr
theorem Aa {t:TypeId}{v:Value}(hS:cQ P μ H w B)(h:rT P t H=some (v,H')):Told P μ v H' w B ((Instr.makeMap t none).run P w):=by
 unfold rT at h;split at h
 case h_2=>cases h
 rename_i q z Qq;cases h;have dU:(Instr.makeMap t none).run P w= .ok (.map (some w.heap.size)) (w.alloc (.map #[] 0)):=by
  unfold Instr.makeMap;simp
 rw[dU];have FY: ∀k,k<w.heap.size→(w.alloc (.map #[] 0)).heap[k]? =w.heap[k]? :=λk hk=>Below.heap_alloc _ _ _ hk
 obtain⟨h1,h2⟩:=hS.gj (w1:=w.alloc (.map #[] 0)) (l:=w.heap.size) (o:=.jC q []) FY (by simp) (Nat.le_refl _) ⟨#[],0,World.alloc_heap_new w _,rfl,.nil⟩
 exact⟨_,_,_,rfl,h1,.BM _ ⟨w.heap.size,0,0,0⟩ Mu.aH,h2,(fI.refl B w).alloc hS.base _⟩
theorem FZ {t k e:TypeId}{argTypes:Array TypeId}{ty:TypeId}{m m' v:Value}(hS:cQ P μ H w B)(hm:VR μ m m')(ZL:argTypes[0]? =some t)(ht:P.underlying t=some (.map k e))(h:BH m H=some v):
  (Builtin.len_ argTypes ty #[m']).run P w= .ok v w∧bY v=true:=by
 unfold BH at h;split at h
 case h_2=>cases h
 rename_i i;split at h
 case h_2=>cases h
 rename_i q es ho;cases h;obtain⟨l,hl,hB,ms,clock,hh,lU,qR⟩:=hS.cT.ok _ _ ho;have Ml:m'= .map (some l.b):=by
  cases hm with
  |plain _ h=>simp[bY] at h
  |BM _ l2 h2=>rw[hl] at h2;cases h2;rfl
 subst Ml;have BW:(getObj l.b).run P w= .ok (.map ms clock) w:=by simp[getObj,Sem.run,hh]
 have hlen:ms.size=es.length:=by have:=congrArg List.length lU;simpa using this
 refine⟨?_,rfl⟩;unfold Builtin.len_;simp[ZL,run_underlying ht,BW,goInt,hlen]
variable {P:Program} {μ:Mu} {H H':aa} {w:World} {B:Nat}
theorem D7 {argTypes:Array TypeId}{ty:TypeId}{d d' s s' v:Value}(hS:cQ P μ H w B)(hd:VR μ d d')(hs:VR μ s s')(h:n7 P argTypes d s H=some (v,H')):
  Told P μ v H' w B ((Builtin.copy_ argTypes ty #[d',s']).run P w):=by
 unfold n7 at h;split at h
 ·rename_i Tk hd0;split at h
  ·rename_i elem base DT adO sa sLen sCap hu;cases hz:il P elem with
   |none=>rw[hz] at h;cases h
   |some size=>
    rw[hz] at h;simp only at h;obtain⟨_,sa',wP,rfl,_,_⟩:=hs.fG;obtain⟨_,wO,ZM,rfl,FM,_⟩:=hd.fG;cases hc:bq H size (min sLen DT) (.slice sa sLen sCap) with
    |none=>rw[hc] at h;cases h
    |some cs=>
     rw[hc] at h;simp only at h;obtain⟨hlen,jF,c8,hv,dU⟩:=ph (P:=P) hS hs (Nat.min_le_left _ _) hc;have wF:c8.length=min sLen DT*size:=by rw[←hv.1];exact hlen
     have hr:(Builtin.copy_ argTypes ty #[.slice wO DT ZM,.slice sa' sLen wP]).run P w=
       ((match wO with|some a=>storeCells a c8|none=>pure ():Sem Unit).run P w).andThen λ_ w=>.ok (.int .i64 (min sLen DT:Nat)) w:=by
      have e:Nat.min sLen DT=min sLen DT:=rfl;simp[Builtin.copy_,hd0,run_underlying hu,Builtin.lenOf,eh hz,e,dU w rfl,goInt];cases wO<;>simp
     rw[hr];cases base with
     |none=>
      simp only at h;cases h;cases wO with
      |some _=>simp at FM
      |none=>exact Told.same hS (.plain _ rfl)
     |some ad=>
      obtain⟨i,off,spot⟩:=ad;cases spot with
      |some _=>cases h
      |none=>
       simp only at h;split at h
       ·rename_i Hw;cases h;have:c8=[]:=List.eq_nil_of_length_eq_zero (by rw[wF,Hw];simp)
        subst this;cases wO with
        |none=>simp at FM
        |some a=>simp only[storeCells,Sem.run_pure,Result.andThen_ok];exact Told.same hS (.plain _ rfl)
       ·rename_i Hw;rw[Option.map_eq_some_iff] at h;obtain⟨H2,kW,e⟩:=h;cases e;rcases hd.dx with⟨i2,po,BS,l,e,hl,g1,g2,g3,e2⟩|⟨i2,po,a2,e,rfl,rfl,e2⟩
        ·cases e;cases e2;obtain⟨w',hr,pg,hB⟩:=hS.st hl kW hv;simp only[hr,Result.andThen_ok];exact⟨_,μ,w',rfl,μ.le_refl,.plain _ rfl,pg,hB⟩
        ·simp at Hw
  ·cases h
 ·cases h
theorem F0 {argTypes:Array TypeId}{ty:TypeId}{x x' v:Value}(hS:cQ P μ H w B)(hx:VR μ x x')(h:BI P H argTypes x=some v):
  (Builtin.len_ argTypes ty #[x']).run P w= .ok v w∧bY v=true:=by
 unfold BI at h;split at h
 ·rename_i t ht;split at h
  ·rename_i k e hu;exact FZ hS hx ht hu h
  ·rename_i s hu;obtain rfl:=hx.string;cases h;exact⟨by simp[Builtin.len_,ht,run_underlying hu,goInt],rfl⟩
  ·rename_i n e hu;cases h;exact⟨by simp[Builtin.len_,ht,run_underlying hu,goInt],rfl⟩
  ·rename_i a n c e hu;obtain⟨_,a',c',rfl,_⟩:=hx.fG;cases h;exact⟨by simp[Builtin.len_,ht,run_underlying hu,goInt],rfl⟩
  ·cases h
 ·cases h
def fY (P:Program)(μ:Mu)(v:Value)(H':aa)(w:World)(B:Nat)(r:Result Next):Prop:=
 ∃v' μ' w',(r= .ok (.value v') w'∨(r= .ok .skip w'∧v'=undef))∧μ.le μ'∧VR μ' v v'∧cQ P μ' H' w' B∧fI B w w'
theorem Told.next {v:Value}{s:Sem Value}(h:Told P μ v H' w B (s.run P w)):fY P μ v H' w B ((do pure (Next.value (←s)):Sem Next).run P w):=by
 obtain⟨v',μ',w',hr,rest⟩:=h;exact⟨v',μ',w',.inl (by simp[hr]),rest⟩
theorem fY.quiet {v v':Value}{s:Sem Value}(hS:cQ P μ H w B)(hr:s.run P w= .ok v' w)(hv:VR μ v v'):fY P μ v H w B ((do pure (Next.value (←s)):Sem Next).run P w):=
 Told.next (by rw[hr];exact Told.same hS hv)
theorem wQ {b:Builtin}{argTypes:Array TypeId}{ty:TypeId}{consts:Array Bool}{args dS:List Value}{v:Value}(hS:cQ P μ H w B)(ha:dB μ args dS)(h:kh P b argTypes args H=some (v,H')):
  fY P μ v H' w B ((builtin b argTypes ty consts dS.toArray).run P w):=by
 unfold kh at h;split at h
 ·obtain⟨s',_,rfl,r1,h2⟩:=ha.fS;obtain⟨x',_,rfl,r2,h3⟩:=h2.fS;obtain rfl:=h3.iB;exact(z6 (ty:=ty) hS r1 r2 h).next
 ·obtain⟨s',_,rfl,r1,h2⟩:=ha.fS;obtain⟨x',_,rfl,r2,h3⟩:=h2.fS;obtain rfl:=h3.iB;exact(D7 (ty:=ty) hS r1 r2 h).next
 ·obtain⟨x',_,rfl,r1,h3⟩:=ha.fS;obtain rfl:=h3.iB;rw[Option.map_eq_some_iff] at h;obtain⟨v2,hv,e⟩:=h;cases e;obtain⟨hr,hp⟩:=F0 (ty:=ty) hS r1 hv;exact fY.quiet hS hr (.plain _ hp)
 ·obtain⟨x',_,rfl,r1,h3⟩:=ha.fS;obtain rfl:=h3.iB;exact(BU (ty:=ty) hS r1 h).next
 ·obtain⟨s',_,rfl,r1,h2⟩:=ha.fS;obtain⟨x',_,rfl,r2,h3⟩:=h2.fS;obtain rfl:=h3.iB;exact(BX (ty:=ty) hS r1 r2 h).next
 ·rename_i len n;obtain⟨x',_,rfl,r1,h3⟩:=ha.fS;obtain rfl:=h3.iB;obtain⟨rfl,rfl,rfl⟩:=r1.iC;split at h
  ·rename_i e hu;cases h;rw[Option.bind_eq_some_iff] at hu;obtain⟨t,ht,hu⟩:=hu;exact fY.quiet (v':=.int .i64 0) hS (by simp[Builtin.cap_,ht,run_underlying hu,goInt]) (.plain _ rfl)
  ·cases h
 ·rename_i k a k' c;obtain⟨s',_,rfl,r1,h2⟩:=ha.fS;obtain⟨x',_,rfl,r2,h3⟩:=h2.fS;obtain rfl:=h3.iB;obtain rfl:=r1.int;obtain rfl:=r2.int;split at h
  ·rename_i e;subst e;cases h;exact fY.quiet hS (by simp[Builtin.min_,Builtin.min2]) (.plain _ rfl)
  ·cases h
 ·rename_i k a k' c;obtain⟨s',_,rfl,r1,h2⟩:=ha.fS;obtain⟨x',_,rfl,r2,h3⟩:=h2.fS;obtain rfl:=h3.iB;obtain rfl:=r1.int;obtain rfl:=r2.int;split at h
  ·rename_i e;subst e;cases h;exact fY.quiet hS (by simp[Builtin.max_,Builtin.max2]) (.plain _ rfl)
  ·cases h
 ·cases h
theorem Mo.map {ρ ρ':Operand→Value}(hρ: ∀x,VR μ (ρ x) (ρ' x))(o:Option Operand):Mo μ (o.map ρ) (o.map ρ'):=by
 cases o with
 |none=>exact .inl ⟨rfl,rfl⟩
 |some x=>exact .inr ⟨_,_,rfl,rfl,hρ x⟩
theorem dB.map {ρ ρ':Operand→Value}(hρ: ∀x,VR μ (ρ x) (ρ' x))(l:List Operand):dB μ (l.map ρ) (l.map ρ'):=by
 induction l with
 |nil=>exact .nil
 |cons x l ih=>exact .cons (hρ x) ih
theorem dB.parts {ρ ρ':Operand→Value}(hρ: ∀x,VR μ (ρ x) (ρ' x))(l:List (Nat×Operand)):
  dB μ ((l.map λ(i,x)=>(i,ρ x)).map (·.2)) ((l.map λ(i,x)=>(i,ρ' x)).map (·.2)):=by
 induction l with
 |nil=>exact .nil
 |cons x l ih=>exact .cons (hρ x.2) ih
theorem ua {ρ ρ':Operand→Value}(l:List (Nat×Operand)):
  (l.map λ(i,x)=>(i,ρ x)).map (·.1)=(l.map λ(i,x)=>(i,ρ' x)).map (·.1):=by
 induction l with
 |nil=>rfl
 |cons x l ih=>simp
theorem Je {ρ ρ':Operand→Value}{o:Oper}{v:Value}(hS:cQ P μ H w B)(hρ: ∀x,VR μ (ρ x) (ρ' x))(h:im P ρ H o.op=some (v,H')):
  fY P μ v H' w B ((execOp ρ' o).run P w):=by
 obtain⟨dst,op,type,pos,after,guard⟩:=o;simp only at h;unfold im at h;split at h<;>(unfold execOp;try simp only)
 ·
  cases h;exact⟨_,μ,w,.inl rfl,μ.le_refl,hρ _,hS,fI.refl _ _⟩
 ·cases h;exact⟨_,μ,w,.inl rfl,μ.le_refl,hρ _,hS,fI.refl _ _⟩
 ·
  rename_i c a b;split at h
  ·rename_i t hc;cases h;have Jb:=hρ c;rw[hc] at Jb;have e:=Jb.bool;refine⟨if t then ρ' a else ρ' b,μ,w,.inl ?_,μ.le_refl,?_,hS,fI.refl _ _⟩
   ·simp[e,asBool]
   ·cases t
    ·exact hρ b
    ·exact hρ a
  ·cases h
 ·
  rename_i t;split at h
  ·rename_i z hz;obtain⟨FB,oS,_⟩:=dR hz w;cases h;have:=so (P:=P) (t:=t) (t':=t) (c8:=z.cells) hS (ri oS) (km oS)
   refine Told.next ?_;have e:(Instr.alloc t true (.tuple #[])).run P w=(do pure (.pointer (some (←newRow t z.cells))):Sem Value).run P w:=by
    simp[Instr.alloc,FB,newVar]
   rw[e];exact this
  ·cases h
 ·
  rename_i t x;split at h
  ·rename_i jF;cases h;have hk:known (ρ x)=true:=by
    revert jF
    cases ρ x<;>simp[Value.cells,av,known]
   exact Told.next (so (P:=P) (t:=t) (t':=t) (c8:=(ρ' x).cells) hS jF (dB.cells (hρ x) hk))
  ·cases h
 ·
  rename_i t ps;rw[Option.map_eq_some_iff] at h;obtain⟨v2,hv,e⟩:=h;cases e;obtain⟨v',hr,vM⟩:=BP (ua ps.toList) (dB.parts hρ ps.toList) hv w;refine fY.quiet hS ?_ vM;have e:(ps.map λ(i,x)=>(i,ρ' x))=(ps.toList.map λ(i,x)=>(i,ρ' x)).toArray:=by
   rw[←Array.toList_inj];simp
  rw[e];exact hr
 ·
  rename_i t n ps;have:=sq (P:=P) hS (ua (ρ':=ρ') ps.toList) (dB.parts hρ ps.toList) h
  have e:(ps.map λ(i,x)=>(i,ρ' x))=(ps.toList.map λ(i,x)=>(i,ρ' x)).toArray:=by
   rw[←Array.toList_inj];simp
  simp only[e];exact this.next
 ·
  rw[Option.map_eq_some_iff] at h;obtain⟨v2,hv,e⟩:=h;cases e;obtain⟨v',hr,vM⟩:=uP hS (hρ _) hv;exact fY.quiet hS hr vM
 ·
  rw[Option.map_eq_some_iff] at h;obtain⟨H2,hv,e⟩:=h;cases e;obtain⟨w',hr,pg,hB⟩:=D2 hS (hρ _) (hρ _) hv;exact⟨undef,μ,w',.inr ⟨by simp[hr],rfl⟩,μ.le_refl,dB.tuple .nil,pg,hB⟩
 ·
  rename_i x;have hx:=hρ x;split at h
  ·rename_i a e;cases h;rw[e] at hx;obtain⟨i,off,l,rfl,hl,e2⟩:=hx.nu;rw[e2];exact⟨_,μ,w,.inl rfl,μ.le_refl,.ptr i off l hl,hS,fI.refl _ _⟩
  ·rename_i g f c e;cases h;rw[e] at hx;obtain⟨f',c',e2,h1,h2⟩:=hx.wD rfl;rw[e2] at hx ⊢;exact⟨_,μ,w,.inl rfl,μ.le_refl,hx,hS,fI.refl _ _⟩
  ·cases h
 ·
  rename_i op t x y yt;rw[Option.map_eq_some_iff] at h;obtain⟨v2,hv,e⟩:=h;cases e;obtain⟨hr,hp⟩:=wG (hρ x) (hρ y) hv x y w;exact fY.quiet hS hr (.plain _ hp)
 ·
  rw[Option.map_eq_some_iff] at h;obtain⟨v2,hv,e⟩:=h;cases e;obtain⟨hr,hp⟩:=I9 (P:=P) (hρ _) hv w;exact fY.quiet hS hr (.plain _ hp)
 ·
  rename_i src dst x;split at h
  ·rename_i d k k' n hs hu hx;cases h;have Jf:=hρ x;rw[hx] at Jf;have e:=Jf.int;refine fY.quiet (v':=.int k (k.wrap n)) hS ?_ (.plain _ rfl);rw[e];simp only[convert,Sem.run_bind,run_underlying hs,run_underlying hu,Result.andThen_ok];cases d<;>simp[Conv.intToInt]
  ·cases h
 ·
  rename_i g first captured
  cases h;refine fY.quiet (v':=.func (.func g) (first.map ρ') (captured.map ρ')) hS rfl ?_
  have h1:=dB.map hρ first.toList
  have h2:=dB.map hρ captured.toList;rw[←Array.toList_map, ←Array.toList_map] at h1 h2;exact .func _ _ _ _ _ rfl h1.arr.1 h2.arr.1 h1.arr.2 h2.arr.2
 ·
  exact(tY hS (hρ _) (hρ _) h).next
 ·
  rw[Option.map_eq_some_iff] at h;obtain⟨v2,hv,e⟩:=h;cases e;obtain⟨v',hr,vM⟩:=sj (P:=P) hS (hρ _) (Mo.map hρ _) (Mo.map hρ _) hv;exact fY.quiet hS hr vM
 ·
  rw[Option.map_eq_some_iff] at h;obtain⟨v2,hv,e⟩:=h;cases e;obtain⟨v',hr,vM⟩:=z8 (P:=P) hS (hρ _) (Mo.map hρ _) (Mo.map hρ _) (hρ _) hv;exact fY.quiet hS hr vM
 ·
  exact(Aa hS h).next
 ·
  rw[Option.map_eq_some_iff] at h;obtain⟨v2,hv,e⟩:=h;cases e;obtain⟨v',hr,vM⟩:=BV (P:=P) hS (hρ _) (hρ _) hv;exact fY.quiet hS hr vM
 ·
  obtain⟨w',hr,rfl,pg,hB⟩:=vd (P:=P) hS (hρ _) (hρ _) (hρ _) h;exact⟨undef,μ,w',.inr ⟨by simp[hr],rfl⟩,μ.le_refl,dB.tuple .nil,pg,hB⟩
 ·
  rename_i t x f;have hx:=hρ x;split at h
  ·rename_i fields i off hu e;rw[e] at hx;obtain⟨i2,po,l,e1,hl,e2⟩:=hx.nu;cases e1;split at h
   ·rename_i fd hf;split at h
    ·cases h
    ·rename_i n Hw hn;cases h;have dX:n≠0:=λe=>Hw e
     refine fY.quiet (v':=.pointer (some ⟨l.b,l.o+(off+fd.offset),none⟩)) hS ?_ (.ptr i _ l hl);rw[e2];simp[Instr.fieldAt,run_underlying hu,hf,Instr.sureAddr,fieldPlace,eh hn,dX,ir,Nat.add_assoc]
    ·cases h
   ·cases h
  ·cases h
 ·
  rename_i t x f;have hx:=hρ x;split at h
  ·rename_i fields cs hu e;rw[e] at hx;obtain⟨c8,e2,lK⟩:=hx.pY;split at h
   ·rename_i fd hf;rw[Option.map_eq_some_iff] at h;obtain⟨v2,hv,e3⟩:=h;cases e3;obtain⟨v',hr,vM⟩:=lT lK hv w;refine fY.quiet hS ?_ vM;rw[e2];simp[Instr.field,run_underlying hu,hf,asAgg,hr]
   ·cases h
  ·cases h
 ·
  rename_i t x ix;have hx:=hρ x;have hi:=hρ ix;split at h
  ·rename_i elem i off len cap k n hu e1 e2;rw[e1] at hx;rw[e2] at hi;have e3:=hi.int;split at h
   ·rename_i size hz;split at h
    ·rename_i hb;cases h;rcases hx.dx with⟨i2,po,BS,l,e,hl,g1,g2,g3,e4⟩|⟨i2,po,a2,e,rfl,rfl,e4⟩
     ·cases e;refine fY.quiet (v':=.pointer (some ⟨l.b,l.o+(off+n.toNat*size),none⟩)) hS ?_ (.ptr i _ l hl);rw[e3,e4];simp[Instr.indexAt,asIntOf,run_underlying hu,hb,eh hz,ir,Nat.add_assoc]
     ·omega
    ·cases h
   ·cases h
  ·rename_i len elem i off k n hu e1 e2;rw[e1] at hx;rw[e2] at hi;have e3:=hi.int;split at h
   ·rename_i size hz;split at h
    ·rename_i hb;cases h;obtain⟨i2,po,l,e,hl,e4⟩:=hx.nu;cases e;refine fY.quiet (v':=.pointer (some ⟨l.b,l.o+(off+n.toNat*size),none⟩)) hS ?_ (.ptr i _ l hl);rw[e3,e4];simp[Instr.indexAt,asIntOf,run_underlying hu,hb,eh hz,ir,Nat.add_assoc,Instr.sureAddr]
    ·cases h
   ·cases h
  ·cases h
 ·
  rename_i t x ix;have hx:=hρ x;have hi:=hρ ix;split at h
  ·rename_i len elem cs k n hu e1 e2;rw[e1] at hx;rw[e2] at hi;have e3:=hi.int;obtain⟨c8,e4,lK⟩:=hx.pY;split at h
   ·rename_i size hz;split at h
    ·rename_i hb;rw[Option.map_eq_some_iff] at h;obtain⟨v2,hv,e5⟩:=h;cases e5;obtain⟨v',hr,vM⟩:=lT lK hv w;refine fY.quiet hS ?_ vM;rw[e3,e4];simp[Instr.index,asIntOf,run_underlying hu,hb,eh hz,hr]
    ·cases h
   ·cases h
  ·rename_i s k n hu e1 e2;rw[e1] at hx;rw[e2] at hi;have e3:=hi.int;have e4:=hx.string;split at h
   ·rename_i hb;rw[Option.map_eq_some_iff] at h;obtain⟨c,hc,e5⟩:=h;cases e5;refine fY.quiet (v':=.int .u8 c.toNat) hS ?_ (.plain _ rfl);rw[e3,e4];simp[Instr.index,asIntOf,run_underlying hu,hb,hc]
   ·cases h
  ·cases h
 ·
  rename_i t ix;have hx:=hρ t;split at h
  ·rename_i vs e;rw[e] at hx;obtain⟨iM,e2,hvs⟩:=hx.AW;rw[Option.map_eq_some_iff] at h;obtain⟨v2,hv,e5⟩:=h;cases e5;obtain⟨v',MH,u9⟩:=hvs.2 ix v (by simpa using hv)
   refine fY.quiet hS ?_ u9;rw[e2];simp[Instr.extract,show iM[ix]? =some v' by simpa using MH]
  ·cases h
 ·
  rename_i b args argTypes;have:=wQ (P:=P) (ty:=type) (consts:=(args.map λ| .const _=>true|_=>false)) hS (dB.map hρ args.toList) h
  simp only[resolve,Sem.run_bind,Sem.run_pure,Result.andThen_ok,invoke];have e:(args.toList.map ρ').toArray=args.map ρ':=by rw[←Array.toList_inj];simp
  rw[e] at this;exact this
 ·cases h
end Go.Proofs.YtjgmnoaalbbonaaGreatA.Am
end
