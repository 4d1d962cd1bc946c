/- Texts of the proof of dcssPlays_holds, put together by a small program of ours (names shortened, spaces taken out). No condition beyond the given statement. -/
import Derived.Test.YtgfgglponbmgmaaGreatDCP3
set_option linter.unusedVariables false
set_option linter.unusedSimpArgs false
set_option linter.unnecessarySimpa false
noncomputable section
section
namespace Go.Proofs.YtgfgglponbmgmaaGreatA.Am
open Go.RowKit (Below)
variable {P:Program} {μ:Mu} {H H':aa} {w:World} {B:Nat}
theorem zY {t:TypeId}{x x' v m m':Value}{lo hi Q8 qt:Option Value}(hS:cO P μ H w B)(hx:VR μ x x')(J6:Nk μ lo Q8)(J7:Nk μ hi qt)(hm:VR μ m m')(h:oY P H t x lo hi m=some v):
  ∃v',(Instr.sliceAt t x' Q8 qt (some m')).run P w= .ok v' w∧VR μ v v':=by
 unfold oY at h;split at h
 case h_2=>cases h
 rename_i a len cap hv k mx;split at h
 case isFalse=>cases h
 rename_i hb;obtain rfl:=hm.int;obtain⟨Dw,a',fj,rfl,FJ,hcc⟩:=hx.fh;have hx0:VR μ (.slice a 0 mx.toNat) (.slice a' 0 mx.toNat):=by
  cases a with
  |none=>
   obtain⟨rfl,rfl,e2⟩:=hx.ic;cases e2;have:mx.toNat=0:=by omega
   rw[this];exact .plain _ rfl
  |some ad=>
   rcases hx.eM with⟨i,off,c2,lc,rfl,DK,g1,g2,g3,e2⟩|⟨i,off,a2,rfl,rfl,rfl,e2⟩
   ·cases e2;refine .slice i off 0 mx.toNat mx.toNat lc DK (by omega) (by omega) ?_
    have:mx.toNat*lc.es≤fj*lc.es:=Nat.mul_le_mul_right _ (by omega)
    omega
   ·cases e2;have:mx.toNat=0:=by omega
    rw[this];exact .mi _ _ _
 obtain⟨v',hr,FW⟩:=rj (P:=P) (w:=w) hS hx0 J6 J7 h;refine⟨v',?_,FW⟩;rw[←hr];unfold oh at h;split at h
 case h_2=>cases h
 rename_i elem a0 ad9 aea hu e0;cases e0;cases hz:jK P elem with
 |none=>rw[hz] at h;cases h
 |some size=>
  rw[hz] at h;simp only at h;split at h
  case h_2=>cases h
  rename_i h' l hh hl;split at h
  case isFalse=>cases h
  rename_i hbb;have hbd:=wG (P:=P) (w:=w) J6 J7 hh hl hbb (Nat.le_refl _);have hb3:(Instr.sliceBounds true len fj Q8 qt (some (.int k mx))).run P w= .ok (l.toNat,h'.toNat,mx.toNat) w:=by
   have NK:=jN (P:=P) (k:=k) (n:=mx) (y:=fj) (c:=.slice3Acap) hb.1 (by omega) w
   rcases J7 with⟨e,_⟩|⟨c,c',e,rfl,r⟩
   ·cases e
   cases e;obtain⟨k1,rfl⟩:=jM r hh;have h1:=jN (P:=P) (k:=k1) (y:=mx.toNat) (c:=.slice3B) hbb.1 (by omega) w
   rcases J6 with⟨rfl,rfl⟩|⟨c2,c2',rfl,rfl,r2⟩
   ·simp only[di] at hl;cases hl;simp[Instr.sliceBounds,NK,h1]
   ·obtain⟨k2,rfl⟩:=jM r2 hl;have h2:=jN (P:=P) (k:=k2) (n:=l) (y:=h'.toNat) (c:=.slice3C) hbb.2.2.1 (by omega) w
    simp[Instr.sliceBounds,NK,h1,h2]
  simp[Instr.sliceAt,Instr.slice,run_underlying hu,hbd,hb3,eC hz]
theorem BM {argTypes:Array TypeId}{ty:TypeId}{x x' v:Value}(hS:cO P μ H w B)(hx:VR μ x x')(h:sV P argTypes x H=some (v,H')):
  Told P μ v H' w B ((Builtin.clear_ argTypes ty #[x']).run P w):=by
 have Wk:VR μ undef (.tuple #[]):=cU.tuple (c:=#[]) (c':=#[]) .nil;unfold sV at h;split at h
 case h_2=>cases h
 rename_i elem base n cap hu;rw[Option.bind_eq_some_iff] at hu;obtain⟨t,ht,hu⟩:=hu;cases hz:zeroOf P elem with
 |none=>rw[hz] at h;cases h
 |some z=>
  rw[hz] at h;simp only at h;obtain⟨Fw,pD,_⟩:=dS hz w;obtain⟨_,a',fj,rfl,FJ,_⟩:=hx.fh;cases base with
  |none=>
   simp only at h;cases h;cases a' with
   |some _=>simp at FJ
   |none=>
    have:(Builtin.clear_ argTypes ty #[.slice none n fj]).run P w= .ok (.tuple #[]) w:=by
     cases n<;>simp[Builtin.clear_,ht,run_underlying hu]
    rw[this];exact Told.same hS Wk
  |some ad=>
   obtain⟨i,off,spot⟩:=ad;cases spot with
   |some _=>cases h
   |none=>
    simp only at h;split at h
    ·rename_i HJ;cases h;subst HJ;have:(Builtin.clear_ argTypes ty #[.slice a' 0 fj]).run P w= .ok (.tuple #[]) w:=by
      cases a'<;>simp[Builtin.clear_,ht,run_underlying hu]
     rw[this];exact Told.same hS Wk
    ·rename_i HJ;rw[Option.map_eq_some_iff] at h;obtain⟨H2,kx,e⟩:=h;cases e;rcases hx.eM with⟨i2,nT,BK,l,e,hl,g1,g2,g3,e2⟩|⟨i2,nT,a2,e,rfl,rfl,e2⟩
     ·cases e;cases e2;have mq:=kM (μ:=μ) pD n;obtain⟨w',hr,s9,hB⟩:=hS.st hl kx mq;have dx: ∃n',n=n'+1:=⟨n-1,by omega⟩
      obtain⟨n',rfl⟩:=dx;have hzz:(Builtin.zeroCells z.cells (n'+1)).toList=bM z.cells.toList (n'+1):=by
       by_cases h0:z.cells.size=0
       ·have e1:z.cells= #[]:=Array.eq_empty_of_size_eq_zero h0;rw[e1];simp[Builtin.zeroCells,bM]
       ·rw[←mo _ _ h0]
      have:(Builtin.clear_ argTypes ty #[.slice (some ⟨l.b,l.o+off,none⟩) (n'+1) fj]).run P w= .ok (.tuple #[]) w':=by
       simp[Builtin.clear_,ht,run_underlying hu,Fw,hzz,hr]
      rw[this];exact⟨_,μ,w',rfl,μ.le_refl,Wk,s9,hB⟩
     ·exact absurd rfl HJ
theorem tj {t:TypeId}{q:IntKind}{z:Value}(h:mapOf P t=some (q,z)): ∃k e,P.underlying t=some (.map k e)∧P.underlying k=some (.int q)∧zeroOf P e=some z:=by
 unfold mapOf at h;split at h
 case h_2=>cases h
 rename_i k e ht;split at h
 case h_2=>cases h
 rename_i q' z' hk hz;cases h;exact⟨k,e,ht,hk,hz⟩
theorem jj {k:TypeId}{q:IntKind}(hk:P.underlying k=some (.int q))(b:Bool)(q':IntKind)(n:Int)(w:World):(Instr.checkKey b 10000 k (.int q' n)).run P w= .ok () w:=by
 unfold Instr.checkKey;simp[run_underlying hk]
theorem ur (q:IntKind)(n:Int): ∀(ms:List MapEntry) (es:List (Int×Value)) (i:Nat),ms.map (·.key)=es.map (λe=>Value.int q e.1)→
  Instr.findNow (.int q) (.int q n) ms i=some ((es.findIdx? (λe=>e.1==n)).bind λj=>(ms[j]?).map λm=>(i+j,m.val))
 | [],es,i,h=>by
  have:es=[]:=by cases es with|nil=>rfl|cons _ _=>simp at h
  subst this;simp[Instr.findNow]
 |m::ms,es,i,h=>by
  cases es with
  |nil=>simp at h
  |cons e es=>
   simp only[List.map_cons,List.cons.injEq] at h;obtain⟨h1,h2⟩:=h;rw[Instr.findNow,h1];simp only[Instr.sameNow,if_true];by_cases he:n=e.1
   ·subst he;simp[List.findIdx?_cons]
   ·have hb:(n==e.1)=false:=by simpa using he
    have NJ:(e.1==n)=false:=by simpa using λx=>he x.symm
    rw[hb];simp only;rw[ur q n ms es (i+1) h2,List.findIdx?_cons,NJ];simp only[Bool.false_eq_true,if_false];cases es.findIdx? (λe=>e.1==n) with
    |none=>rfl
    |some j=>simp[Nat.add_assoc,Nat.add_comm 1 j]
theorem NL (es:List (Int×Value))(n:Int):es.find? (λe=>e.1==n)=(es.findIdx? (λe=>e.1==n)).bind (es[·]?):=by
 induction es with
 |nil=>rfl
 |cons e es ih=>
  rw[List.find?_cons,List.findIdx?_cons];by_cases h:(e.1==n)=true
  ·rw[h];rfl
  ·have:(e.1==n)=false:=by simpa using h
   rw[this];simp only[Bool.false_eq_true,if_false,ih];cases es.findIdx? (λe=>e.1==n)<;>rfl
theorem oC {k:TypeId}{q:IntKind}(hk:P.underlying k=some (.int q))(n:Int){ms:Array MapEntry}{es:List (Int×Value)}(h:ms.toList.map (·.key)=es.map (λe=>Value.int q e.1))(w:World):
  (Instr.findKey k (.int q n) ms.toList).run P w= .ok ((es.findIdx? (λe=>e.1==n)).bind λj=>(ms[j]?).map λm=>(j,m.val)) w:=by
 unfold Instr.findKey;simp only[Sem.run_bind,run_underlying hk,Result.andThen_ok,ur q n ms.toList es 0 h,Sem.run_pure]
 congr 2
 funext j
 simp
theorem BN {t:TypeId}{m m' x x' v:Value}{ok:Bool}(hS:cO P μ H w B)(hm:VR μ m m')(hx:VR μ x x')(h:oX P t m x ok H=some v):
  ∃v',(Instr.lookup t m' x' ok).run P w= .ok v' w∧VR μ v v':=by
 unfold oX at h;split at h
 case h_2=>cases h
 rename_i q z Rt;obtain⟨k,e,ht,hk,hz⟩:=tj Rt;unfold DB at h;split at h
 case h_2=>cases h
 rename_i i q1 n;obtain rfl:=hx.int;split at h
 case h_2=>cases h
 rename_i q2 es ho;split at h
 case isFalse=>cases h
 rename_i hq;obtain⟨rfl,rfl⟩:=hq;obtain⟨l,hl,hB,ms,clock,hh,lO,pT⟩:=hS.dZ.ok _ _ ho;have Ni:m'= .map (some l.b):=by
  cases hm with
  |plain _ h=>simp[cu] at h
  |BE _ l2 h2=>rw[hl] at h2;cases h2;rfl
 subst Ni;have BO:(getObj l.b).run P w= .ok (.map ms clock) w:=by simp[getObj,Sem.run,hh]
 have kV:=oC hk n lO w;rw[NL] at h;have key: ∀r,(Instr.findKey k (.int q n) ms.toList).run P w= .ok r w→(Instr.lookup t (.map (some l.b)) (.int q n) ok).run P w=
   ((match r with|some (_,v)=>pure (v,true)|none=>do pure ((←zeroValue e),false):Sem (Value×Bool)).run P w).andThen λp w=>.ok (if ok then .tuple #[p.1,.bool p.2] else p.1) w:=by
  intro r hr;unfold Instr.lookup;simp only[Sem.run_bind,run_underlying ht,Result.andThen_ok,BO,Sem.run_pure,jj hk,hr];cases r with
  |none=>cases hzz:(zeroValue e).run P w<;>simp[hzz,Result.andThen]
  |some p=>simp
 rw[key _ kV];cases hi:es.findIdx? (λe=>e.1==n) with
 |none=>
  rw[hi] at h;simp only[Option.bind_none] at h ⊢;obtain⟨Fw,pD,_⟩:=dS hz w;simp only[Sem.run_bind,Fw,Result.andThen_ok,Sem.run_pure];refine⟨_,rfl,?_⟩;cases h;cases ok with
  |true=>exact cU.tuple (.cons (.closed pD) (.cons (.plain _ rfl) .nil))
  |false=>exact .closed pD
 |some j=>
  rw[hi] at h;simp only[Option.bind_some] at h ⊢;cases hj:es[j]? with
  |none=>exact absurd hj (by
    have:=List.findIdx?_eq_some_iff_getElem.1 hi
    obtain⟨gF,_⟩:=this;rw[List.getElem?_eq_getElem gF];simp)
  |some ev=>
   rw[hj] at h;simp only at h;obtain⟨u',ND,hu2⟩:=pT.2 j ev.2 (by rw[List.getElem?_map,hj];rfl)
   rw[List.getElem?_map] at ND;cases hmj:ms.toList[j]? with
   |none=>rw[hmj] at ND;cases ND
   |some mv=>
    rw[hmj] at ND;cases ND;have acy:ms[j]? =some mv:=by simpa using hmj
    simp only[acy,Option.map_some,Sem.run_pure,Result.andThen_ok];refine⟨_,rfl,?_⟩;cases h;cases ok with
    |true=>exact cU.tuple (.cons hu2 (.cons (.plain _ rfl) .nil))
    |false=>exact hu2
theorem nb {b:Nat}{x:Obj}{ms:Array MapEntry}{c:Nat}(h:w.heap[b]? =some (.map ms c)):(setObj b x).run P w= .ok () (w.putObj b x):=by
 simp[setObj,Sem.run,h,World.putObj]
theorem uV {t:TypeId}{m m' x x' u u' v:Value}(hS:cO P μ H w B)(hm:VR μ m m')(hx:VR μ x x')(hu:VR μ u u')(h:mU P t m x u H=some (v,H')):
  ∃w',(Instr.mapUpdate t m' x' u').run P w= .ok () w'∧v=undef∧cO P μ H' w' B∧eW B w w':=by
 unfold mU at h;split at h
 case h_2=>cases h
 rename_i q z Rt;obtain⟨k,e,ht,hk,hz⟩:=tj Rt;unfold Nx at h;split at h
 case h_2=>cases h
 rename_i i q1 n;obtain rfl:=hx.int;split at h
 case h_2=>cases h
 rename_i q2 es ho;split at h
 case isFalse=>cases h
 rename_i hq;obtain⟨rfl,rfl⟩:=hq;cases h;obtain⟨l,hl,hB,ms,clock,hh,lO,pT⟩:=hS.dZ.ok _ _ ho;have Ni:m'= .map (some l.b):=by
  cases hm with
  |plain _ h=>simp[cu] at h
  |BE _ l2 h2=>rw[hl] at h2;cases h2;rfl
 subst Ni;have gF:=(Array.getElem?_eq_some_iff.1 hh).1;have BO:(getObj l.b).run P w= .ok (.map ms clock) w:=by simp[getObj,Sem.run,hh]
 have kV:=oC hk n lO w;have hlen:ms.toList.length=es.length:=by have:=congrArg List.length lO;simpa using this
 cases hi:es.findIdx? (λe=>e.1==n) with
 |none=>
  rw[hi] at kV;simp only[Option.bind_none] at kV;refine⟨_,?_,rfl,hS.jJ (x:=.map (ms.push {key:=.int q n,val:=u',born:=clock}) (clock+1)) ho hl ?_,eW.BL hh hB⟩
  ·unfold Instr.mapUpdate;simp only[Sem.run_bind,run_underlying ht,Result.andThen_ok,BO,jj hk,kV,nb hh]
  ·refine⟨_,_,World.putObj_heap_same gF,?_,?_⟩
   ·simp only[Nv,hi,Array.toList_push,List.map_append,lO,List.map_cons,List.map_nil]
   ·simp only[Nv,hi,Array.toList_push,List.map_append,List.map_cons,List.map_nil];exact pT.append (.cons hu .nil)
 |some j=>
  obtain⟨AJ,hje,_⟩:=List.findIdx?_eq_some_iff_getElem.1 hi;have zZ:j<ms.size:=by simpa using(by omega:j<ms.toList.length)
  have hkj:ms[j].key= .int q n:=by
   have:=congrArg (λl=>l[j]?) lO
   simp only[List.getElem?_map,List.getElem?_eq_getElem AJ,Array.getElem?_toList,Array.getElem?_eq_getElem zZ,Option.map_some,Option.some.injEq] at this;rw[this];have:es[j].1=n:=by simpa using hje
   rw[this]
  rw[hi] at kV;simp only[Option.bind_some,Array.getElem?_eq_getElem zZ,Option.map_some] at kV;refine⟨_,?_,rfl,hS.jJ (x:=.map (ms.modify j λe=>{e with key:=.int q n,val:=u'}) clock) ho hl ?_,eW.BL hh hB⟩
  ·unfold Instr.mapUpdate;simp only[Sem.run_bind,run_underlying ht,Result.andThen_ok,BO,jj hk,kV,Array.getElem?_eq_getElem zZ,Option.map_some,Option.getD_some,hkj];have kx:(Instr.keyThatStays (.int q n) (.int q n)).run P w= .ok (.int q n) w:=by
    unfold Instr.keyThatStays;simp[Instr.sameBits]
   simp only[kx,Result.andThen_ok,nb hh]
  ·have Ru:(ms.modify j λe=>{e with key:=.int q n,val:=u'}).toList=ms.toList.set j {ms[j] with key:=.int q n,val:=u'}:=by
    apply List.ext_getElem?;intro r;rw[Array.getElem?_toList,Array.getElem?_modify,List.getElem?_set];by_cases e:j=r
    ·subst e;rw[if_pos rfl,if_pos rfl,if_pos (by simpa using zZ),Array.getElem?_eq_getElem zZ];rfl
    ·rw[if_neg e,if_neg e,Array.getElem?_toList]
   refine⟨_,_,World.putObj_heap_same gF,?_,?_⟩
   ·rw[Ru,List.map_set,lO];simp only[Nv,hi,List.map_set]
   ·rw[Ru,List.map_set];simp only[Nv,hi,List.map_set];exact pT.set hu j
theorem map_eraseIdx {α β:Type}(f:α→β)(l:List α)(j:Nat):(l.eraseIdx j).map f=(l.map f).eraseIdx j:=by
 apply List.ext_getElem?;intro r;simp only[List.getElem?_map,List.getElem?_eraseIdx];split<;>rfl
theorem BP {argTypes:Array TypeId}{ty:TypeId}{m m' x x' v:Value}(hS:cO P μ H w B)(hm:VR μ m m')(hx:VR μ x x')(h:vl P argTypes m x H=some (v,H')):
  Told P μ v H' w B ((Builtin.delete_ argTypes ty #[m',x']).run P w):=by
 have Wk:VR μ undef (.tuple #[]):=cU.tuple (c:=#[]) (c':=#[]) .nil;unfold vl at h;split at h
 case h_2=>cases h
 rename_i q z Rt;rw[Option.bind_eq_some_iff] at Rt;obtain⟨t,Wl,Rt⟩:=Rt;obtain⟨k,e,ht,hk,hz⟩:=tj Rt;unfold Ny at h;split at h
 case h_2=>cases h
 rename_i i q1 n;obtain rfl:=hx.int;split at h
 case h_2=>cases h
 rename_i q2 es ho;split at h
 case isFalse=>cases h
 rename_i hq;obtain⟨rfl,rfl⟩:=hq;cases h;obtain⟨l,hl,hB,ms,clock,hh,lO,pT⟩:=hS.dZ.ok _ _ ho;have Ni:m'= .map (some l.b):=by
  cases hm with
  |plain _ h=>simp[cu] at h
  |BE _ l2 h2=>rw[hl] at h2;cases h2;rfl
 subst Ni;have gF:=(Array.getElem?_eq_some_iff.1 hh).1;have BO:(getObj l.b).run P w= .ok (.map ms clock) w:=by simp[getObj,Sem.run,hh]
 have kV:=oC hk n lO w;have hlen:ms.toList.length=es.length:=by have:=congrArg List.length lO;simpa using this
 cases hi:es.findIdx? (λe=>e.1==n) with
 |none=>
  rw[hi] at kV;simp only[Option.bind_none] at kV;have dI:(Builtin.delete_ argTypes ty #[.map (some l.b),.int q n]).run P w= .ok (.tuple #[]) (w.putObj l.b (.map ms clock)):=by
   unfold Builtin.delete_;simp[Wl,run_underlying ht,BO,jj hk,kV,nb hh]
  rw[dI];refine⟨_,μ,_,rfl,μ.le_refl,Wk,hS.jJ ho hl ⟨ms,clock,World.putObj_heap_same gF,?_,?_⟩,eW.BL hh hB⟩
  ·simpa[Nw,hi] using lO
  ·simpa[Nw,hi] using pT
 |some j=>
  obtain⟨AJ,hje,_⟩:=List.findIdx?_eq_some_iff_getElem.1 hi;have zZ:j<ms.size:=by simpa using(by omega:j<ms.toList.length)
  rw[hi] at kV;simp only[Option.bind_some,Array.getElem?_eq_getElem zZ,Option.map_some] at kV;have dI:(Builtin.delete_ argTypes ty #[.map (some l.b),.int q n]).run P w= .ok (.tuple #[]) (w.putObj l.b (.map (ms.eraseIdxIfInBounds j) clock)):=by
   unfold Builtin.delete_;simp[Wl,run_underlying ht,BO,jj hk,kV,nb hh]
  rw[dI];have Ru:(ms.eraseIdxIfInBounds j).toList=ms.toList.eraseIdx j:=by
   unfold Array.eraseIdxIfInBounds;rw[dif_pos zZ];simp
  refine⟨_,μ,_,rfl,μ.le_refl,Wk,hS.jJ ho hl ⟨_,clock,World.putObj_heap_same gF,?_,?_⟩,eW.BL hh hB⟩
  ·rw[Ru,map_eraseIdx,lO];simp only[Nw,hi,map_eraseIdx]
  ·rw[Ru];simp only[Nw,hi,map_eraseIdx];refine⟨?_,λr y hr=>?_⟩
   ·have:=pT.1;simp[List.length_eraseIdx] at this ⊢;simp[this]
   ·rw[List.getElem?_eraseIdx] at hr ⊢;split
    ·rename_i h1;rw[if_pos h1] at hr;exact pT.2 _ _ hr
    ·rename_i h1;rw[if_neg h1] at hr;exact pT.2 _ _ hr
theorem z5 {t:TypeId}{v:Value}(hS:cO P μ H w B)(h:qU P t H=some (v,H')):Told P μ v H' w B ((Instr.makeMap t none).run P w):=by
 unfold qU at h;split at h
 case h_2=>cases h
 rename_i q z Rt;cases h;have dI:(Instr.makeMap t none).run P w= .ok (.map (some w.heap.size)) (w.alloc (.map #[] 0)):=by
  unfold Instr.makeMap;simp
 rw[dI];have DP: ∀k,k<w.heap.size→(w.alloc (.map #[] 0)).heap[k]? =w.heap[k]? :=λk hk=>Below.heap_alloc _ _ _ hk
 obtain⟨h1,h2⟩:=hS.km (w1:=w.alloc (.map #[] 0)) (l:=w.heap.size) (o:=.Fv q []) DP (by simp) (Nat.le_refl _) ⟨#[],0,World.alloc_heap_new w _,rfl,.nil⟩
 exact⟨_,_,_,rfl,h1,.BE _ ⟨w.heap.size,0,0,0⟩ Mu.aO,h2,(eW.refl B w).alloc hS.base _⟩
theorem FX {t k e:TypeId}{argTypes:Array TypeId}{ty:TypeId}{m m' v:Value}(hS:cO P μ H w B)(hm:VR μ m m')(Wl:argTypes[0]? =some t)(ht:P.underlying t=some (.map k e))(h:JV m H=some v):
  (Builtin.len_ argTypes ty #[m']).run P w= .ok v w∧cu v=true:=by
 unfold JV at h;split at h
 case h_2=>cases h
 rename_i i;split at h
 case h_2=>cases h
 rename_i q es ho;cases h;obtain⟨l,hl,hB,ms,clock,hh,lO,pT⟩:=hS.dZ.ok _ _ ho;have Ni:m'= .map (some l.b):=by
  cases hm with
  |plain _ h=>simp[cu] at h
  |BE _ l2 h2=>rw[hl] at h2;cases h2;rfl
 subst Ni;have BO:(getObj l.b).run P w= .ok (.map ms clock) w:=by simp[getObj,Sem.run,hh]
 have hlen:ms.size=es.length:=by have:=congrArg List.length lO;simpa using this
 refine⟨?_,rfl⟩;unfold Builtin.len_;simp[Wl,run_underlying ht,BO,goInt,hlen]
variable {P:Program} {μ:Mu} {H H':aa} {w:World} {B:Nat}
theorem DQ {argTypes:Array TypeId}{ty:TypeId}{d d' s s' v:Value}(hS:cO P μ H w B)(hd:VR μ d d')(hs:VR μ s s')(h:Az P argTypes d s H=some (v,H')):
  Told P μ v H' w B ((Builtin.copy_ argTypes ty #[d',s']).run P w):=by
 unfold Az at h;split at h
 ·rename_i UK hd0;split at h
  ·rename_i elem base DA aeb sa sLen sCap hu;cases hz:jK P elem with
   |none=>rw[hz] at h;cases h
   |some size=>
    rw[hz] at h;simp only at h;obtain⟨_,sa',wN,rfl,_,_⟩:=hs.fh;obtain⟨_,wM,aal,rfl,FJ,_⟩:=hd.fh;cases hc:cI H size (min sLen DA) (.slice sa sLen sCap) with
    |none=>rw[hc] at h;cases h
    |some cs=>
     rw[hc] at h;simp only at h;obtain⟨hlen,zU,fi,hv,dI⟩:=ov (P:=P) hS hs (Nat.min_le_left _ _) hc;have DI:fi.length=min sLen DA*size:=by rw[←hv.1];exact hlen
     have hr:(Builtin.copy_ argTypes ty #[.slice wM DA aal,.slice sa' sLen wN]).run P w=
       ((match wM with|some a=>storeCells a fi|none=>pure ():Sem Unit).run P w).andThen λ_ w=>.ok (.int .i64 (min sLen DA:Nat)) w:=by
      have e:Nat.min sLen DA=min sLen DA:=rfl;simp[Builtin.copy_,hd0,run_underlying hu,Builtin.lenOf,eC hz,e,dI w rfl,goInt];cases wM<;>simp
     rw[hr];cases base with
     |none=>
      simp only at h;cases h;cases wM with
      |some _=>simp at FJ
      |none=>exact Told.same hS (.plain _ rfl)
     |some ad=>
      obtain⟨i,off,spot⟩:=ad;cases spot with
      |some _=>cases h
      |none=>
       simp only at h;split at h
       ·rename_i HJ;cases h;have:fi=[]:=List.eq_nil_of_length_eq_zero (by rw[DI,HJ];simp)
        subst this;cases wM with
        |none=>simp at FJ
        |some a=>simp only[storeCells,Sem.run_pure,Result.andThen_ok];exact Told.same hS (.plain _ rfl)
       ·rename_i HJ;rw[Option.map_eq_some_iff] at h;obtain⟨H2,kx,e⟩:=h;cases e;rcases hd.eM with⟨i2,nT,BK,l,e,hl,g1,g2,g3,e2⟩|⟨i2,nT,a2,e,rfl,rfl,e2⟩
        ·cases e;cases e2;obtain⟨w',hr,s9,hB⟩:=hS.st hl kx hv;simp only[hr,Result.andThen_ok];exact⟨_,μ,w',rfl,μ.le_refl,.plain _ rfl,s9,hB⟩
        ·simp at HJ
  ·cases h
 ·cases h
theorem FY {argTypes:Array TypeId}{ty:TypeId}{x x' v:Value}(hS:cO P μ H w B)(hx:VR μ x x')(h:BB P H argTypes x=some v):
  (Builtin.len_ argTypes ty #[x']).run P w= .ok v w∧cu v=true:=by
 unfold BB at h;split at h
 ·rename_i t ht;split at h
  ·rename_i k e hu;exact FX hS hx ht hu h
  ·rename_i s hu;obtain rfl:=hx.string;cases h;exact⟨by simp[Builtin.len_,ht,run_underlying hu,goInt],rfl⟩
  ·rename_i n e hu;cases h;exact⟨by simp[Builtin.len_,ht,run_underlying hu,goInt],rfl⟩
  ·rename_i a n c e hu;obtain⟨_,a',c',rfl,_⟩:=hx.fh;cases h;exact⟨by simp[Builtin.len_,ht,run_underlying hu,goInt],rfl⟩
  ·cases h
 ·cases h
def fV (P:Program)(μ:Mu)(v:Value)(H':aa)(w:World)(B:Nat)(r:Result Next):Prop:=
 ∃v' μ' w',(r= .ok (.value v') w'∨(r= .ok .skip w'∧v'=undef))∧μ.le μ'∧VR μ' v v'∧cO P μ' H' w' B∧eW B w w'
theorem Told.next {v:Value}{s:Sem Value}(h:Told P μ v H' w B (s.run P w)):fV P μ v H' w B ((do pure (Next.value (←s)):Sem Next).run P w):=by
 obtain⟨v',μ',w',hr,rest⟩:=h;exact⟨v',μ',w',.inl (by simp[hr]),rest⟩
theorem fV.quiet {v v':Value}{s:Sem Value}(hS:cO P μ H w B)(hr:s.run P w= .ok v' w)(hv:VR μ v v'):fV P μ v H w B ((do pure (Next.value (←s)):Sem Next).run P w):=
 Told.next (by rw[hr];exact Told.same hS hv)
theorem wO {b:Builtin}{argTypes:Array TypeId}{ty:TypeId}{consts:Array Bool}{args fq:List Value}{v:Value}(hS:cO P μ H w B)(ha:cU μ args fq)(h:jX P b argTypes args H=some (v,H')):
  fV P μ v H' w B ((builtin b argTypes ty consts fq.toArray).run P w):=by
 unfold jX at h;split at h
 ·obtain⟨s',_,rfl,r1,h2⟩:=ha.fG;obtain⟨x',_,rfl,r2,h3⟩:=h2.fG;obtain rfl:=h3.ia;exact(zX (ty:=ty) hS r1 r2 h).next
 ·obtain⟨s',_,rfl,r1,h2⟩:=ha.fG;obtain⟨x',_,rfl,r2,h3⟩:=h2.fG;obtain rfl:=h3.ia;exact(DQ (ty:=ty) hS r1 r2 h).next
 ·obtain⟨x',_,rfl,r1,h3⟩:=ha.fG;obtain rfl:=h3.ia;rw[Option.map_eq_some_iff] at h;obtain⟨v2,hv,e⟩:=h;cases e;obtain⟨hr,hp⟩:=FY (ty:=ty) hS r1 hv;exact fV.quiet hS hr (.plain _ hp)
 ·obtain⟨x',_,rfl,r1,h3⟩:=ha.fG;obtain rfl:=h3.ia;exact(BM (ty:=ty) hS r1 h).next
 ·obtain⟨s',_,rfl,r1,h2⟩:=ha.fG;obtain⟨x',_,rfl,r2,h3⟩:=h2.fG;obtain rfl:=h3.ia;exact(BP (ty:=ty) hS r1 r2 h).next
 ·rename_i len n;obtain⟨x',_,rfl,r1,h3⟩:=ha.fG;obtain rfl:=h3.ia;obtain⟨rfl,rfl,rfl⟩:=r1.ic;split at h
  ·rename_i e hu;cases h;rw[Option.bind_eq_some_iff] at hu;obtain⟨t,ht,hu⟩:=hu;exact fV.quiet (v':=.int .i64 0) hS (by simp[Builtin.cap_,ht,run_underlying hu,goInt]) (.plain _ rfl)
  ·cases h
 ·rename_i k a k' c;obtain⟨s',_,rfl,r1,h2⟩:=ha.fG;obtain⟨x',_,rfl,r2,h3⟩:=h2.fG;obtain rfl:=h3.ia;obtain rfl:=r1.int;obtain rfl:=r2.int;split at h
  ·rename_i e;subst e;cases h;exact fV.quiet hS (by simp[Builtin.min_,Builtin.min2]) (.plain _ rfl)
  ·cases h
 ·rename_i k a k' c;obtain⟨s',_,rfl,r1,h2⟩:=ha.fG;obtain⟨x',_,rfl,r2,h3⟩:=h2.fG;obtain rfl:=h3.ia;obtain rfl:=r1.int;obtain rfl:=r2.int;split at h
  ·rename_i e;subst e;cases h;exact fV.quiet hS (by simp[Builtin.max_,Builtin.max2]) (.plain _ rfl)
  ·cases h
 ·cases h
theorem Nk.map {ρ ρ':Operand→Value}(hρ: ∀x,VR μ (ρ x) (ρ' x))(o:Option Operand):Nk μ (o.map ρ) (o.map ρ'):=by
 cases o with
 |none=>exact .inl ⟨rfl,rfl⟩
 |some x=>exact .inr ⟨_,_,rfl,rfl,hρ x⟩
theorem cU.map {ρ ρ':Operand→Value}(hρ: ∀x,VR μ (ρ x) (ρ' x))(l:List Operand):cU μ (l.map ρ) (l.map ρ'):=by
 induction l with
 |nil=>exact .nil
 |cons x l ih=>exact .cons (hρ x) ih
theorem cU.parts {ρ ρ':Operand→Value}(hρ: ∀x,VR μ (ρ x) (ρ' x))(l:List (Nat×Operand)):
  cU μ ((l.map λ(i,x)=>(i,ρ x)).map (·.2)) ((l.map λ(i,x)=>(i,ρ' x)).map (·.2)):=by
 induction l with
 |nil=>exact .nil
 |cons x l ih=>exact .cons (hρ x.2) ih
theorem tm {ρ ρ':Operand→Value}(l:List (Nat×Operand)):
  (l.map λ(i,x)=>(i,ρ x)).map (·.1)=(l.map λ(i,x)=>(i,ρ' x)).map (·.1):=by
 induction l with
 |nil=>rfl
 |cons x l ih=>simp
theorem J9 {ρ ρ':Operand→Value}{o:Oper}{v:Value}(hS:cO P μ H w B)(hρ: ∀x,VR μ (ρ x) (ρ' x))(h:gV P ρ H o.op=some (v,H')):
  fV P μ v H' w B ((execOp ρ' o).run P w):=by
 obtain⟨dst,op,type,pos,after,guard⟩:=o;simp only at h;unfold gV at h;split at h<;>(unfold execOp;try simp only)
 ·
  cases h;exact⟨_,μ,w,.inl rfl,μ.le_refl,hρ _,hS,eW.refl _ _⟩
 ·cases h;exact⟨_,μ,w,.inl rfl,μ.le_refl,hρ _,hS,eW.refl _ _⟩
 ·
  rename_i c a b;split at h
  ·rename_i t hc;cases h;have hc':=hρ c;rw[hc] at hc';have e:=hc'.bool;refine⟨if t then ρ' a else ρ' b,μ,w,.inl ?_,μ.le_refl,?_,hS,eW.refl _ _⟩
   ·simp[e,asBool]
   ·cases t
    ·exact hρ b
    ·exact hρ a
  ·cases h
 ·
  rename_i t;split at h
  ·rename_i z hz;obtain⟨Fw,pD,_⟩:=dS hz w;cases h;have:=rk (P:=P) (t:=t) (t':=t) (fi:=z.cells) hS (qu pD) (jY pD)
   refine Told.next ?_;have e:(Instr.alloc t true (.tuple #[])).run P w=(do pure (.pointer (some (←newRow t z.cells))):Sem Value).run P w:=by
    simp[Instr.alloc,Fw,newVar]
   rw[e];exact this
  ·cases h
 ·
  rename_i t x;split at h
  ·rename_i zU;cases h;have hk:known (ρ x)=true:=by
    revert zU
    cases ρ x<;>simp[Value.cells,aC,known]
   exact Told.next (rk (P:=P) (t:=t) (t':=t) (fi:=(ρ' x).cells) hS zU (cU.cells (hρ x) hk))
  ·cases h
 ·
  rename_i t ps;rw[Option.map_eq_some_iff] at h;obtain⟨v2,hv,e⟩:=h;cases e;obtain⟨v',hr,FW⟩:=BJ (tm ps.toList) (cU.parts hρ ps.toList) hv w;refine fV.quiet hS ?_ FW;have e:(ps.map λ(i,x)=>(i,ρ' x))=(ps.toList.map λ(i,x)=>(i,ρ' x)).toArray:=by
   rw[←Array.toList_inj];simp
  rw[e];exact hr
 ·
  rename_i t n ps;have:=rl (P:=P) hS (tm (ρ':=ρ') ps.toList) (cU.parts hρ ps.toList) h
  have e:(ps.map λ(i,x)=>(i,ρ' x))=(ps.toList.map λ(i,x)=>(i,ρ' x)).toArray:=by
   rw[←Array.toList_inj];simp
  simp only[e];exact this.next
 ·
  rw[Option.map_eq_some_iff] at h;obtain⟨v2,hv,e⟩:=h;cases e;obtain⟨v',hr,FW⟩:=uq hS (hρ _) hv;exact fV.quiet hS hr FW
 ·
  rw[Option.map_eq_some_iff] at h;obtain⟨H2,hv,e⟩:=h;cases e;obtain⟨w',hr,s9,hB⟩:=DJ hS (hρ _) (hρ _) hv;exact⟨undef,μ,w',.inr ⟨by simp[hr],rfl⟩,μ.le_refl,cU.tuple .nil,s9,hB⟩
 ·
  rename_i x;have hx:=hρ x;split at h
  ·rename_i a e;cases h;rw[e] at hx;obtain⟨i,off,l,rfl,hl,e2⟩:=hx.mX;rw[e2];exact⟨_,μ,w,.inl rfl,μ.le_refl,.ptr i off l hl,hS,eW.refl _ _⟩
  ·rename_i g f c e;cases h;rw[e] at hx;obtain⟨f',c',e2,h1,h2⟩:=hx.wu rfl;rw[e2] at hx ⊢;exact⟨_,μ,w,.inl rfl,μ.le_refl,hx,hS,eW.refl _ _⟩
  ·cases h
 ·
  rename_i op t x y yt;rw[Option.map_eq_some_iff] at h;obtain⟨v2,hv,e⟩:=h;cases e;obtain⟨hr,hp⟩:=FI (hρ x) (hρ y) hv x y w;exact fV.quiet hS hr (.plain _ hp)
 ·
  rw[Option.map_eq_some_iff] at h;obtain⟨v2,hv,e⟩:=h;cases e;obtain⟨hr,hp⟩:=J5 (P:=P) (hρ _) hv w;exact fV.quiet hS hr (.plain _ hp)
 ·
  rename_i src dst x;split at h
  ·rename_i d k k' n hs hu hx;cases h;have DR:=hρ x;rw[hx] at DR;have e:=DR.int;refine fV.quiet (v':=.int k (k.wrap n)) hS ?_ (.plain _ rfl);rw[e];simp only[convert,Sem.run_bind,run_underlying hs,run_underlying hu,Result.andThen_ok];cases d<;>simp[Conv.intToInt]
  ·cases h
 ·
  rename_i g first captured
  cases h;refine fV.quiet (v':=.func (.func g) (first.map ρ') (captured.map ρ')) hS rfl ?_
  have h1:=cU.map hρ first.toList
  have h2:=cU.map hρ captured.toList;rw[←Array.toList_map, ←Array.toList_map] at h1 h2;exact .func _ _ _ _ _ rfl h1.arr.1 h2.arr.1 h1.arr.2 h2.arr.2
 ·
  exact(td hS (hρ _) (hρ _) h).next
 ·
  rw[Option.map_eq_some_iff] at h;obtain⟨v2,hv,e⟩:=h;cases e;obtain⟨v',hr,FW⟩:=rj (P:=P) hS (hρ _) (Nk.map hρ _) (Nk.map hρ _) hv;exact fV.quiet hS hr FW
 ·
  rw[Option.map_eq_some_iff] at h;obtain⟨v2,hv,e⟩:=h;cases e;obtain⟨v',hr,FW⟩:=zY (P:=P) hS (hρ _) (Nk.map hρ _) (Nk.map hρ _) (hρ _) hv;exact fV.quiet hS hr FW
 ·
  exact(z5 hS h).next
 ·
  rw[Option.map_eq_some_iff] at h;obtain⟨v2,hv,e⟩:=h;cases e;obtain⟨v',hr,FW⟩:=BN (P:=P) hS (hρ _) (hρ _) hv;exact fV.quiet hS hr FW
 ·
  obtain⟨w',hr,rfl,s9,hB⟩:=uV (P:=P) hS (hρ _) (hρ _) (hρ _) h;exact⟨undef,μ,w',.inr ⟨by simp[hr],rfl⟩,μ.le_refl,cU.tuple .nil,s9,hB⟩
 ·
  rename_i t x f;have hx:=hρ x;split at h
  ·rename_i fields i off hu e;rw[e] at hx;obtain⟨i2,nT,l,e1,hl,e2⟩:=hx.mX;cases e1;split at h
   ·rename_i fd hf;split at h
    ·cases h
    ·rename_i n HJ hn;cases h;have dx:n≠0:=λe=>HJ e
     refine fV.quiet (v':=.pointer (some ⟨l.b,l.o+(off+fd.offset),none⟩)) hS ?_ (.ptr i _ l hl);rw[e2];simp[Instr.fieldAt,run_underlying hu,hf,Instr.sureAddr,fieldPlace,eC hn,dx,jh,Nat.add_assoc]
    ·cases h
   ·cases h
  ·cases h
 ·
  rename_i t x f;have hx:=hρ x;split at h
  ·rename_i fields cs hu e;rw[e] at hx;obtain⟨fi,e2,rb⟩:=hx.oZ;split at h
   ·rename_i fd hf;rw[Option.map_eq_some_iff] at h;obtain⟨v2,hv,e3⟩:=h;cases e3;obtain⟨v',hr,FW⟩:=lN rb hv w;refine fV.quiet hS ?_ FW;rw[e2];simp[Instr.field,run_underlying hu,hf,asAgg,hr]
   ·cases h
  ·cases h
 ·
  rename_i t x ix;have hx:=hρ x;have hi:=hρ ix;split at h
  ·rename_i elem i off len cap k n hu e1 e2;rw[e1] at hx;rw[e2] at hi;have e3:=hi.int;split at h
   ·rename_i size hz;split at h
    ·rename_i hb;cases h;rcases hx.eM with⟨i2,nT,BK,l,e,hl,g1,g2,g3,e4⟩|⟨i2,nT,a2,e,rfl,rfl,e4⟩
     ·cases e;refine fV.quiet (v':=.pointer (some ⟨l.b,l.o+(off+n.toNat*size),none⟩)) hS ?_ (.ptr i _ l hl);rw[e3,e4];simp[Instr.indexAt,asIntOf,run_underlying hu,hb,eC hz,jh,Nat.add_assoc]
     ·omega
    ·cases h
   ·cases h
  ·rename_i len elem i off k n hu e1 e2;rw[e1] at hx;rw[e2] at hi;have e3:=hi.int;split at h
   ·rename_i size hz;split at h
    ·rename_i hb;cases h;obtain⟨i2,nT,l,e,hl,e4⟩:=hx.mX;cases e;refine fV.quiet (v':=.pointer (some ⟨l.b,l.o+(off+n.toNat*size),none⟩)) hS ?_ (.ptr i _ l hl);rw[e3,e4];simp[Instr.indexAt,asIntOf,run_underlying hu,hb,eC hz,jh,Nat.add_assoc,Instr.sureAddr]
    ·cases h
   ·cases h
  ·cases h
 ·
  rename_i t x ix;have hx:=hρ x;have hi:=hρ ix;split at h
  ·rename_i len elem cs k n hu e1 e2;rw[e1] at hx;rw[e2] at hi;have e3:=hi.int;obtain⟨fi,e4,rb⟩:=hx.oZ;split at h
   ·rename_i size hz;split at h
    ·rename_i hb;rw[Option.map_eq_some_iff] at h;obtain⟨v2,hv,e5⟩:=h;cases e5;obtain⟨v',hr,FW⟩:=lN rb hv w;refine fV.quiet hS ?_ FW;rw[e3,e4];simp[Instr.index,asIntOf,run_underlying hu,hb,eC hz,hr]
    ·cases h
   ·cases h
  ·rename_i s k n hu e1 e2;rw[e1] at hx;rw[e2] at hi;have e3:=hi.int;have e4:=hx.string;split at h
   ·rename_i hb;rw[Option.map_eq_some_iff] at h;obtain⟨c,hc,e5⟩:=h;cases e5;refine fV.quiet (v':=.int .u8 c.toNat) hS ?_ (.plain _ rfl);rw[e3,e4];simp[Instr.index,asIntOf,run_underlying hu,hb,hc]
   ·cases h
  ·cases h
 ·
  rename_i t ix;have hx:=hρ t;split at h
  ·rename_i vs e;rw[e] at hx;obtain⟨iY,e2,hvs⟩:=hx.AB;rw[Option.map_eq_some_iff] at h;obtain⟨v2,hv,e5⟩:=h;cases e5;obtain⟨v',Wc,Dv⟩:=hvs.2 ix v (by simpa using hv)
   refine fV.quiet hS ?_ Dv;rw[e2];simp[Instr.extract,show iY[ix]? =some v' by simpa using Wc]
  ·cases h
 ·
  rename_i b args argTypes;have:=wO (P:=P) (ty:=type) (consts:=(args.map λ| .const _=>true|_=>false)) hS (cU.map hρ args.toList) h
  simp only[resolve,Sem.run_bind,Sem.run_pure,Result.andThen_ok,invoke];have e:(args.toList.map ρ').toArray=args.map ρ':=by rw[←Array.toList_inj];simp
  rw[e] at this;exact this
 ·cases h
end Go.Proofs.YtgfgglponbmgmaaGreatA.Am
end
