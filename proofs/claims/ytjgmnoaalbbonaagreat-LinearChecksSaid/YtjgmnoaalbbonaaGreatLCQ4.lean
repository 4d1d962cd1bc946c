/- Texts of the proof of linearChecks_holds, put together by a small program of ours (names shortened, spaces taken out). No condition beyond the given statement. -/
import Derived.Test.YtjgmnoaalbbonaaGreatLCQ3
set_option linter.unusedVariables false
set_option linter.unusedSimpArgs false
set_option linter.unnecessarySimpa false
noncomputable section
section
namespace Go.Proofs.YtjgmnoaalbbonaaGreatA.Am
open Go.RowKit (Below)
variable {P:Program} {μ:Mu} {H H':ae} {w:World} {B:Nat}
theorem Cy {t:TypeId}{x x' v m m':Value}{lo hi Ul wZ:Option Value}(hS:da P μ H w B)(hx:VR μ x x')(uj:P8 μ lo Ul)(Cw:P8 μ hi wZ)(hm:VR μ m m')(h:rF P H t x lo hi m=some v):
  ∃v',(Instr.sliceAt t x' Ul wZ (some m')).run P w= .ok v' w∧VR μ v v':=by
 unfold rF at h;split at h
 case h_2=>cases h
 rename_i a len cap hv k mx;split at h
 case isFalse=>cases h
 rename_i hb;obtain rfl:=hm.int;obtain⟨Nm,a',dY,rfl,I8,YY⟩:=hx.gC;have hx0:VR μ (.slice a 0 mx.toNat) (.slice a' 0 mx.toNat):=by
  cases a with
  |none=>
   obtain⟨rfl,rfl,e2⟩:=hx.ji;cases e2;have:mx.toNat=0:=by omega
   rw[this];exact .plain _ rfl
  |some ad=>
   rcases hx.dO with⟨i,off,c2,lc,rfl,GG,g1,g2,g3,e2⟩|⟨i,off,a2,rfl,rfl,rfl,e2⟩
   ·cases e2;refine .slice i off 0 mx.toNat mx.toNat lc GG (by omega) (by omega) ?_
    have:mx.toNat*lc.es≤dY*lc.es:=Nat.mul_le_mul_right _ (by omega)
    omega
   ·cases e2;have:mx.toNat=0:=by omega
    rw[this];exact .nJ _ _ _
 obtain⟨v',hr,yr⟩:=uk (P:=P) (w:=w) hS hx0 uj Cw h;refine⟨v',?_,yr⟩;rw[←hr];unfold qx at h;split at h
 case h_2=>cases h
 rename_i elem a0 ah6 ah7 hu e0;cases e0;cases hz:iU P elem with
 |none=>rw[hz] at h;cases h
 |some size=>
  rw[hz] at h;simp only at h;split at h
  case h_2=>cases h
  rename_i h' l hh hl;split at h
  case isFalse=>cases h
  rename_i hbb;have qH:=zf (P:=P) (w:=w) uj Cw hh hl hbb (Nat.le_refl _);have Je:(Instr.sliceBounds true len dY Ul wZ (some (.int k mx))).run P w= .ok (l.toNat,h'.toNat,mx.toNat) w:=by
   have Np:=jl (P:=P) (k:=k) (n:=mx) (y:=dY) (c:=.slice3Acap) hb.1 (by omega) w
   rcases Cw with⟨e,_⟩|⟨c,c',e,rfl,r⟩
   ·cases e
   cases e;obtain⟨k1,rfl⟩:=kQ r hh;have h1:=jl (P:=P) (k:=k1) (y:=mx.toNat) (c:=.slice3B) hbb.1 (by omega) w
   rcases uj with⟨rfl,rfl⟩|⟨c2,c2',rfl,rfl,r2⟩
   ·simp only[cK] at hl;cases hl;simp[Instr.sliceBounds,Np,h1]
   ·obtain⟨k2,rfl⟩:=kQ r2 hl;have h2:=jl (P:=P) (k:=k2) (n:=l) (y:=h'.toNat) (c:=.slice3C) hbb.2.2.1 (by omega) w
    simp[Instr.sliceBounds,Np,h1,h2]
  simp[Instr.sliceAt,Instr.slice,run_underlying hu,qH,Je,eZ hz]
theorem Eu {argTypes:Array TypeId}{ty:TypeId}{x x' v:Value}(hS:da P μ H w B)(hx:VR μ x x')(h:vR P argTypes x H=some (v,H')):
  Told P μ v H' w B ((Builtin.clear_ argTypes ty #[x']).run P w):=by
 have Y5:VR μ undef (.tuple #[]):=dR.tuple (c:=#[]) (c':=#[]) .nil;unfold vR at h;split at h
 case h_2=>cases h
 rename_i elem base n cap hu;rw[Option.bind_eq_some_iff] at hu;obtain⟨t,ht,hu⟩:=hu;cases hz:zeroOf P elem with
 |none=>rw[hz] at h;cases h
 |some z=>
  rw[hz] at h;simp only at h;obtain⟨IU,qm,_⟩:=eG hz w;obtain⟨_,a',dY,rfl,I8,_⟩:=hx.gC;cases base with
  |none=>
   simp only at h;cases h;cases a' with
   |some _=>simp at I8
   |none=>
    have:(Builtin.clear_ argTypes ty #[.slice none n dY]).run P w= .ok (.tuple #[]) w:=by
     cases n<;>simp[Builtin.clear_,ht,run_underlying hu]
    rw[this];exact Told.same hS Y5
  |some ad=>
   obtain⟨i,off,spot⟩:=ad;cases spot with
   |some _=>cases h
   |none=>
    simp only at h;split at h
    ·rename_i Lu;cases h;subst Lu;have:(Builtin.clear_ argTypes ty #[.slice a' 0 dY]).run P w= .ok (.tuple #[]) w:=by
      cases a'<;>simp[Builtin.clear_,ht,run_underlying hu]
     rw[this];exact Told.same hS Y5
    ·rename_i Lu;rw[Option.map_eq_some_iff] at h;obtain⟨H2,ky,e⟩:=h;cases e;rcases hx.dO with⟨i2,qG,Er,l,e,hl,g1,g2,g3,e2⟩|⟨i2,qG,a2,e,rfl,rfl,e2⟩
     ·cases e;cases e2;have ux:=my (μ:=μ) qm n;obtain⟨w',hr,pY,hB⟩:=hS.st hl ky ux;have eC: ∃n',n=n'+1:=⟨n-1,by omega⟩
      obtain⟨n',rfl⟩:=eC;have hzz:(Builtin.zeroCells z.cells (n'+1)).toList=ct z.cells.toList (n'+1):=by
       by_cases h0:z.cells.size=0
       ·have e1:z.cells= #[]:=Array.eq_empty_of_size_eq_zero h0;rw[e1];simp[Builtin.zeroCells,ct]
       ·rw[←nM _ _ h0]
      have:(Builtin.clear_ argTypes ty #[.slice (some ⟨l.b,l.o+off,none⟩) (n'+1) dY]).run P w= .ok (.tuple #[]) w':=by
       simp[Builtin.clear_,ht,run_underlying hu,IU,hzz,hr]
      rw[this];exact⟨_,μ,w',rfl,μ.le_refl,Y5,pY,hB⟩
     ·exact absurd rfl Lu
theorem vW {t:TypeId}{q:IntKind}{z:Value}(h:mapOf P t=some (q,z)): ∃k e,P.underlying t=some (.map k e)∧P.underlying k=some (.int q)∧zeroOf P e=some z:=by
 unfold mapOf at h;split at h
 case h_2=>cases h
 rename_i k e ht;split at h
 case h_2=>cases h
 rename_i q' z' hk hz;cases h;exact⟨k,e,ht,hk,hz⟩
theorem kg {k:TypeId}{q:IntKind}(hk:P.underlying k=some (.int q))(b:Bool)(q':IntKind)(n:Int)(w:World):(Instr.checkKey b 10000 k (.int q' n)).run P w= .ok () w:=by
 unfold Instr.checkKey;simp[run_underlying hk]
theorem w9 (q:IntKind)(n:Int): ∀(ms:List MapEntry) (es:List (Int×Value)) (i:Nat),ms.map (·.key)=es.map (λe=>Value.int q e.1)→
  Instr.findNow (.int q) (.int q n) ms i=some ((es.findIdx? (λe=>e.1==n)).bind λj=>(ms[j]?).map λm=>(i+j,m.val))
 | [],es,i,h=>by
  have:es=[]:=by cases es with|nil=>rfl|cons _ _=>simp at h
  subst this;simp[Instr.findNow]
 |m::ms,es,i,h=>by
  cases es with
  |nil=>simp at h
  |cons e es=>
   simp only[List.map_cons,List.cons.injEq] at h;obtain⟨h1,h2⟩:=h;rw[Instr.findNow,h1];simp only[Instr.sameNow,if_true];by_cases he:n=e.1
   ·subst he;simp[List.findIdx?_cons]
   ·have hb:(n==e.1)=false:=by simpa using he
    have tN:(e.1==n)=false:=by simpa using λx=>he x.symm
    rw[hb];simp only;rw[w9 q n ms es (i+1) h2,List.findIdx?_cons,tN];simp only[Bool.false_eq_true,if_false];cases es.findIdx? (λe=>e.1==n) with
    |none=>rfl
    |some j=>simp[Nat.add_assoc,Nat.add_comm 1 j]
theorem Qu (es:List (Int×Value))(n:Int):es.find? (λe=>e.1==n)=(es.findIdx? (λe=>e.1==n)).bind (es[·]?):=by
 induction es with
 |nil=>rfl
 |cons e es ih=>
  rw[List.find?_cons,List.findIdx?_cons];by_cases h:(e.1==n)=true
  ·rw[h];rfl
  ·have:(e.1==n)=false:=by simpa using h
   rw[this];simp only[Bool.false_eq_true,if_false,ih];cases es.findIdx? (λe=>e.1==n)<;>rfl
theorem qI {k:TypeId}{q:IntKind}(hk:P.underlying k=some (.int q))(n:Int){ms:Array MapEntry}{es:List (Int×Value)}(h:ms.toList.map (·.key)=es.map (λe=>Value.int q e.1))(w:World):
  (Instr.findKey k (.int q n) ms.toList).run P w= .ok ((es.findIdx? (λe=>e.1==n)).bind λj=>(ms[j]?).map λm=>(j,m.val)) w:=by
 unfold Instr.findKey;simp only[Sem.run_bind,run_underlying hk,Result.andThen_ok,w9 q n ms.toList es 0 h,Sem.run_pure]
 congr 2
 funext j
 simp
theorem Ew {t:TypeId}{m m' x x' v:Value}{ok:Bool}(hS:da P μ H w B)(hm:VR μ m m')(hx:VR μ x x')(h:rE P t m x ok H=some v):
  ∃v',(Instr.lookup t m' x' ok).run P w= .ok v' w∧VR μ v v':=by
 unfold rE at h;split at h
 case h_2=>cases h
 rename_i q z UR;obtain⟨k,e,ht,hk,hz⟩:=vW UR;unfold pO at h;split at h
 case h_2=>cases h
 rename_i i q1 n;obtain rfl:=hx.int;split at h
 case h_2=>cases h
 rename_i q2 es ho;split at h
 case isFalse=>cases h
 rename_i hq;obtain⟨rfl,rfl⟩:=hq;obtain⟨l,hl,hB,ms,clock,hh,ni,sJ⟩:=hS.db.ok _ _ ho;have GD:m'= .map (some l.b):=by
  cases hm with
  |plain _ h=>simp[cF] at h
  |Ej _ l2 h2=>rw[hl] at h2;cases h2;rfl
 subst GD;have Ex:(getObj l.b).run P w= .ok (.map ms clock) w:=by simp[getObj,Sem.run,hh]
 have mH:=qI hk n ni w;rw[Qu] at h;have key: ∀r,(Instr.findKey k (.int q n) ms.toList).run P w= .ok r w→(Instr.lookup t (.map (some l.b)) (.int q n) ok).run P w=
   ((match r with|some (_,v)=>pure (v,true)|none=>do pure ((←zeroValue e),false):Sem (Value×Bool)).run P w).andThen λp w=>.ok (if ok then .tuple #[p.1,.bool p.2] else p.1) w:=by
  intro r hr;unfold Instr.lookup;simp only[Sem.run_bind,run_underlying ht,Result.andThen_ok,Ex,Sem.run_pure,kg hk,hr];cases r with
  |none=>cases hzz:(zeroValue e).run P w<;>simp[hzz,Result.andThen]
  |some p=>simp
 rw[key _ mH];cases hi:es.findIdx? (λe=>e.1==n) with
 |none=>
  rw[hi] at h;simp only[Option.bind_none] at h ⊢;obtain⟨IU,qm,_⟩:=eG hz w;simp only[Sem.run_bind,IU,Result.andThen_ok,Sem.run_pure];refine⟨_,rfl,?_⟩;cases h;cases ok with
  |true=>exact dR.tuple (.cons (.closed qm) (.cons (.plain _ rfl) .nil))
  |false=>exact .closed qm
 |some j=>
  rw[hi] at h;simp only[Option.bind_some] at h ⊢;cases hj:es[j]? with
  |none=>exact absurd hj (by
    have:=List.findIdx?_eq_some_iff_getElem.1 hi
    obtain⟨dH,_⟩:=this;rw[List.getElem?_eq_getElem dH];simp)
  |some ev=>
   rw[hj] at h;simp only at h;obtain⟨u',Qr,hu2⟩:=sJ.2 j ev.2 (by rw[List.getElem?_map,hj];rfl)
   rw[List.getElem?_map] at Qr;cases hmj:ms.toList[j]? with
   |none=>rw[hmj] at Qr;cases Qr
   |some mv=>
    rw[hmj] at Qr;cases Qr;have aga:ms[j]? =some mv:=by simpa using hmj
    simp only[aga,Option.map_some,Sem.run_pure,Result.andThen_ok];refine⟨_,rfl,?_⟩;cases h;cases ok with
    |true=>exact dR.tuple (.cons hu2 (.cons (.plain _ rfl) .nil))
    |false=>exact hu2
theorem pb {b:Nat}{x:Obj}{ms:Array MapEntry}{c:Nat}(h:w.heap[b]? =some (.map ms c)):(setObj b x).run P w= .ok () (w.putObj b x):=by
 simp[setObj,Sem.run,h,World.putObj]
theorem xI {t:TypeId}{m m' x x' u u' v:Value}(hS:da P μ H w B)(hm:VR μ m m')(hx:VR μ x x')(hu:VR μ u u')(h:oT P t m x u H=some (v,H')):
  ∃w',(Instr.mapUpdate t m' x' u').run P w= .ok () w'∧v=undef∧da P μ H' w' B∧gE B w w':=by
 unfold oT at h;split at h
 case h_2=>cases h
 rename_i q z UR;obtain⟨k,e,ht,hk,hz⟩:=vW UR;unfold jM at h;split at h
 case h_2=>cases h
 rename_i i q1 n;obtain rfl:=hx.int;split at h
 case h_2=>cases h
 rename_i q2 es ho;split at h
 case isFalse=>cases h
 rename_i hq;obtain⟨rfl,rfl⟩:=hq;cases h;obtain⟨l,hl,hB,ms,clock,hh,ni,sJ⟩:=hS.db.ok _ _ ho;have GD:m'= .map (some l.b):=by
  cases hm with
  |plain _ h=>simp[cF] at h
  |Ej _ l2 h2=>rw[hl] at h2;cases h2;rfl
 subst GD;have dH:=(Array.getElem?_eq_some_iff.1 hh).1;have Ex:(getObj l.b).run P w= .ok (.map ms clock) w:=by simp[getObj,Sem.run,hh]
 have mH:=qI hk n ni w;have hlen:ms.toList.length=es.length:=by have:=congrArg List.length ni;simpa using this
 cases hi:es.findIdx? (λe=>e.1==n) with
 |none=>
  rw[hi] at mH;simp only[Option.bind_none] at mH;refine⟨_,?_,rfl,hS.fC (x:=.map (ms.push {key:=.int q n,val:=u',born:=clock}) (clock+1)) ho hl ?_,gE.Et hh hB⟩
  ·unfold Instr.mapUpdate;simp only[Sem.run_bind,run_underlying ht,Result.andThen_ok,Ex,kg hk,mH,pb hh]
  ·refine⟨_,_,World.putObj_heap_same dH,?_,?_⟩
   ·simp only[I2,hi,Array.toList_push,List.map_append,ni,List.map_cons,List.map_nil]
   ·simp only[I2,hi,Array.toList_push,List.map_append,List.map_cons,List.map_nil];exact sJ.append (.cons hu .nil)
 |some j=>
  obtain⟨Cz,hje,_⟩:=List.findIdx?_eq_some_iff_getElem.1 hi;have Jf:j<ms.size:=by simpa using(by omega:j<ms.toList.length)
  have hkj:ms[j].key= .int q n:=by
   have:=congrArg (λl=>l[j]?) ni
   simp only[List.getElem?_map,List.getElem?_eq_getElem Cz,Array.getElem?_toList,Array.getElem?_eq_getElem Jf,Option.map_some,Option.some.injEq] at this;rw[this];have:es[j].1=n:=by simpa using hje
   rw[this]
  rw[hi] at mH;simp only[Option.bind_some,Array.getElem?_eq_getElem Jf,Option.map_some] at mH;refine⟨_,?_,rfl,hS.fC (x:=.map (ms.modify j λe=>{e with key:=.int q n,val:=u'}) clock) ho hl ?_,gE.Et hh hB⟩
  ·unfold Instr.mapUpdate;simp only[Sem.run_bind,run_underlying ht,Result.andThen_ok,Ex,kg hk,mH,Array.getElem?_eq_getElem Jf,Option.map_some,Option.getD_some,hkj];have ky:(Instr.keyThatStays (.int q n) (.int q n)).run P w= .ok (.int q n) w:=by
    unfold Instr.keyThatStays;simp[Instr.sameBits]
   simp only[ky,Result.andThen_ok,pb hh]
  ·have Ey:(ms.modify j λe=>{e with key:=.int q n,val:=u'}).toList=ms.toList.set j {ms[j] with key:=.int q n,val:=u'}:=by
    apply List.ext_getElem?;intro r;rw[Array.getElem?_toList,Array.getElem?_modify,List.getElem?_set];by_cases e:j=r
    ·subst e;rw[if_pos rfl,if_pos rfl,if_pos (by simpa using Jf),Array.getElem?_eq_getElem Jf];rfl
    ·rw[if_neg e,if_neg e,Array.getElem?_toList]
   refine⟨_,_,World.putObj_heap_same dH,?_,?_⟩
   ·rw[Ey,List.map_set,ni];simp only[I2,hi,List.map_set]
   ·rw[Ey,List.map_set];simp only[I2,hi,List.map_set];exact sJ.set hu j
theorem map_eraseIdx {α β:Type}(f:α→β)(l:List α)(j:Nat):(l.eraseIdx j).map f=(l.map f).eraseIdx j:=by
 apply List.ext_getElem?;intro r;simp only[List.getElem?_map,List.getElem?_eraseIdx];split<;>rfl
theorem Ez {argTypes:Array TypeId}{ty:TypeId}{m m' x x' v:Value}(hS:da P μ H w B)(hm:VR μ m m')(hx:VR μ x x')(h:yh P argTypes m x H=some (v,H')):
  Told P μ v H' w B ((Builtin.delete_ argTypes ty #[m',x']).run P w):=by
 have Y5:VR μ undef (.tuple #[]):=dR.tuple (c:=#[]) (c':=#[]) .nil;unfold yh at h;split at h
 case h_2=>cases h
 rename_i q z UR;rw[Option.bind_eq_some_iff] at UR;obtain⟨t,ht0,UR⟩:=UR;obtain⟨k,e,ht,hk,hz⟩:=vW UR;unfold lz at h;split at h
 case h_2=>cases h
 rename_i i q1 n;obtain rfl:=hx.int;split at h
 case h_2=>cases h
 rename_i q2 es ho;split at h
 case isFalse=>cases h
 rename_i hq;obtain⟨rfl,rfl⟩:=hq;cases h;obtain⟨l,hl,hB,ms,clock,hh,ni,sJ⟩:=hS.db.ok _ _ ho;have GD:m'= .map (some l.b):=by
  cases hm with
  |plain _ h=>simp[cF] at h
  |Ej _ l2 h2=>rw[hl] at h2;cases h2;rfl
 subst GD;have dH:=(Array.getElem?_eq_some_iff.1 hh).1;have Ex:(getObj l.b).run P w= .ok (.map ms clock) w:=by simp[getObj,Sem.run,hh]
 have mH:=qI hk n ni w;have hlen:ms.toList.length=es.length:=by have:=congrArg List.length ni;simpa using this
 cases hi:es.findIdx? (λe=>e.1==n) with
 |none=>
  rw[hi] at mH;simp only[Option.bind_none] at mH;have eK:(Builtin.delete_ argTypes ty #[.map (some l.b),.int q n]).run P w= .ok (.tuple #[]) (w.putObj l.b (.map ms clock)):=by
   unfold Builtin.delete_;simp[ht0,run_underlying ht,Ex,kg hk,mH,pb hh]
  rw[eK];refine⟨_,μ,_,rfl,μ.le_refl,Y5,hS.fC ho hl ⟨ms,clock,World.putObj_heap_same dH,?_,?_⟩,gE.Et hh hB⟩
  ·simpa[I3,hi] using ni
  ·simpa[I3,hi] using sJ
 |some j=>
  obtain⟨Cz,hje,_⟩:=List.findIdx?_eq_some_iff_getElem.1 hi;have Jf:j<ms.size:=by simpa using(by omega:j<ms.toList.length)
  rw[hi] at mH;simp only[Option.bind_some,Array.getElem?_eq_getElem Jf,Option.map_some] at mH;have eK:(Builtin.delete_ argTypes ty #[.map (some l.b),.int q n]).run P w= .ok (.tuple #[]) (w.putObj l.b (.map (ms.eraseIdxIfInBounds j) clock)):=by
   unfold Builtin.delete_;simp[ht0,run_underlying ht,Ex,kg hk,mH,pb hh]
  rw[eK];have Ey:(ms.eraseIdxIfInBounds j).toList=ms.toList.eraseIdx j:=by
   unfold Array.eraseIdxIfInBounds;rw[dif_pos Jf];simp
  refine⟨_,μ,_,rfl,μ.le_refl,Y5,hS.fC ho hl ⟨_,clock,World.putObj_heap_same dH,?_,?_⟩,gE.Et hh hB⟩
  ·rw[Ey,map_eraseIdx,ni];simp only[I3,hi,map_eraseIdx]
  ·rw[Ey];simp only[I3,hi,map_eraseIdx];refine⟨?_,λr y hr=>?_⟩
   ·have:=sJ.1;simp[List.length_eraseIdx] at this ⊢;simp[this]
   ·rw[List.getElem?_eraseIdx] at hr ⊢;split
    ·rename_i h1;rw[if_pos h1] at hr;exact sJ.2 _ _ hr
    ·rename_i h1;rw[if_neg h1] at hr;exact sJ.2 _ _ hr
theorem CA {t:TypeId}{v:Value}(hS:da P μ H w B)(h:tW P t H=some (v,H')):Told P μ v H' w B ((Instr.makeMap t none).run P w):=by
 unfold tW at h;split at h
 case h_2=>cases h
 rename_i q z UR;cases h;have eK:(Instr.makeMap t none).run P w= .ok (.map (some w.heap.size)) (w.alloc (.map #[] 0)):=by
  unfold Instr.makeMap;simp
 rw[eK];have GH: ∀k,k<w.heap.size→(w.alloc (.map #[] 0)).heap[k]? =w.heap[k]? :=λk hk=>Below.heap_alloc _ _ _ hk
 obtain⟨h1,h2⟩:=hS.gX (w1:=w.alloc (.map #[] 0)) (l:=w.heap.size) (o:=.kz q []) GH (by simp) (Nat.le_refl _) ⟨#[],0,World.alloc_heap_new w _,rfl,.nil⟩
 exact⟨_,_,_,rfl,h1,.Ej _ ⟨w.heap.size,0,0,0⟩ Mu.aQ,h2,(gE.refl B w).alloc hS.base _⟩
theorem Jg {t k e:TypeId}{argTypes:Array TypeId}{ty:TypeId}{m m' v:Value}(hS:da P μ H w B)(hm:VR μ m m')(ht0:argTypes[0]? =some t)(ht:P.underlying t=some (.map k e))(h:vQ m H=some v):
  (Builtin.len_ argTypes ty #[m']).run P w= .ok v w∧cF v=true:=by
 unfold vQ at h;split at h
 case h_2=>cases h
 rename_i i;split at h
 case h_2=>cases h
 rename_i q es ho;cases h;obtain⟨l,hl,hB,ms,clock,hh,ni,sJ⟩:=hS.db.ok _ _ ho;have GD:m'= .map (some l.b):=by
  cases hm with
  |plain _ h=>simp[cF] at h
  |Ej _ l2 h2=>rw[hl] at h2;cases h2;rfl
 subst GD;have Ex:(getObj l.b).run P w= .ok (.map ms clock) w:=by simp[getObj,Sem.run,hh]
 have hlen:ms.size=es.length:=by have:=congrArg List.length ni;simpa using this
 refine⟨?_,rfl⟩;unfold Builtin.len_;simp[ht0,run_underlying ht,Ex,goInt,hlen]
variable {P:Program} {μ:Mu} {H H':ae} {w:World} {B:Nat}
theorem G5 {argTypes:Array TypeId}{ty:TypeId}{d d' s s' v:Value}(hS:da P μ H w B)(hd:VR μ d d')(hs:VR μ s s')(h:pN P argTypes d s H=some (v,H')):
  Told P μ v H' w B ((Builtin.copy_ argTypes ty #[d',s']).run P w):=by
 unfold pN at h;split at h
 ·rename_i XY hd0;split at h
  ·rename_i elem base GR ah8 sa sLen sCap hu;cases hz:iU P elem with
   |none=>rw[hz] at h;cases h
   |some size=>
    rw[hz] at h;simp only at h;obtain⟨_,sa',zo,rfl,_,_⟩:=hs.gC;obtain⟨_,zn,adH,rfl,I8,_⟩:=hd.gC;cases hc:bp H size (min sLen GR) (.slice sa sLen sCap) with
    |none=>rw[hc] at h;cases h
    |some cs=>
     rw[hc] at h;simp only at h;obtain⟨hlen,kA,dg,hv,eK⟩:=qE (P:=P) hS hs (Nat.min_le_left _ _) hc;have ug:dg.length=min sLen GR*size:=by rw[←hv.1];exact hlen
     have hr:(Builtin.copy_ argTypes ty #[.slice zn GR adH,.slice sa' sLen zo]).run P w=
       ((match zn with|some a=>storeCells a dg|none=>pure ():Sem Unit).run P w).andThen λ_ w=>.ok (.int .i64 (min sLen GR:Nat)) w:=by
      have e:Nat.min sLen GR=min sLen GR:=rfl;simp[Builtin.copy_,hd0,run_underlying hu,Builtin.lenOf,eZ hz,e,eK w rfl,goInt];cases zn<;>simp
     rw[hr];cases base with
     |none=>
      simp only at h;cases h;cases zn with
      |some _=>simp at I8
      |none=>exact Told.same hS (.plain _ rfl)
     |some ad=>
      obtain⟨i,off,spot⟩:=ad;cases spot with
      |some _=>cases h
      |none=>
       simp only at h;split at h
       ·rename_i Lu;cases h;have:dg=[]:=List.eq_nil_of_length_eq_zero (by rw[ug,Lu];simp)
        subst this;cases zn with
        |none=>simp at I8
        |some a=>simp only[storeCells,Sem.run_pure,Result.andThen_ok];exact Told.same hS (.plain _ rfl)
       ·rename_i Lu;rw[Option.map_eq_some_iff] at h;obtain⟨H2,ky,e⟩:=h;cases e;rcases hd.dO with⟨i2,qG,Er,l,e,hl,g1,g2,g3,e2⟩|⟨i2,qG,a2,e,rfl,rfl,e2⟩
        ·cases e;cases e2;obtain⟨w',hr,pY,hB⟩:=hS.st hl ky hv;simp only[hr,Result.andThen_ok];exact⟨_,μ,w',rfl,μ.le_refl,.plain _ rfl,pY,hB⟩
        ·simp at Lu
  ·cases h
 ·cases h
theorem Jh {argTypes:Array TypeId}{ty:TypeId}{x x' v:Value}(hS:da P μ H w B)(hx:VR μ x x')(h:Ef P H argTypes x=some v):
  (Builtin.len_ argTypes ty #[x']).run P w= .ok v w∧cF v=true:=by
 unfold Ef at h;split at h
 ·rename_i t ht;split at h
  ·rename_i k e hu;exact Jg hS hx ht hu h
  ·rename_i s hu;obtain rfl:=hx.string;cases h;exact⟨by simp[Builtin.len_,ht,run_underlying hu,goInt],rfl⟩
  ·rename_i n e hu;cases h;exact⟨by simp[Builtin.len_,ht,run_underlying hu,goInt],rfl⟩
  ·rename_i a n c e hu;obtain⟨_,a',c',rfl,_⟩:=hx.gC;cases h;exact⟨by simp[Builtin.len_,ht,run_underlying hu,goInt],rfl⟩
  ·cases h
 ·cases h
def gQ (P:Program)(μ:Mu)(v:Value)(H':ae)(w:World)(B:Nat)(r:Result Next):Prop:=
 ∃v' μ' w',(r= .ok (.value v') w'∨(r= .ok .skip w'∧v'=undef))∧μ.le μ'∧VR μ' v v'∧da P μ' H' w' B∧gE B w w'
theorem Told.next {v:Value}{s:Sem Value}(h:Told P μ v H' w B (s.run P w)):gQ P μ v H' w B ((do pure (Next.value (←s)):Sem Next).run P w):=by
 obtain⟨v',μ',w',hr,rest⟩:=h;exact⟨v',μ',w',.inl (by simp[hr]),rest⟩
theorem gQ.quiet {v v':Value}{s:Sem Value}(hS:da P μ H w B)(hr:s.run P w= .ok v' w)(hv:VR μ v v'):gQ P μ v H w B ((do pure (Next.value (←s)):Sem Next).run P w):=
 Told.next (by rw[hr];exact Told.same hS hv)
theorem zp {b:Builtin}{argTypes:Array TypeId}{ty:TypeId}{consts:Array Bool}{args eI:List Value}{v:Value}(hS:da P μ H w B)(ha:dR μ args eI)(h:lA P b argTypes args H=some (v,H')):
  gQ P μ v H' w B ((builtin b argTypes ty consts eI.toArray).run P w):=by
 unfold lA at h;split at h
 ·obtain⟨s',_,rfl,r1,h2⟩:=ha.gL;obtain⟨x',_,rfl,r2,h3⟩:=h2.gL;obtain rfl:=h3.jh;exact(Cx (ty:=ty) hS r1 r2 h).next
 ·obtain⟨s',_,rfl,r1,h2⟩:=ha.gL;obtain⟨x',_,rfl,r2,h3⟩:=h2.gL;obtain rfl:=h3.jh;exact(G5 (ty:=ty) hS r1 r2 h).next
 ·obtain⟨x',_,rfl,r1,h3⟩:=ha.gL;obtain rfl:=h3.jh;rw[Option.map_eq_some_iff] at h;obtain⟨v2,hv,e⟩:=h;cases e;obtain⟨hr,hp⟩:=Jh (ty:=ty) hS r1 hv;exact gQ.quiet hS hr (.plain _ hp)
 ·obtain⟨x',_,rfl,r1,h3⟩:=ha.gL;obtain rfl:=h3.jh;exact(Eu (ty:=ty) hS r1 h).next
 ·obtain⟨s',_,rfl,r1,h2⟩:=ha.gL;obtain⟨x',_,rfl,r2,h3⟩:=h2.gL;obtain rfl:=h3.jh;exact(Ez (ty:=ty) hS r1 r2 h).next
 ·rename_i len n;obtain⟨x',_,rfl,r1,h3⟩:=ha.gL;obtain rfl:=h3.jh;obtain⟨rfl,rfl,rfl⟩:=r1.ji;split at h
  ·rename_i e hu;cases h;rw[Option.bind_eq_some_iff] at hu;obtain⟨t,ht,hu⟩:=hu;exact gQ.quiet (v':=.int .i64 0) hS (by simp[Builtin.cap_,ht,run_underlying hu,goInt]) (.plain _ rfl)
  ·cases h
 ·rename_i k a k' c;obtain⟨s',_,rfl,r1,h2⟩:=ha.gL;obtain⟨x',_,rfl,r2,h3⟩:=h2.gL;obtain rfl:=h3.jh;obtain rfl:=r1.int;obtain rfl:=r2.int;split at h
  ·rename_i e;subst e;cases h;exact gQ.quiet hS (by simp[Builtin.min_,Builtin.min2]) (.plain _ rfl)
  ·cases h
 ·rename_i k a k' c;obtain⟨s',_,rfl,r1,h2⟩:=ha.gL;obtain⟨x',_,rfl,r2,h3⟩:=h2.gL;obtain rfl:=h3.jh;obtain rfl:=r1.int;obtain rfl:=r2.int;split at h
  ·rename_i e;subst e;cases h;exact gQ.quiet hS (by simp[Builtin.max_,Builtin.max2]) (.plain _ rfl)
  ·cases h
 ·cases h
theorem P8.map {ρ ρ':Operand→Value}(hρ: ∀x,VR μ (ρ x) (ρ' x))(o:Option Operand):P8 μ (o.map ρ) (o.map ρ'):=by
 cases o with
 |none=>exact .inl ⟨rfl,rfl⟩
 |some x=>exact .inr ⟨_,_,rfl,rfl,hρ x⟩
theorem dR.map {ρ ρ':Operand→Value}(hρ: ∀x,VR μ (ρ x) (ρ' x))(l:List Operand):dR μ (l.map ρ) (l.map ρ'):=by
 induction l with
 |nil=>exact .nil
 |cons x l ih=>exact .cons (hρ x) ih
theorem dR.parts {ρ ρ':Operand→Value}(hρ: ∀x,VR μ (ρ x) (ρ' x))(l:List (Nat×Operand)):
  dR μ ((l.map λ(i,x)=>(i,ρ x)).map (·.2)) ((l.map λ(i,x)=>(i,ρ' x)).map (·.2)):=by
 induction l with
 |nil=>exact .nil
 |cons x l ih=>exact .cons (hρ x.2) ih
theorem vX {ρ ρ':Operand→Value}(l:List (Nat×Operand)):
  (l.map λ(i,x)=>(i,ρ x)).map (·.1)=(l.map λ(i,x)=>(i,ρ' x)).map (·.1):=by
 induction l with
 |nil=>rfl
 |cons x l ih=>simp
theorem Nq {ρ ρ':Operand→Value}{o:Oper}{v:Value}(hS:da P μ H w B)(hρ: ∀x,VR μ (ρ x) (ρ' x))(h:iW P ρ H o.op=some (v,H')):
  gQ P μ v H' w B ((execOp ρ' o).run P w):=by
 obtain⟨dst,op,type,pos,after,guard⟩:=o;simp only at h;unfold iW at h;split at h<;>(unfold execOp;try simp only)
 ·
  cases h;exact⟨_,μ,w,.inl rfl,μ.le_refl,hρ _,hS,gE.refl _ _⟩
 ·cases h;exact⟨_,μ,w,.inl rfl,μ.le_refl,hρ _,hS,gE.refl _ _⟩
 ·
  rename_i c a b;split at h
  ·rename_i t hc;cases h;have Nn:=hρ c;rw[hc] at Nn;have e:=Nn.bool;refine⟨if t then ρ' a else ρ' b,μ,w,.inl ?_,μ.le_refl,?_,hS,gE.refl _ _⟩
   ·simp[e,asBool]
   ·cases t
    ·exact hρ b
    ·exact hρ a
  ·cases h
 ·
  rename_i t;split at h
  ·rename_i z hz;obtain⟨IU,qm,_⟩:=eG hz w;cases h;have:=uo (P:=P) (t:=t) (t':=t) (dg:=z.cells) hS (sX qm) (lE qm)
   refine Told.next ?_;have e:(Instr.alloc t true (.tuple #[])).run P w=(do pure (.pointer (some (←newRow t z.cells))):Sem Value).run P w:=by
    simp[Instr.alloc,IU,newVar]
   rw[e];exact this
  ·cases h
 ·
  rename_i t x;split at h
  ·rename_i kA;cases h;have hk:known (ρ x)=true:=by
    revert kA
    cases ρ x<;>simp[Value.cells,aD,known]
   exact Told.next (uo (P:=P) (t:=t) (t':=t) (dg:=(ρ' x).cells) hS kA (dR.cells (hρ x) hk))
  ·cases h
 ·
  rename_i t ps;rw[Option.map_eq_some_iff] at h;obtain⟨v2,hv,e⟩:=h;cases e;obtain⟨v',hr,yr⟩:=Em (vX ps.toList) (dR.parts hρ ps.toList) hv w;refine gQ.quiet hS ?_ yr;have e:(ps.map λ(i,x)=>(i,ρ' x))=(ps.toList.map λ(i,x)=>(i,ρ' x)).toArray:=by
   rw[←Array.toList_inj];simp
  rw[e];exact hr
 ·
  rename_i t n ps;have:=uq (P:=P) hS (vX (ρ':=ρ') ps.toList) (dR.parts hρ ps.toList) h
  have e:(ps.map λ(i,x)=>(i,ρ' x))=(ps.toList.map λ(i,x)=>(i,ρ' x)).toArray:=by
   rw[←Array.toList_inj];simp
  simp only[e];exact this.next
 ·
  rw[Option.map_eq_some_iff] at h;obtain⟨v2,hv,e⟩:=h;cases e;obtain⟨v',hr,yr⟩:=wX hS (hρ _) hv;exact gQ.quiet hS hr yr
 ·
  rw[Option.map_eq_some_iff] at h;obtain⟨H2,hv,e⟩:=h;cases e;obtain⟨w',hr,pY,hB⟩:=G1 hS (hρ _) (hρ _) hv;exact⟨undef,μ,w',.inr ⟨by simp[hr],rfl⟩,μ.le_refl,dR.tuple .nil,pY,hB⟩
 ·
  rename_i x;have hx:=hρ x;split at h
  ·rename_i a e;cases h;rw[e] at hx;obtain⟨i,off,l,rfl,hl,e2⟩:=hx.oW;rw[e2];exact⟨_,μ,w,.inl rfl,μ.le_refl,.ptr i off l hl,hS,gE.refl _ _⟩
  ·rename_i g f c e;cases h;rw[e] at hx;obtain⟨f',c',e2,h1,h2⟩:=hx.y8 rfl;rw[e2] at hx ⊢;exact⟨_,μ,w,.inl rfl,μ.le_refl,hx,hS,gE.refl _ _⟩
  ·cases h
 ·
  rename_i op t x y yt;rw[Option.map_eq_some_iff] at h;obtain⟨v2,hv,e⟩:=h;cases e;obtain⟨hr,hp⟩:=zd (hρ x) (hρ y) hv x y w;exact gQ.quiet hS hr (.plain _ hp)
 ·
  rw[Option.map_eq_some_iff] at h;obtain⟨v2,hv,e⟩:=h;cases e;obtain⟨hr,hp⟩:=Nl (P:=P) (hρ _) hv w;exact gQ.quiet hS hr (.plain _ hp)
 ·
  rename_i src dst x;split at h
  ·rename_i d k k' n hs hu hx;cases h;have Nr:=hρ x;rw[hx] at Nr;have e:=Nr.int;refine gQ.quiet (v':=.int k (k.wrap n)) hS ?_ (.plain _ rfl);rw[e];simp only[convert,Sem.run_bind,run_underlying hs,run_underlying hu,Result.andThen_ok];cases d<;>simp[Conv.intToInt]
  ·cases h
 ·
  rename_i g first captured
  cases h;refine gQ.quiet (v':=.func (.func g) (first.map ρ') (captured.map ρ')) hS rfl ?_
  have h1:=dR.map hρ first.toList
  have h2:=dR.map hρ captured.toList;rw[←Array.toList_map, ←Array.toList_map] at h1 h2;exact .func _ _ _ _ _ rfl h1.arr.1 h2.arr.1 h1.arr.2 h2.arr.2
 ·
  exact(vU hS (hρ _) (hρ _) h).next
 ·
  rw[Option.map_eq_some_iff] at h;obtain⟨v2,hv,e⟩:=h;cases e;obtain⟨v',hr,yr⟩:=uk (P:=P) hS (hρ _) (P8.map hρ _) (P8.map hρ _) hv;exact gQ.quiet hS hr yr
 ·
  rw[Option.map_eq_some_iff] at h;obtain⟨v2,hv,e⟩:=h;cases e;obtain⟨v',hr,yr⟩:=Cy (P:=P) hS (hρ _) (P8.map hρ _) (P8.map hρ _) (hρ _) hv;exact gQ.quiet hS hr yr
 ·
  exact(CA hS h).next
 ·
  rw[Option.map_eq_some_iff] at h;obtain⟨v2,hv,e⟩:=h;cases e;obtain⟨v',hr,yr⟩:=Ew (P:=P) hS (hρ _) (hρ _) hv;exact gQ.quiet hS hr yr
 ·
  obtain⟨w',hr,rfl,pY,hB⟩:=xI (P:=P) hS (hρ _) (hρ _) (hρ _) h;exact⟨undef,μ,w',.inr ⟨by simp[hr],rfl⟩,μ.le_refl,dR.tuple .nil,pY,hB⟩
 ·
  rename_i t x f;have hx:=hρ x;split at h
  ·rename_i fields i off hu e;rw[e] at hx;obtain⟨i2,qG,l,e1,hl,e2⟩:=hx.oW;cases e1;split at h
   ·rename_i fd hf;split at h
    ·cases h
    ·rename_i n Lu hn;cases h;have eC:n≠0:=λe=>Lu e
     refine gQ.quiet (v':=.pointer (some ⟨l.b,l.o+(off+fd.offset),none⟩)) hS ?_ (.ptr i _ l hl);rw[e2];simp[Instr.fieldAt,run_underlying hu,hf,Instr.sureAddr,fieldPlace,eZ hn,eC,iY,Nat.add_assoc]
    ·cases h
   ·cases h
  ·cases h
 ·
  rename_i t x f;have hx:=hρ x;split at h
  ·rename_i fields cs hu e;rw[e] at hx;obtain⟨dg,e2,lQ⟩:=hx.rG;split at h
   ·rename_i fd hf;rw[Option.map_eq_some_iff] at h;obtain⟨v2,hv,e3⟩:=h;cases e3;obtain⟨v',hr,yr⟩:=nh lQ hv w;refine gQ.quiet hS ?_ yr;rw[e2];simp[Instr.field,run_underlying hu,hf,asAgg,hr]
   ·cases h
  ·cases h
 ·
  rename_i t x ix;have hx:=hρ x;have hi:=hρ ix;split at h
  ·rename_i elem i off len cap k n hu e1 e2;rw[e1] at hx;rw[e2] at hi;have e3:=hi.int;split at h
   ·rename_i size hz;split at h
    ·rename_i hb;cases h;rcases hx.dO with⟨i2,qG,Er,l,e,hl,g1,g2,g3,e4⟩|⟨i2,qG,a2,e,rfl,rfl,e4⟩
     ·cases e;refine gQ.quiet (v':=.pointer (some ⟨l.b,l.o+(off+n.toNat*size),none⟩)) hS ?_ (.ptr i _ l hl);rw[e3,e4];simp[Instr.indexAt,asIntOf,run_underlying hu,hb,eZ hz,iY,Nat.add_assoc]
     ·omega
    ·cases h
   ·cases h
  ·rename_i len elem i off k n hu e1 e2;rw[e1] at hx;rw[e2] at hi;have e3:=hi.int;split at h
   ·rename_i size hz;split at h
    ·rename_i hb;cases h;obtain⟨i2,qG,l,e,hl,e4⟩:=hx.oW;cases e;refine gQ.quiet (v':=.pointer (some ⟨l.b,l.o+(off+n.toNat*size),none⟩)) hS ?_ (.ptr i _ l hl);rw[e3,e4];simp[Instr.indexAt,asIntOf,run_underlying hu,hb,eZ hz,iY,Nat.add_assoc,Instr.sureAddr]
    ·cases h
   ·cases h
  ·cases h
 ·
  rename_i t x ix;have hx:=hρ x;have hi:=hρ ix;split at h
  ·rename_i len elem cs k n hu e1 e2;rw[e1] at hx;rw[e2] at hi;have e3:=hi.int;obtain⟨dg,e4,lQ⟩:=hx.rG;split at h
   ·rename_i size hz;split at h
    ·rename_i hb;rw[Option.map_eq_some_iff] at h;obtain⟨v2,hv,e5⟩:=h;cases e5;obtain⟨v',hr,yr⟩:=nh lQ hv w;refine gQ.quiet hS ?_ yr;rw[e3,e4];simp[Instr.index,asIntOf,run_underlying hu,hb,eZ hz,hr]
    ·cases h
   ·cases h
  ·rename_i s k n hu e1 e2;rw[e1] at hx;rw[e2] at hi;have e3:=hi.int;have e4:=hx.string;split at h
   ·rename_i hb;rw[Option.map_eq_some_iff] at h;obtain⟨c,hc,e5⟩:=h;cases e5;refine gQ.quiet (v':=.int .u8 c.toNat) hS ?_ (.plain _ rfl);rw[e3,e4];simp[Instr.index,asIntOf,run_underlying hu,hb,hc]
   ·cases h
  ·cases h
 ·
  rename_i t ix;have hx:=hρ t;split at h
  ·rename_i vs e;rw[e] at hx;obtain⟨ju,e2,hvs⟩:=hx.Dr;rw[Option.map_eq_some_iff] at h;obtain⟨v2,hv,e5⟩:=h;cases e5;obtain⟨v',Qs,xF⟩:=hvs.2 ix v (by simpa using hv)
   refine gQ.quiet hS ?_ xF;rw[e2];simp[Instr.extract,show ju[ix]? =some v' by simpa using Qs]
  ·cases h
 ·
  rename_i b args argTypes;have:=zp (P:=P) (ty:=type) (consts:=(args.map λ| .const _=>true|_=>false)) hS (dR.map hρ args.toList) h
  simp only[resolve,Sem.run_bind,Sem.run_pure,Result.andThen_ok,invoke];have e:(args.toList.map ρ').toArray=args.map ρ':=by rw[←Array.toList_inj];simp
  rw[e] at this;exact this
 ·cases h
end Go.Proofs.YtjgmnoaalbbonaaGreatA.Am
end
