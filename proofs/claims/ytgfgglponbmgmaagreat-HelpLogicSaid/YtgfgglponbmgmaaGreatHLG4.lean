/- Texts of the proof of helpLogic_holds, put together by a small program of ours (names shortened, spaces taken out). No condition beyond the given statement. -/
import Derived.Test.YtgfgglponbmgmaaGreatHLG3
set_option linter.unusedVariables false
set_option linter.unusedSimpArgs false
set_option linter.unnecessarySimpa false
noncomputable section
section
namespace Go.Proofs.YtgfgglponbmgmaaGreatA.Am
open Go.RowKit (Below)
variable {P:Program} {μ:Mu} {H H':aa} {w:World} {B:Nat}
theorem zo {t:TypeId}{x x' v m m':Value}{lo hi PD sO:Option Value}(hS:cJ P μ H w B)(hx:VR μ x x')(IS:LP μ lo PD)(IT:LP μ hi sO)(hm:VR μ m m')(h:oY P H t x lo hi m=some v):
  ∃v',(Instr.sliceAt t x' PD sO (some m')).run P w= .ok v' w∧VR μ v v':=by
 unfold oY at h;split at h
 case h_2=>cases h
 rename_i a len cap hv k mx;split at h
 case isFalse=>cases h
 rename_i hb;obtain rfl:=hm.int;obtain⟨CX,a',eY,rfl,EP,hcc⟩:=hx.eW;have hx0:VR μ (.slice a 0 mx.toNat) (.slice a' 0 mx.toNat):=by
  cases a with
  |none=>
   obtain⟨rfl,rfl,e2⟩:=hx.gZ;cases e2;have:mx.toNat=0:=by omega
   rw[this];exact .plain _ rfl
  |some ad=>
   rcases hx.eD with⟨i,off,c2,lc,rfl,De,g1,g2,g3,e2⟩|⟨i,off,a2,rfl,rfl,rfl,e2⟩
   ·cases e2;refine .slice i off 0 mx.toNat mx.toNat lc De (by omega) (by omega) ?_
    have:mx.toNat*lc.es≤eY*lc.es:=Nat.mul_le_mul_right _ (by omega)
    omega
   ·cases e2;have:mx.toNat=0:=by omega
    rw[this];exact .lU _ _ _
 obtain⟨v',hr,E5⟩:=adV (P:=P) (w:=w) hS hx0 IS IT h;refine⟨v',?_,E5⟩;rw[←hr];unfold og at h;split at h
 case h_2=>cases h
 rename_i elem a0 adp adq hu e0;cases e0;cases hz:jB P elem with
 |none=>rw[hz] at h;cases h
 |some size=>
  rw[hz] at h;simp only at h;split at h
  case h_2=>cases h
  rename_i h' l hh hl;split at h
  case isFalse=>cases h
  rename_i hbb;have hbd:=vU (P:=P) (w:=w) IS IT hh hl hbb (Nat.le_refl _);have YY:(Instr.sliceBounds true len eY PD sO (some (.int k mx))).run P w= .ok (l.toNat,h'.toNat,mx.toNat) w:=by
   have Mr:=jE (P:=P) (k:=k) (n:=mx) (y:=eY) (c:=.slice3Acap) hb.1 (by omega) w
   rcases IT with⟨e,_⟩|⟨c,c',e,rfl,r⟩
   ·cases e
   cases e;obtain⟨k1,rfl⟩:=jD r hh;have h1:=jE (P:=P) (k:=k1) (y:=mx.toNat) (c:=.slice3B) hbb.1 (by omega) w
   rcases IS with⟨rfl,rfl⟩|⟨c2,c2',rfl,rfl,r2⟩
   ·simp only[db] at hl;cases hl;simp[Instr.sliceBounds,Mr,h1]
   ·obtain⟨k2,rfl⟩:=jD r2 hl;have h2:=jE (P:=P) (k:=k2) (n:=l) (y:=h'.toNat) (c:=.slice3C) hbb.2.2.1 (by omega) w
    simp[Instr.sliceBounds,Mr,h1,h2]
  simp[Instr.sliceAt,Instr.slice,run_underlying hu,hbd,YY,eh hz]
theorem Bn {argTypes:Array TypeId}{ty:TypeId}{x x' v:Value}(hS:cJ P μ H w B)(hx:VR μ x x')(h:sI P argTypes x H=some (v,H')):
  Told P μ v H' w B ((Builtin.clear_ argTypes ty #[x']).run P w):=by
 have Ul:VR μ undef (.tuple #[]):=cT.tuple (c:=#[]) (c':=#[]) .nil;unfold sI at h;split at h
 case h_2=>cases h
 rename_i elem base n cap hu;rw[Option.bind_eq_some_iff] at hu;obtain⟨t,ht,hu⟩:=hu;cases hz:zeroOf P elem with
 |none=>rw[hz] at h;cases h
 |some z=>
  rw[hz] at h;simp only at h;obtain⟨EF,pH,_⟩:=dN hz w;obtain⟨_,a',eY,rfl,EP,_⟩:=hx.eW;cases base with
  |none=>
   simp only at h;cases h;cases a' with
   |some _=>simp at EP
   |none=>
    have:(Builtin.clear_ argTypes ty #[.slice none n eY]).run P w= .ok (.tuple #[]) w:=by
     cases n<;>simp[Builtin.clear_,ht,run_underlying hu]
    rw[this];exact Told.same hS Ul
  |some ad=>
   obtain⟨i,off,spot⟩:=ad;cases spot with
   |some _=>cases h
   |none=>
    simp only at h;split at h
    ·rename_i Gs;cases h;subst Gs;have:(Builtin.clear_ argTypes ty #[.slice a' 0 eY]).run P w= .ok (.tuple #[]) w:=by
      cases a'<;>simp[Builtin.clear_,ht,run_underlying hu]
     rw[this];exact Told.same hS Ul
    ·rename_i Gs;rw[Option.map_eq_some_iff] at h;obtain⟨H2,mj,e⟩:=h;cases e;rcases hx.eD with⟨i2,nN,Bl,l,e,hl,g1,g2,g3,e2⟩|⟨i2,nN,a2,e,rfl,rfl,e2⟩
     ·cases e;cases e2;have ra:=kI (μ:=μ) pH n;obtain⟨w',hr,sN,hB⟩:=hS.st hl mj ra;have dy: ∃n',n=n'+1:=⟨n-1,by omega⟩
      obtain⟨n',rfl⟩:=dy;have hzz:(Builtin.zeroCells z.cells (n'+1)).toList=bK z.cells.toList (n'+1):=by
       by_cases h0:z.cells.size=0
       ·have e1:z.cells= #[]:=Array.eq_empty_of_size_eq_zero h0;rw[e1];simp[Builtin.zeroCells,bK]
       ·rw[←lY _ _ h0]
      have:(Builtin.clear_ argTypes ty #[.slice (some ⟨l.b,l.o+off,none⟩) (n'+1) eY]).run P w= .ok (.tuple #[]) w':=by
       simp[Builtin.clear_,ht,run_underlying hu,EF,hzz,hr]
      rw[this];exact⟨_,μ,w',rfl,μ.le_refl,Ul,sN,hB⟩
     ·exact absurd rfl Gs
theorem sQ {t:TypeId}{q:IntKind}{z:Value}(h:mapOf P t=some (q,z)): ∃k e,P.underlying t=some (.map k e)∧P.underlying k=some (.int q)∧zeroOf P e=some z:=by
 unfold mapOf at h;split at h
 case h_2=>cases h
 rename_i k e ht;split at h
 case h_2=>cases h
 rename_i q' z' hk hz;cases h;exact⟨k,e,ht,hk,hz⟩
theorem jc {k:TypeId}{q:IntKind}(hk:P.underlying k=some (.int q))(b:Bool)(q':IntKind)(n:Int)(w:World):(Instr.checkKey b 10000 k (.int q' n)).run P w= .ok () w:=by
 unfold Instr.checkKey;simp[run_underlying hk]
theorem tQ (q:IntKind)(n:Int): ∀(ms:List MapEntry) (es:List (Int×Value)) (i:Nat),ms.map (·.key)=es.map (λe=>Value.int q e.1)→
  Instr.findNow (.int q) (.int q n) ms i=some ((es.findIdx? (λe=>e.1==n)).bind λj=>(ms[j]?).map λm=>(i+j,m.val))
 | [],es,i,h=>by
  have:es=[]:=by cases es with|nil=>rfl|cons _ _=>simp at h
  subst this;simp[Instr.findNow]
 |m::ms,es,i,h=>by
  cases es with
  |nil=>simp at h
  |cons e es=>
   simp only[List.map_cons,List.cons.injEq] at h;obtain⟨h1,h2⟩:=h;rw[Instr.findNow,h1];simp only[Instr.sameNow,if_true];by_cases he:n=e.1
   ·subst he;simp[List.findIdx?_cons]
   ·have hb:(n==e.1)=false:=by simpa using he
    have Mq:(e.1==n)=false:=by simpa using λx=>he x.symm
    rw[hb];simp only;rw[tQ q n ms es (i+1) h2,List.findIdx?_cons,Mq];simp only[Bool.false_eq_true,if_false];cases es.findIdx? (λe=>e.1==n) with
    |none=>rfl
    |some j=>simp[Nat.add_assoc,Nat.add_comm 1 j]
theorem Ms (es:List (Int×Value))(n:Int):es.find? (λe=>e.1==n)=(es.findIdx? (λe=>e.1==n)).bind (es[·]?):=by
 induction es with
 |nil=>rfl
 |cons e es ih=>
  rw[List.find?_cons,List.findIdx?_cons];by_cases h:(e.1==n)=true
  ·rw[h];rfl
  ·have:(e.1==n)=false:=by simpa using h
   rw[this];simp only[Bool.false_eq_true,if_false,ih];cases es.findIdx? (λe=>e.1==n)<;>rfl
theorem ov {k:TypeId}{q:IntKind}(hk:P.underlying k=some (.int q))(n:Int){ms:Array MapEntry}{es:List (Int×Value)}(h:ms.toList.map (·.key)=es.map (λe=>Value.int q e.1))(w:World):
  (Instr.findKey k (.int q n) ms.toList).run P w= .ok ((es.findIdx? (λe=>e.1==n)).bind λj=>(ms[j]?).map λm=>(j,m.val)) w:=by
 unfold Instr.findKey;simp only[Sem.run_bind,run_underlying hk,Result.andThen_ok,tQ q n ms.toList es 0 h,Sem.run_pure]
 congr 2
 funext j
 simp
theorem Bo {t:TypeId}{m m' x x' v:Value}{ok:Bool}(hS:cJ P μ H w B)(hm:VR μ m m')(hx:VR μ x x')(h:oX P t m x ok H=some v):
  ∃v',(Instr.lookup t m' x' ok).run P w= .ok v' w∧VR μ v v':=by
 unfold oX at h;split at h
 case h_2=>cases h
 rename_i q z P2;obtain⟨k,e,ht,hk,hz⟩:=sQ P2;unfold C5 at h;split at h
 case h_2=>cases h
 rename_i i q1 n;obtain rfl:=hx.int;split at h
 case h_2=>cases h
 rename_i q2 es ho;split at h
 case isFalse=>cases h
 rename_i hq;obtain⟨rfl,rfl⟩:=hq;obtain⟨l,hl,hB,ms,clock,hh,lI,pY⟩:=hS.dT.ok _ _ ho;have PA:m'= .map (some l.b):=by
  cases hm with
  |plain _ h=>simp[cp] at h
  |Be _ l2 h2=>rw[hl] at h2;cases h2;rfl
 subst PA;have Bp:(getObj l.b).run P w= .ok (.map ms clock) w:=by simp[getObj,Sem.run,hh]
 have kN:=ov hk n lI w;rw[Ms] at h;have key: ∀r,(Instr.findKey k (.int q n) ms.toList).run P w= .ok r w→(Instr.lookup t (.map (some l.b)) (.int q n) ok).run P w=
   ((match r with|some (_,v)=>pure (v,true)|none=>do pure ((←zeroValue e),false):Sem (Value×Bool)).run P w).andThen λp w=>.ok (if ok then .tuple #[p.1,.bool p.2] else p.1) w:=by
  intro r hr;unfold Instr.lookup;simp only[Sem.run_bind,run_underlying ht,Result.andThen_ok,Bp,Sem.run_pure,jc hk,hr];cases r with
  |none=>cases hzz:(zeroValue e).run P w<;>simp[hzz,Result.andThen]
  |some p=>simp
 rw[key _ kN];cases hi:es.findIdx? (λe=>e.1==n) with
 |none=>
  rw[hi] at h;simp only[Option.bind_none] at h ⊢;obtain⟨EF,pH,_⟩:=dN hz w;simp only[Sem.run_bind,EF,Result.andThen_ok,Sem.run_pure];refine⟨_,rfl,?_⟩;cases h;cases ok with
  |true=>exact cT.tuple (.cons (.closed pH) (.cons (.plain _ rfl) .nil))
  |false=>exact .closed pH
 |some j=>
  rw[hi] at h;simp only[Option.bind_some] at h ⊢;cases hj:es[j]? with
  |none=>exact absurd hj (by
    have:=List.findIdx?_eq_some_iff_getElem.1 hi
    obtain⟨gB,_⟩:=this;rw[List.getElem?_eq_getElem gB];simp)
  |some ev=>
   rw[hj] at h;simp only at h;obtain⟨u',Mn,hu2⟩:=pY.2 j ev.2 (by rw[List.getElem?_map,hj];rfl)
   rw[List.getElem?_map] at Mn;cases hmj:ms.toList[j]? with
   |none=>rw[hmj] at Mn;cases Mn
   |some mv=>
    rw[hmj] at Mn;cases Mn;have abk:ms[j]? =some mv:=by simpa using hmj
    simp only[abk,Option.map_some,Sem.run_pure,Result.andThen_ok];refine⟨_,rfl,?_⟩;cases h;cases ok with
    |true=>exact cT.tuple (.cons hu2 (.cons (.plain _ rfl) .nil))
    |false=>exact hu2
theorem mO {b:Nat}{x:Obj}{ms:Array MapEntry}{c:Nat}(h:w.heap[b]? =some (.map ms c)):(setObj b x).run P w= .ok () (w.putObj b x):=by
 simp[setObj,Sem.run,h,World.putObj]
theorem uw {t:TypeId}{m m' x x' u u' v:Value}(hS:cJ P μ H w B)(hm:VR μ m m')(hx:VR μ x x')(hu:VR μ u u')(h:mI P t m x u H=some (v,H')):
  ∃w',(Instr.mapUpdate t m' x' u').run P w= .ok () w'∧v=undef∧cJ P μ H' w' B∧eN B w w':=by
 unfold mI at h;split at h
 case h_2=>cases h
 rename_i q z P2;obtain⟨k,e,ht,hk,hz⟩:=sQ P2;unfold Mf at h;split at h
 case h_2=>cases h
 rename_i i q1 n;obtain rfl:=hx.int;split at h
 case h_2=>cases h
 rename_i q2 es ho;split at h
 case isFalse=>cases h
 rename_i hq;obtain⟨rfl,rfl⟩:=hq;cases h;obtain⟨l,hl,hB,ms,clock,hh,lI,pY⟩:=hS.dT.ok _ _ ho;have PA:m'= .map (some l.b):=by
  cases hm with
  |plain _ h=>simp[cp] at h
  |Be _ l2 h2=>rw[hl] at h2;cases h2;rfl
 subst PA;have gB:=(Array.getElem?_eq_some_iff.1 hh).1;have Bp:(getObj l.b).run P w= .ok (.map ms clock) w:=by simp[getObj,Sem.run,hh]
 have kN:=ov hk n lI w;have hlen:ms.toList.length=es.length:=by have:=congrArg List.length lI;simpa using this
 cases hi:es.findIdx? (λe=>e.1==n) with
 |none=>
  rw[hi] at kN;simp only[Option.bind_none] at kN;refine⟨_,?_,rfl,hS.jA (x:=.map (ms.push {key:=.int q n,val:=u',born:=clock}) (clock+1)) ho hl ?_,eN.Bm hh hB⟩
  ·unfold Instr.mapUpdate;simp only[Sem.run_bind,run_underlying ht,Result.andThen_ok,Bp,jc hk,kN,mO hh]
  ·refine⟨_,_,World.putObj_heap_same gB,?_,?_⟩
   ·simp only[Md,hi,Array.toList_push,List.map_append,lI,List.map_cons,List.map_nil]
   ·simp only[Md,hi,Array.toList_push,List.map_append,List.map_cons,List.map_nil];exact pY.append (.cons hu .nil)
 |some j=>
  obtain⟨Af,hje,_⟩:=List.findIdx?_eq_some_iff_getElem.1 hi;have zp:j<ms.size:=by simpa using(by omega:j<ms.toList.length)
  have hkj:ms[j].key= .int q n:=by
   have:=congrArg (λl=>l[j]?) lI
   simp only[List.getElem?_map,List.getElem?_eq_getElem Af,Array.getElem?_toList,Array.getElem?_eq_getElem zp,Option.map_some,Option.some.injEq] at this;rw[this];have:es[j].1=n:=by simpa using hje
   rw[this]
  rw[hi] at kN;simp only[Option.bind_some,Array.getElem?_eq_getElem zp,Option.map_some] at kN;refine⟨_,?_,rfl,hS.jA (x:=.map (ms.modify j λe=>{e with key:=.int q n,val:=u'}) clock) ho hl ?_,eN.Bm hh hB⟩
  ·unfold Instr.mapUpdate;simp only[Sem.run_bind,run_underlying ht,Result.andThen_ok,Bp,jc hk,kN,Array.getElem?_eq_getElem zp,Option.map_some,Option.getD_some,hkj];have mj:(Instr.keyThatStays (.int q n) (.int q n)).run P w= .ok (.int q n) w:=by
    unfold Instr.keyThatStays;simp[Instr.sameBits]
   simp only[mj,Result.andThen_ok,mO hh]
  ·have P3:(ms.modify j λe=>{e with key:=.int q n,val:=u'}).toList=ms.toList.set j {ms[j] with key:=.int q n,val:=u'}:=by
    apply List.ext_getElem?;intro r;rw[Array.getElem?_toList,Array.getElem?_modify,List.getElem?_set];by_cases e:j=r
    ·subst e;rw[if_pos rfl,if_pos rfl,if_pos (by simpa using zp),Array.getElem?_eq_getElem zp];rfl
    ·rw[if_neg e,if_neg e,Array.getElem?_toList]
   refine⟨_,_,World.putObj_heap_same gB,?_,?_⟩
   ·rw[P3,List.map_set,lI];simp only[Md,hi,List.map_set]
   ·rw[P3,List.map_set];simp only[Md,hi,List.map_set];exact pY.set hu j
theorem map_eraseIdx {α β:Type}(f:α→β)(l:List α)(j:Nat):(l.eraseIdx j).map f=(l.map f).eraseIdx j:=by
 apply List.ext_getElem?;intro r;simp only[List.getElem?_map,List.getElem?_eraseIdx];split<;>rfl
theorem Bq {argTypes:Array TypeId}{ty:TypeId}{m m' x x' v:Value}(hS:cJ P μ H w B)(hm:VR μ m m')(hx:VR μ x x')(h:uX P argTypes m x H=some (v,H')):
  Told P μ v H' w B ((Builtin.delete_ argTypes ty #[m',x']).run P w):=by
 have Ul:VR μ undef (.tuple #[]):=cT.tuple (c:=#[]) (c':=#[]) .nil;unfold uX at h;split at h
 case h_2=>cases h
 rename_i q z P2;rw[Option.bind_eq_some_iff] at P2;obtain⟨t,Yj,P2⟩:=P2;obtain⟨k,e,ht,hk,hz⟩:=sQ P2;unfold Mg at h;split at h
 case h_2=>cases h
 rename_i i q1 n;obtain rfl:=hx.int;split at h
 case h_2=>cases h
 rename_i q2 es ho;split at h
 case isFalse=>cases h
 rename_i hq;obtain⟨rfl,rfl⟩:=hq;cases h;obtain⟨l,hl,hB,ms,clock,hh,lI,pY⟩:=hS.dT.ok _ _ ho;have PA:m'= .map (some l.b):=by
  cases hm with
  |plain _ h=>simp[cp] at h
  |Be _ l2 h2=>rw[hl] at h2;cases h2;rfl
 subst PA;have gB:=(Array.getElem?_eq_some_iff.1 hh).1;have Bp:(getObj l.b).run P w= .ok (.map ms clock) w:=by simp[getObj,Sem.run,hh]
 have kN:=ov hk n lI w;have hlen:ms.toList.length=es.length:=by have:=congrArg List.length lI;simpa using this
 cases hi:es.findIdx? (λe=>e.1==n) with
 |none=>
  rw[hi] at kN;simp only[Option.bind_none] at kN;have dF:(Builtin.delete_ argTypes ty #[.map (some l.b),.int q n]).run P w= .ok (.tuple #[]) (w.putObj l.b (.map ms clock)):=by
   unfold Builtin.delete_;simp[Yj,run_underlying ht,Bp,jc hk,kN,mO hh]
  rw[dF];refine⟨_,μ,_,rfl,μ.le_refl,Ul,hS.jA ho hl ⟨ms,clock,World.putObj_heap_same gB,?_,?_⟩,eN.Bm hh hB⟩
  ·simpa[Me,hi] using lI
  ·simpa[Me,hi] using pY
 |some j=>
  obtain⟨Af,hje,_⟩:=List.findIdx?_eq_some_iff_getElem.1 hi;have zp:j<ms.size:=by simpa using(by omega:j<ms.toList.length)
  rw[hi] at kN;simp only[Option.bind_some,Array.getElem?_eq_getElem zp,Option.map_some] at kN;have dF:(Builtin.delete_ argTypes ty #[.map (some l.b),.int q n]).run P w= .ok (.tuple #[]) (w.putObj l.b (.map (ms.eraseIdxIfInBounds j) clock)):=by
   unfold Builtin.delete_;simp[Yj,run_underlying ht,Bp,jc hk,kN,mO hh]
  rw[dF];have P3:(ms.eraseIdxIfInBounds j).toList=ms.toList.eraseIdx j:=by
   unfold Array.eraseIdxIfInBounds;rw[dif_pos zp];simp
  refine⟨_,μ,_,rfl,μ.le_refl,Ul,hS.jA ho hl ⟨_,clock,World.putObj_heap_same gB,?_,?_⟩,eN.Bm hh hB⟩
  ·rw[P3,map_eraseIdx,lI];simp only[Me,hi,map_eraseIdx]
  ·rw[P3];simp only[Me,hi,map_eraseIdx];refine⟨?_,λr y hr=>?_⟩
   ·have:=pY.1;simp[List.length_eraseIdx] at this ⊢;simp[this]
   ·rw[List.getElem?_eraseIdx] at hr ⊢;split
    ·rename_i h1;rw[if_pos h1] at hr;exact pY.2 _ _ hr
    ·rename_i h1;rw[if_neg h1] at hr;exact pY.2 _ _ hr
theorem zt {t:TypeId}{v:Value}(hS:cJ P μ H w B)(h:qN P t H=some (v,H')):Told P μ v H' w B ((Instr.makeMap t none).run P w):=by
 unfold qN at h;split at h
 case h_2=>cases h
 rename_i q z P2;cases h;have dF:(Instr.makeMap t none).run P w= .ok (.map (some w.heap.size)) (w.alloc (.map #[] 0)):=by
  unfold Instr.makeMap;simp
 rw[dF];have Br: ∀k,k<w.heap.size→(w.alloc (.map #[] 0)).heap[k]? =w.heap[k]? :=λk hk=>Below.heap_alloc _ _ _ hk
 obtain⟨h1,h2⟩:=hS.jZ (w1:=w.alloc (.map #[] 0)) (l:=w.heap.size) (o:=.EE q []) Br (by simp) (Nat.le_refl _) ⟨#[],0,World.alloc_heap_new w _,rfl,.nil⟩
 exact⟨_,_,_,rfl,h1,.Be _ ⟨w.heap.size,0,0,0⟩ Mu.aP,h2,(eN.refl B w).alloc hS.base _⟩
theorem E6 {t k e:TypeId}{argTypes:Array TypeId}{ty:TypeId}{m m' v:Value}(hS:cJ P μ H w B)(hm:VR μ m m')(Yj:argTypes[0]? =some t)(ht:P.underlying t=some (.map k e))(h:IL m H=some v):
  (Builtin.len_ argTypes ty #[m']).run P w= .ok v w∧cp v=true:=by
 unfold IL at h;split at h
 case h_2=>cases h
 rename_i i;split at h
 case h_2=>cases h
 rename_i q es ho;cases h;obtain⟨l,hl,hB,ms,clock,hh,lI,pY⟩:=hS.dT.ok _ _ ho;have PA:m'= .map (some l.b):=by
  cases hm with
  |plain _ h=>simp[cp] at h
  |Be _ l2 h2=>rw[hl] at h2;cases h2;rfl
 subst PA;have Bp:(getObj l.b).run P w= .ok (.map ms clock) w:=by simp[getObj,Sem.run,hh]
 have hlen:ms.size=es.length:=by have:=congrArg List.length lI;simpa using this
 refine⟨?_,rfl⟩;unfold Builtin.len_;simp[Yj,run_underlying ht,Bp,goInt,hlen]
variable {P:Program} {μ:Mu} {H H':aa} {w:World} {B:Nat}
theorem Dj {argTypes:Array TypeId}{ty:TypeId}{d d' s s' v:Value}(hS:cJ P μ H w B)(hd:VR μ d d')(hs:VR μ s s')(h:zZ P argTypes d s H=some (v,H')):
  Told P μ v H' w B ((Builtin.copy_ argTypes ty #[d',s']).run P w):=by
 unfold zZ at h;split at h
 ·rename_i SR hd0;split at h
  ·rename_i elem base C4 adr sa sLen sCap hu;cases hz:jB P elem with
   |none=>rw[hz] at h;cases h
   |some size=>
    rw[hz] at h;simp only at h;obtain⟨_,sa',we,rfl,_,_⟩:=hs.eW;obtain⟨_,wa,YZ,rfl,EP,_⟩:=hd.eW;cases hc:cF H size (min sLen C4) (.slice sa sLen sCap) with
    |none=>rw[hc] at h;cases h
    |some cs=>
     rw[hc] at h;simp only at h;obtain⟨hlen,zj,eX,hv,dF⟩:=adS (P:=P) hS hs (Nat.min_le_left _ _) hc;have Dc:eX.length=min sLen C4*size:=by rw[←hv.1];exact hlen
     have hr:(Builtin.copy_ argTypes ty #[.slice wa C4 YZ,.slice sa' sLen we]).run P w=
       ((match wa with|some a=>storeCells a eX|none=>pure ():Sem Unit).run P w).andThen λ_ w=>.ok (.int .i64 (min sLen C4:Nat)) w:=by
      have e:Nat.min sLen C4=min sLen C4:=rfl;simp[Builtin.copy_,hd0,run_underlying hu,Builtin.lenOf,eh hz,e,dF w rfl,goInt];cases wa<;>simp
     rw[hr];cases base with
     |none=>
      simp only at h;cases h;cases wa with
      |some _=>simp at EP
      |none=>exact Told.same hS (.plain _ rfl)
     |some ad=>
      obtain⟨i,off,spot⟩:=ad;cases spot with
      |some _=>cases h
      |none=>
       simp only at h;split at h
       ·rename_i Gs;cases h;have:eX=[]:=List.eq_nil_of_length_eq_zero (by rw[Dc,Gs];simp)
        subst this;cases wa with
        |none=>simp at EP
        |some a=>simp only[storeCells,Sem.run_pure,Result.andThen_ok];exact Told.same hS (.plain _ rfl)
       ·rename_i Gs;rw[Option.map_eq_some_iff] at h;obtain⟨H2,mj,e⟩:=h;cases e;rcases hd.eD with⟨i2,nN,Bl,l,e,hl,g1,g2,g3,e2⟩|⟨i2,nN,a2,e,rfl,rfl,e2⟩
        ·cases e;cases e2;obtain⟨w',hr,sN,hB⟩:=hS.st hl mj hv;simp only[hr,Result.andThen_ok];exact⟨_,μ,w',rfl,μ.le_refl,.plain _ rfl,sN,hB⟩
        ·simp at Gs
  ·cases h
 ·cases h
theorem E7 {argTypes:Array TypeId}{ty:TypeId}{x x' v:Value}(hS:cJ P μ H w B)(hx:VR μ x x')(h:Ba P H argTypes x=some v):
  (Builtin.len_ argTypes ty #[x']).run P w= .ok v w∧cp v=true:=by
 unfold Ba at h;split at h
 ·rename_i t ht;split at h
  ·rename_i k e hu;exact E6 hS hx ht hu h
  ·rename_i s hu;obtain rfl:=hx.string;cases h;exact⟨by simp[Builtin.len_,ht,run_underlying hu,goInt],rfl⟩
  ·rename_i n e hu;cases h;exact⟨by simp[Builtin.len_,ht,run_underlying hu,goInt],rfl⟩
  ·rename_i a n c e hu;obtain⟨_,a',c',rfl,_⟩:=hx.eW;cases h;exact⟨by simp[Builtin.len_,ht,run_underlying hu,goInt],rfl⟩
  ·cases h
 ·cases h
def fS (P:Program)(μ:Mu)(v:Value)(H':aa)(w:World)(B:Nat)(r:Result Next):Prop:=
 ∃v' μ' w',(r= .ok (.value v') w'∨(r= .ok .skip w'∧v'=undef))∧μ.le μ'∧VR μ' v v'∧cJ P μ' H' w' B∧eN B w w'
theorem Told.next {v:Value}{s:Sem Value}(h:Told P μ v H' w B (s.run P w)):fS P μ v H' w B ((do pure (Next.value (←s)):Sem Next).run P w):=by
 obtain⟨v',μ',w',hr,rest⟩:=h;exact⟨v',μ',w',.inl (by simp[hr]),rest⟩
theorem fS.quiet {v v':Value}{s:Sem Value}(hS:cJ P μ H w B)(hr:s.run P w= .ok v' w)(hv:VR μ v v'):fS P μ v H w B ((do pure (Next.value (←s)):Sem Next).run P w):=
 Told.next (by rw[hr];exact Told.same hS hv)
theorem wg {b:Builtin}{argTypes:Array TypeId}{ty:TypeId}{consts:Array Bool}{args fe:List Value}{v:Value}(hS:cJ P μ H w B)(ha:cT μ args fe)(h:jK P b argTypes args H=some (v,H')):
  fS P μ v H' w B ((builtin b argTypes ty consts fe.toArray).run P w):=by
 unfold jK at h;split at h
 ·obtain⟨s',_,rfl,r1,h2⟩:=ha.fq;obtain⟨x',_,rfl,r2,h3⟩:=h2.fq;obtain rfl:=h3.gY;exact(zn (ty:=ty) hS r1 r2 h).next
 ·obtain⟨s',_,rfl,r1,h2⟩:=ha.fq;obtain⟨x',_,rfl,r2,h3⟩:=h2.fq;obtain rfl:=h3.gY;exact(Dj (ty:=ty) hS r1 r2 h).next
 ·obtain⟨x',_,rfl,r1,h3⟩:=ha.fq;obtain rfl:=h3.gY;rw[Option.map_eq_some_iff] at h;obtain⟨v2,hv,e⟩:=h;cases e;obtain⟨hr,hp⟩:=E7 (ty:=ty) hS r1 hv;exact fS.quiet hS hr (.plain _ hp)
 ·obtain⟨x',_,rfl,r1,h3⟩:=ha.fq;obtain rfl:=h3.gY;exact(Bn (ty:=ty) hS r1 h).next
 ·obtain⟨s',_,rfl,r1,h2⟩:=ha.fq;obtain⟨x',_,rfl,r2,h3⟩:=h2.fq;obtain rfl:=h3.gY;exact(Bq (ty:=ty) hS r1 r2 h).next
 ·rename_i len n;obtain⟨x',_,rfl,r1,h3⟩:=ha.fq;obtain rfl:=h3.gY;obtain⟨rfl,rfl,rfl⟩:=r1.gZ;split at h
  ·rename_i e hu;cases h;rw[Option.bind_eq_some_iff] at hu;obtain⟨t,ht,hu⟩:=hu;exact fS.quiet (v':=.int .i64 0) hS (by simp[Builtin.cap_,ht,run_underlying hu,goInt]) (.plain _ rfl)
  ·cases h
 ·rename_i k a k' c;obtain⟨s',_,rfl,r1,h2⟩:=ha.fq;obtain⟨x',_,rfl,r2,h3⟩:=h2.fq;obtain rfl:=h3.gY;obtain rfl:=r1.int;obtain rfl:=r2.int;split at h
  ·rename_i e;subst e;cases h;exact fS.quiet hS (by simp[Builtin.min_,Builtin.min2]) (.plain _ rfl)
  ·cases h
 ·rename_i k a k' c;obtain⟨s',_,rfl,r1,h2⟩:=ha.fq;obtain⟨x',_,rfl,r2,h3⟩:=h2.fq;obtain rfl:=h3.gY;obtain rfl:=r1.int;obtain rfl:=r2.int;split at h
  ·rename_i e;subst e;cases h;exact fS.quiet hS (by simp[Builtin.max_,Builtin.max2]) (.plain _ rfl)
  ·cases h
 ·cases h
theorem LP.map {ρ ρ':Operand→Value}(hρ: ∀x,VR μ (ρ x) (ρ' x))(o:Option Operand):LP μ (o.map ρ) (o.map ρ'):=by
 cases o with
 |none=>exact .inl ⟨rfl,rfl⟩
 |some x=>exact .inr ⟨_,_,rfl,rfl,hρ x⟩
theorem cT.map {ρ ρ':Operand→Value}(hρ: ∀x,VR μ (ρ x) (ρ' x))(l:List Operand):cT μ (l.map ρ) (l.map ρ'):=by
 induction l with
 |nil=>exact .nil
 |cons x l ih=>exact .cons (hρ x) ih
theorem cT.parts {ρ ρ':Operand→Value}(hρ: ∀x,VR μ (ρ x) (ρ' x))(l:List (Nat×Operand)):
  cT μ ((l.map λ(i,x)=>(i,ρ x)).map (·.2)) ((l.map λ(i,x)=>(i,ρ' x)).map (·.2)):=by
 induction l with
 |nil=>exact .nil
 |cons x l ih=>exact .cons (hρ x.2) ih
theorem sR {ρ ρ':Operand→Value}(l:List (Nat×Operand)):
  (l.map λ(i,x)=>(i,ρ x)).map (·.1)=(l.map λ(i,x)=>(i,ρ' x)).map (·.1):=by
 induction l with
 |nil=>rfl
 |cons x l ih=>simp
theorem IV {ρ ρ':Operand→Value}{o:Oper}{v:Value}(hS:cJ P μ H w B)(hρ: ∀x,VR μ (ρ x) (ρ' x))(h:gO P ρ H o.op=some (v,H')):
  fS P μ v H' w B ((execOp ρ' o).run P w):=by
 obtain⟨dst,op,type,pos,after,guard⟩:=o;simp only at h;unfold gO at h;split at h<;>(unfold execOp;try simp only)
 ·
  cases h;exact⟨_,μ,w,.inl rfl,μ.le_refl,hρ _,hS,eN.refl _ _⟩
 ·cases h;exact⟨_,μ,w,.inl rfl,μ.le_refl,hρ _,hS,eN.refl _ _⟩
 ·
  rename_i c a b;split at h
  ·rename_i t hc;cases h;have YM:=hρ c;rw[hc] at YM;have e:=YM.bool;refine⟨if t then ρ' a else ρ' b,μ,w,.inl ?_,μ.le_refl,?_,hS,eN.refl _ _⟩
   ·simp[e,asBool]
   ·cases t
    ·exact hρ b
    ·exact hρ a
  ·cases h
 ·
  rename_i t;split at h
  ·rename_i z hz;obtain⟨EF,pH,_⟩:=dN hz w;cases h;have:=q7 (P:=P) (t:=t) (t':=t) (eX:=z.cells) hS (qu pH) (jL pH)
   refine Told.next ?_;have e:(Instr.alloc t true (.tuple #[])).run P w=(do pure (.pointer (some (←newRow t z.cells))):Sem Value).run P w:=by
    simp[Instr.alloc,EF,newVar]
   rw[e];exact this
  ·cases h
 ·
  rename_i t x;split at h
  ·rename_i zj;cases h;have hk:known (ρ x)=true:=by
    revert zj
    cases ρ x<;>simp[Value.cells,aD,known]
   exact Told.next (q7 (P:=P) (t:=t) (t':=t) (eX:=(ρ' x).cells) hS zj (cT.cells (hρ x) hk))
  ·cases h
 ·
  rename_i t ps;rw[Option.map_eq_some_iff] at h;obtain⟨v2,hv,e⟩:=h;cases e;obtain⟨v',hr,E5⟩:=Bj (sR ps.toList) (cT.parts hρ ps.toList) hv w;refine fS.quiet hS ?_ E5;have e:(ps.map λ(i,x)=>(i,ρ' x))=(ps.toList.map λ(i,x)=>(i,ρ' x)).toArray:=by
   rw[←Array.toList_inj];simp
  rw[e];exact hr
 ·
  rename_i t n ps;have:=q8 (P:=P) hS (sR (ρ':=ρ') ps.toList) (cT.parts hρ ps.toList) h
  have e:(ps.map λ(i,x)=>(i,ρ' x))=(ps.toList.map λ(i,x)=>(i,ρ' x)).toArray:=by
   rw[←Array.toList_inj];simp
  simp only[e];exact this.next
 ·
  rw[Option.map_eq_some_iff] at h;obtain⟨v2,hv,e⟩:=h;cases e;obtain⟨v',hr,E5⟩:=tP hS (hρ _) hv;exact fS.quiet hS hr E5
 ·
  rw[Option.map_eq_some_iff] at h;obtain⟨H2,hv,e⟩:=h;cases e;obtain⟨w',hr,sN,hB⟩:=Dd hS (hρ _) (hρ _) hv;exact⟨undef,μ,w',.inr ⟨by simp[hr],rfl⟩,μ.le_refl,cT.tuple .nil,sN,hB⟩
 ·
  rename_i x;have hx:=hρ x;split at h
  ·rename_i a e;cases h;rw[e] at hx;obtain⟨i,off,l,rfl,hl,e2⟩:=hx.mL;rw[e2];exact⟨_,μ,w,.inl rfl,μ.le_refl,.ptr i off l hl,hS,eN.refl _ _⟩
  ·rename_i g f c e;cases h;rw[e] at hx;obtain⟨f',c',e2,h1,h2⟩:=hx.vM rfl;rw[e2] at hx ⊢;exact⟨_,μ,w,.inl rfl,μ.le_refl,hx,hS,eN.refl _ _⟩
  ·cases h
 ·
  rename_i op t x y yt;rw[Option.map_eq_some_iff] at h;obtain⟨v2,hv,e⟩:=h;cases e;obtain⟨hr,hp⟩:=EO (hρ x) (hρ y) hv x y w;exact fS.quiet hS hr (.plain _ hp)
 ·
  rw[Option.map_eq_some_iff] at h;obtain⟨v2,hv,e⟩:=h;cases e;obtain⟨hr,hp⟩:=IQ (P:=P) (hρ _) hv w;exact fS.quiet hS hr (.plain _ hp)
 ·
  rename_i src dst x;split at h
  ·rename_i d k k' n hs hu hx;cases h;have Dk:=hρ x;rw[hx] at Dk;have e:=Dk.int;refine fS.quiet (v':=.int k (k.wrap n)) hS ?_ (.plain _ rfl);rw[e];simp only[convert,Sem.run_bind,run_underlying hs,run_underlying hu,Result.andThen_ok];cases d<;>simp[Conv.intToInt]
  ·cases h
 ·
  rename_i g first captured
  cases h;refine fS.quiet (v':=.func (.func g) (first.map ρ') (captured.map ρ')) hS rfl ?_
  have h1:=cT.map hρ first.toList
  have h2:=cT.map hρ captured.toList;rw[←Array.toList_map, ←Array.toList_map] at h1 h2;exact .func _ _ _ _ _ rfl h1.arr.1 h2.arr.1 h1.arr.2 h2.arr.2
 ·
  exact(sP hS (hρ _) (hρ _) h).next
 ·
  rw[Option.map_eq_some_iff] at h;obtain⟨v2,hv,e⟩:=h;cases e;obtain⟨v',hr,E5⟩:=adV (P:=P) hS (hρ _) (LP.map hρ _) (LP.map hρ _) hv;exact fS.quiet hS hr E5
 ·
  rw[Option.map_eq_some_iff] at h;obtain⟨v2,hv,e⟩:=h;cases e;obtain⟨v',hr,E5⟩:=zo (P:=P) hS (hρ _) (LP.map hρ _) (LP.map hρ _) (hρ _) hv;exact fS.quiet hS hr E5
 ·
  exact(zt hS h).next
 ·
  rw[Option.map_eq_some_iff] at h;obtain⟨v2,hv,e⟩:=h;cases e;obtain⟨v',hr,E5⟩:=Bo (P:=P) hS (hρ _) (hρ _) hv;exact fS.quiet hS hr E5
 ·
  obtain⟨w',hr,rfl,sN,hB⟩:=uw (P:=P) hS (hρ _) (hρ _) (hρ _) h;exact⟨undef,μ,w',.inr ⟨by simp[hr],rfl⟩,μ.le_refl,cT.tuple .nil,sN,hB⟩
 ·
  rename_i t x f;have hx:=hρ x;split at h
  ·rename_i fields i off hu e;rw[e] at hx;obtain⟨i2,nN,l,e1,hl,e2⟩:=hx.mL;cases e1;split at h
   ·rename_i fd hf;split at h
    ·cases h
    ·rename_i n Gs hn;cases h;have dy:n≠0:=λe=>Gs e
     refine fS.quiet (v':=.pointer (some ⟨l.b,l.o+(off+fd.offset),none⟩)) hS ?_ (.ptr i _ l hl);rw[e2];simp[Instr.fieldAt,run_underlying hu,hf,Instr.sureAddr,fieldPlace,eh hn,dy,ja,Nat.add_assoc]
    ·cases h
   ·cases h
  ·cases h
 ·
  rename_i t x f;have hx:=hρ x;split at h
  ·rename_i fields cs hu e;rw[e] at hx;obtain⟨eX,e2,qX⟩:=hx.oZ;split at h
   ·rename_i fd hf;rw[Option.map_eq_some_iff] at h;obtain⟨v2,hv,e3⟩:=h;cases e3;obtain⟨v',hr,E5⟩:=lH qX hv w;refine fS.quiet hS ?_ E5;rw[e2];simp[Instr.field,run_underlying hu,hf,asAgg,hr]
   ·cases h
  ·cases h
 ·
  rename_i t x ix;have hx:=hρ x;have hi:=hρ ix;split at h
  ·rename_i elem i off len cap k n hu e1 e2;rw[e1] at hx;rw[e2] at hi;have e3:=hi.int;split at h
   ·rename_i size hz;split at h
    ·rename_i hb;cases h;rcases hx.eD with⟨i2,nN,Bl,l,e,hl,g1,g2,g3,e4⟩|⟨i2,nN,a2,e,rfl,rfl,e4⟩
     ·cases e;refine fS.quiet (v':=.pointer (some ⟨l.b,l.o+(off+n.toNat*size),none⟩)) hS ?_ (.ptr i _ l hl);rw[e3,e4];simp[Instr.indexAt,asIntOf,run_underlying hu,hb,eh hz,ja,Nat.add_assoc]
     ·omega
    ·cases h
   ·cases h
  ·rename_i len elem i off k n hu e1 e2;rw[e1] at hx;rw[e2] at hi;have e3:=hi.int;split at h
   ·rename_i size hz;split at h
    ·rename_i hb;cases h;obtain⟨i2,nN,l,e,hl,e4⟩:=hx.mL;cases e;refine fS.quiet (v':=.pointer (some ⟨l.b,l.o+(off+n.toNat*size),none⟩)) hS ?_ (.ptr i _ l hl);rw[e3,e4];simp[Instr.indexAt,asIntOf,run_underlying hu,hb,eh hz,ja,Nat.add_assoc,Instr.sureAddr]
    ·cases h
   ·cases h
  ·cases h
 ·
  rename_i t x ix;have hx:=hρ x;have hi:=hρ ix;split at h
  ·rename_i len elem cs k n hu e1 e2;rw[e1] at hx;rw[e2] at hi;have e3:=hi.int;obtain⟨eX,e4,qX⟩:=hx.oZ;split at h
   ·rename_i size hz;split at h
    ·rename_i hb;rw[Option.map_eq_some_iff] at h;obtain⟨v2,hv,e5⟩:=h;cases e5;obtain⟨v',hr,E5⟩:=lH qX hv w;refine fS.quiet hS ?_ E5;rw[e3,e4];simp[Instr.index,asIntOf,run_underlying hu,hb,eh hz,hr]
    ·cases h
   ·cases h
  ·rename_i s k n hu e1 e2;rw[e1] at hx;rw[e2] at hi;have e3:=hi.int;have e4:=hx.string;split at h
   ·rename_i hb;rw[Option.map_eq_some_iff] at h;obtain⟨c,hc,e5⟩:=h;cases e5;refine fS.quiet (v':=.int .u8 c.toNat) hS ?_ (.plain _ rfl);rw[e3,e4];simp[Instr.index,asIntOf,run_underlying hu,hb,hc]
   ·cases h
  ·cases h
 ·
  rename_i t ix;have hx:=hρ t;split at h
  ·rename_i vs e;rw[e] at hx;obtain⟨iU,e2,hvs⟩:=hx.z8;rw[Option.map_eq_some_iff] at h;obtain⟨v2,hv,e5⟩:=h;cases e5;obtain⟨v',Ud,CW⟩:=hvs.2 ix v (by simpa using hv)
   refine fS.quiet hS ?_ CW;rw[e2];simp[Instr.extract,show iU[ix]? =some v' by simpa using Ud]
  ·cases h
 ·
  rename_i b args argTypes;have:=wg (P:=P) (ty:=type) (consts:=(args.map λ| .const _=>true|_=>false)) hS (cT.map hρ args.toList) h
  simp only[resolve,Sem.run_bind,Sem.run_pure,Result.andThen_ok,invoke];have e:(args.toList.map ρ').toArray=args.map ρ':=by rw[←Array.toList_inj];simp
  rw[e] at this;exact this
 ·cases h
end Go.Proofs.YtgfgglponbmgmaaGreatA.Am
end
