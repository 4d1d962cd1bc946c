/- Texts of the proof of peekPlays_holds, put together by a small program of ours (names shortened, spaces taken out). No condition beyond the given statement. -/
import Derived.Test.YtgfgglponbmgmaaGreatPKP3
set_option linter.unusedVariables false
set_option linter.unusedSimpArgs false
set_option linter.unnecessarySimpa false
noncomputable section
section
namespace Go.Proofs.YtgfgglponbmgmaaGreatA.Am
open Go.RowKit (Below)
variable {P:Program} {μ:Mu} {H H':aa} {w:World} {B:Nat}
theorem zO {t:TypeId}{x x' v m m':Value}{lo hi Qq qv:Option Value}(hS:cO P μ H w B)(hx:VR μ x x')(Jp:MF μ lo Qq)(Jq:MF μ hi qv)(hm:VR μ m m')(h:pc P H t x lo hi m=some v):
  ∃v',(Instr.sliceAt t x' Qq qv (some m')).run P w= .ok v' w∧VR μ v v':=by
 unfold pc at h;split at h
 case h_2=>cases h
 rename_i a len cap hv k mx;split at h
 case isFalse=>cases h
 rename_i hb;obtain rfl:=hm.int;obtain⟨Dh,a',fi,rfl,Fl,hcc⟩:=hx.fg;have hx0:VR μ (.slice a 0 mx.toNat) (.slice a' 0 mx.toNat):=by
  cases a with
  |none=>
   obtain⟨rfl,rfl,e2⟩:=hx.ig;cases e2;have:mx.toNat=0:=by omega
   rw[this];exact .plain _ rfl
  |some ad=>
   rcases hx.eG with⟨i,off,c2,lc,rfl,Dy,g1,g2,g3,e2⟩|⟨i,off,a2,rfl,rfl,rfl,e2⟩
   ·cases e2;refine .slice i off 0 mx.toNat mx.toNat lc Dy (by omega) (by omega) ?_
    have:mx.toNat*lc.es≤fi*lc.es:=Nat.mul_le_mul_right _ (by omega)
    omega
   ·cases e2;have:mx.toNat=0:=by omega
    rw[this];exact .lZ _ _ _
 obtain⟨v',hr,Fx⟩:=rb (P:=P) (w:=w) hS hx0 Jp Jq h;refine⟨v',?_,Fx⟩;rw[←hr];unfold om at h;split at h
 case h_2=>cases h
 rename_i elem a0 aek ael hu e0;cases e0;cases hz:jG P elem with
 |none=>rw[hz] at h;cases h
 |some size=>
  rw[hz] at h;simp only at h;split at h
  case h_2=>cases h
  rename_i h' l hh hl;split at h
  case isFalse=>cases h
  rename_i hbb;have hbd:=wA (P:=P) (w:=w) Jp Jq hh hl hbb (Nat.le_refl _);have ZU:(Instr.sliceBounds true len fi Qq qv (some (.int k mx))).run P w= .ok (l.toNat,h'.toNat,mx.toNat) w:=by
   have M8:=jJ (P:=P) (k:=k) (n:=mx) (y:=fi) (c:=.slice3Acap) hb.1 (by omega) w
   rcases Jq with⟨e,_⟩|⟨c,c',e,rfl,r⟩
   ·cases e
   cases e;obtain⟨k1,rfl⟩:=jI r hh;have h1:=jJ (P:=P) (k:=k1) (y:=mx.toNat) (c:=.slice3B) hbb.1 (by omega) w
   rcases Jp with⟨rfl,rfl⟩|⟨c2,c2',rfl,rfl,r2⟩
   ·simp only[de] at hl;cases hl;simp[Instr.sliceBounds,M8,h1]
   ·obtain⟨k2,rfl⟩:=jI r2 hl;have h2:=jJ (P:=P) (k:=k2) (n:=l) (y:=h'.toNat) (c:=.slice3C) hbb.2.2.1 (by omega) w
    simp[Instr.sliceBounds,M8,h1,h2]
  simp[Instr.sliceAt,Instr.slice,run_underlying hu,hbd,ZU,eu hz]
theorem BH {argTypes:Array TypeId}{ty:TypeId}{x x' v:Value}(hS:cO P μ H w B)(hx:VR μ x x')(h:sQ P argTypes x H=some (v,H')):
  Told P μ v H' w B ((Builtin.clear_ argTypes ty #[x']).run P w):=by
 have Vo:VR μ undef (.tuple #[]):=cW.tuple (c:=#[]) (c':=#[]) .nil;unfold sQ at h;split at h
 case h_2=>cases h
 rename_i elem base n cap hu;rw[Option.bind_eq_some_iff] at hu;obtain⟨t,ht,hu⟩:=hu;cases hz:zeroOf P elem with
 |none=>rw[hz] at h;cases h
 |some z=>
  rw[hz] at h;simp only at h;obtain⟨E9,pG,_⟩:=dU hz w;obtain⟨_,a',fi,rfl,Fl,_⟩:=hx.fg;cases base with
  |none=>
   simp only at h;cases h;cases a' with
   |some _=>simp at Fl
   |none=>
    have:(Builtin.clear_ argTypes ty #[.slice none n fi]).run P w= .ok (.tuple #[]) w:=by
     cases n<;>simp[Builtin.clear_,ht,run_underlying hu]
    rw[this];exact Told.same hS Vo
  |some ad=>
   obtain⟨i,off,spot⟩:=ad;cases spot with
   |some _=>cases h
   |none=>
    simp only at h;split at h
    ·rename_i Hb;cases h;subst Hb;have:(Builtin.clear_ argTypes ty #[.slice a' 0 fi]).run P w= .ok (.tuple #[]) w:=by
      cases a'<;>simp[Builtin.clear_,ht,run_underlying hu]
     rw[this];exact Told.same hS Vo
    ·rename_i Hb;rw[Option.map_eq_some_iff] at h;obtain⟨H2,kq,e⟩:=h;cases e;rcases hx.eG with⟨i2,nR,BF,l,e,hl,g1,g2,g3,e2⟩|⟨i2,nR,a2,e,rfl,rfl,e2⟩
     ·cases e;cases e2;have mi:=kJ (μ:=μ) pG n;obtain⟨w',hr,sW,hB⟩:=hS.st hl kq mi;have dz: ∃n',n=n'+1:=⟨n-1,by omega⟩
      obtain⟨n',rfl⟩:=dz;have hzz:(Builtin.zeroCells z.cells (n'+1)).toList=bL z.cells.toList (n'+1):=by
       by_cases h0:z.cells.size=0
       ·have e1:z.cells= #[]:=Array.eq_empty_of_size_eq_zero h0;rw[e1];simp[Builtin.zeroCells,bL]
       ·rw[←mh _ _ h0]
      have:(Builtin.clear_ argTypes ty #[.slice (some ⟨l.b,l.o+off,none⟩) (n'+1) fi]).run P w= .ok (.tuple #[]) w':=by
       simp[Builtin.clear_,ht,run_underlying hu,E9,hzz,hr]
      rw[this];exact⟨_,μ,w',rfl,μ.le_refl,Vo,sW,hB⟩
     ·exact absurd rfl Hb
theorem sY {t:TypeId}{q:IntKind}{z:Value}(h:mapOf P t=some (q,z)): ∃k e,P.underlying t=some (.map k e)∧P.underlying k=some (.int q)∧zeroOf P e=some z:=by
 unfold mapOf at h;split at h
 case h_2=>cases h
 rename_i k e ht;split at h
 case h_2=>cases h
 rename_i q' z' hk hz;cases h;exact⟨k,e,ht,hk,hz⟩
theorem jh {k:TypeId}{q:IntKind}(hk:P.underlying k=some (.int q))(b:Bool)(q':IntKind)(n:Int)(w:World):(Instr.checkKey b 10000 k (.int q' n)).run P w= .ok () w:=by
 unfold Instr.checkKey;simp[run_underlying hk]
theorem uh (q:IntKind)(n:Int): ∀(ms:List MapEntry) (es:List (Int×Value)) (i:Nat),ms.map (·.key)=es.map (λe=>Value.int q e.1)→
  Instr.findNow (.int q) (.int q n) ms i=some ((es.findIdx? (λe=>e.1==n)).bind λj=>(ms[j]?).map λm=>(i+j,m.val))
 | [],es,i,h=>by
  have:es=[]:=by cases es with|nil=>rfl|cons _ _=>simp at h
  subst this;simp[Instr.findNow]
 |m::ms,es,i,h=>by
  cases es with
  |nil=>simp at h
  |cons e es=>
   simp only[List.map_cons,List.cons.injEq] at h;obtain⟨h1,h2⟩:=h;rw[Instr.findNow,h1];simp only[Instr.sameNow,if_true];by_cases he:n=e.1
   ·subst he;simp[List.findIdx?_cons]
   ·have hb:(n==e.1)=false:=by simpa using he
    have M7:(e.1==n)=false:=by simpa using λx=>he x.symm
    rw[hb];simp only;rw[uh q n ms es (i+1) h2,List.findIdx?_cons,M7];simp only[Bool.false_eq_true,if_false];cases es.findIdx? (λe=>e.1==n) with
    |none=>rfl
    |some j=>simp[Nat.add_assoc,Nat.add_comm 1 j]
theorem M9 (es:List (Int×Value))(n:Int):es.find? (λe=>e.1==n)=(es.findIdx? (λe=>e.1==n)).bind (es[·]?):=by
 induction es with
 |nil=>rfl
 |cons e es ih=>
  rw[List.find?_cons,List.findIdx?_cons];by_cases h:(e.1==n)=true
  ·rw[h];rfl
  ·have:(e.1==n)=false:=by simpa using h
   rw[this];simp only[Bool.false_eq_true,if_false,ih];cases es.findIdx? (λe=>e.1==n)<;>rfl
theorem oE {k:TypeId}{q:IntKind}(hk:P.underlying k=some (.int q))(n:Int){ms:Array MapEntry}{es:List (Int×Value)}(h:ms.toList.map (·.key)=es.map (λe=>Value.int q e.1))(w:World):
  (Instr.findKey k (.int q n) ms.toList).run P w= .ok ((es.findIdx? (λe=>e.1==n)).bind λj=>(ms[j]?).map λm=>(j,m.val)) w:=by
 unfold Instr.findKey;simp only[Sem.run_bind,run_underlying hk,Result.andThen_ok,uh q n ms.toList es 0 h,Sem.run_pure]
 congr 2
 funext j
 simp
theorem BI {t:TypeId}{m m' x x' v:Value}{ok:Bool}(hS:cO P μ H w B)(hm:VR μ m m')(hx:VR μ x x')(h:pb P t m x ok H=some v):
  ∃v',(Instr.lookup t m' x' ok).run P w= .ok v' w∧VR μ v v':=by
 unfold pb at h;split at h
 case h_2=>cases h
 rename_i q z QJ;obtain⟨k,e,ht,hk,hz⟩:=sY QJ;unfold Dn at h;split at h
 case h_2=>cases h
 rename_i i q1 n;obtain rfl:=hx.int;split at h
 case h_2=>cases h
 rename_i q2 es ho;split at h
 case isFalse=>cases h
 rename_i hq;obtain⟨rfl,rfl⟩:=hq;obtain⟨l,hl,hB,ms,clock,hh,lM,pX⟩:=hS.dW.ok _ _ ho;have MD:m'= .map (some l.b):=by
  cases hm with
  |plain _ h=>simp[cu] at h
  |Bz _ l2 h2=>rw[hl] at h2;cases h2;rfl
 subst MD;have BJ:(getObj l.b).run P w= .ok (.map ms clock) w:=by simp[getObj,Sem.run,hh]
 have kS:=oE hk n lM w;rw[M9] at h;have key: ∀r,(Instr.findKey k (.int q n) ms.toList).run P w= .ok r w→(Instr.lookup t (.map (some l.b)) (.int q n) ok).run P w=
   ((match r with|some (_,v)=>pure (v,true)|none=>do pure ((←zeroValue e),false):Sem (Value×Bool)).run P w).andThen λp w=>.ok (if ok then .tuple #[p.1,.bool p.2] else p.1) w:=by
  intro r hr;unfold Instr.lookup;simp only[Sem.run_bind,run_underlying ht,Result.andThen_ok,BJ,Sem.run_pure,jh hk,hr];cases r with
  |none=>cases hzz:(zeroValue e).run P w<;>simp[hzz,Result.andThen]
  |some p=>simp
 rw[key _ kS];cases hi:es.findIdx? (λe=>e.1==n) with
 |none=>
  rw[hi] at h;simp only[Option.bind_none] at h ⊢;obtain⟨E9,pG,_⟩:=dU hz w;simp only[Sem.run_bind,E9,Result.andThen_ok,Sem.run_pure];refine⟨_,rfl,?_⟩;cases h;cases ok with
  |true=>exact cW.tuple (.cons (.closed pG) (.cons (.plain _ rfl) .nil))
  |false=>exact .closed pG
 |some j=>
  rw[hi] at h;simp only[Option.bind_some] at h ⊢;cases hj:es[j]? with
  |none=>exact absurd hj (by
    have:=List.findIdx?_eq_some_iff_getElem.1 hi
    obtain⟨gG,_⟩:=this;rw[List.getElem?_eq_getElem gG];simp)
  |some ev=>
   rw[hj] at h;simp only at h;obtain⟨u',MZ,hu2⟩:=pX.2 j ev.2 (by rw[List.getElem?_map,hj];rfl)
   rw[List.getElem?_map] at MZ;cases hmj:ms.toList[j]? with
   |none=>rw[hmj] at MZ;cases MZ
   |some mv=>
    rw[hmj] at MZ;cases MZ;have ab5:ms[j]? =some mv:=by simpa using hmj
    simp only[ab5,Option.map_some,Sem.run_pure,Result.andThen_ok];refine⟨_,rfl,?_⟩;cases h;cases ok with
    |true=>exact cW.tuple (.cons hu2 (.cons (.plain _ rfl) .nil))
    |false=>exact hu2
theorem mX {b:Nat}{x:Obj}{ms:Array MapEntry}{c:Nat}(h:w.heap[b]? =some (.map ms c)):(setObj b x).run P w= .ok () (w.putObj b x):=by
 simp[setObj,Sem.run,h,World.putObj]
theorem uM {t:TypeId}{m m' x x' u u' v:Value}(hS:cO P μ H w B)(hm:VR μ m m')(hx:VR μ x x')(hu:VR μ u u')(h:mR P t m x u H=some (v,H')):
  ∃w',(Instr.mapUpdate t m' x' u').run P w= .ok () w'∧v=undef∧cO P μ H' w' B∧eV B w w':=by
 unfold mR at h;split at h
 case h_2=>cases h
 rename_i q z QJ;obtain⟨k,e,ht,hk,hz⟩:=sY QJ;unfold MT at h;split at h
 case h_2=>cases h
 rename_i i q1 n;obtain rfl:=hx.int;split at h
 case h_2=>cases h
 rename_i q2 es ho;split at h
 case isFalse=>cases h
 rename_i hq;obtain⟨rfl,rfl⟩:=hq;cases h;obtain⟨l,hl,hB,ms,clock,hh,lM,pX⟩:=hS.dW.ok _ _ ho;have MD:m'= .map (some l.b):=by
  cases hm with
  |plain _ h=>simp[cu] at h
  |Bz _ l2 h2=>rw[hl] at h2;cases h2;rfl
 subst MD;have gG:=(Array.getElem?_eq_some_iff.1 hh).1;have BJ:(getObj l.b).run P w= .ok (.map ms clock) w:=by simp[getObj,Sem.run,hh]
 have kS:=oE hk n lM w;have hlen:ms.toList.length=es.length:=by have:=congrArg List.length lM;simpa using this
 cases hi:es.findIdx? (λe=>e.1==n) with
 |none=>
  rw[hi] at kS;simp only[Option.bind_none] at kS;refine⟨_,?_,rfl,hS.jF (x:=.map (ms.push {key:=.int q n,val:=u',born:=clock}) (clock+1)) ho hl ?_,eV.BG hh hB⟩
  ·unfold Instr.mapUpdate;simp only[Sem.run_bind,run_underlying ht,Result.andThen_ok,BJ,jh hk,kS,mX hh]
  ·refine⟨_,_,World.putObj_heap_same gG,?_,?_⟩
   ·simp only[MR,hi,Array.toList_push,List.map_append,lM,List.map_cons,List.map_nil]
   ·simp only[MR,hi,Array.toList_push,List.map_append,List.map_cons,List.map_nil];exact pX.append (.cons hu .nil)
 |some j=>
  obtain⟨AB,hje,_⟩:=List.findIdx?_eq_some_iff_getElem.1 hi;have zP:j<ms.size:=by simpa using(by omega:j<ms.toList.length)
  have hkj:ms[j].key= .int q n:=by
   have:=congrArg (λl=>l[j]?) lM
   simp only[List.getElem?_map,List.getElem?_eq_getElem AB,Array.getElem?_toList,Array.getElem?_eq_getElem zP,Option.map_some,Option.some.injEq] at this;rw[this];have:es[j].1=n:=by simpa using hje
   rw[this]
  rw[hi] at kS;simp only[Option.bind_some,Array.getElem?_eq_getElem zP,Option.map_some] at kS;refine⟨_,?_,rfl,hS.jF (x:=.map (ms.modify j λe=>{e with key:=.int q n,val:=u'}) clock) ho hl ?_,eV.BG hh hB⟩
  ·unfold Instr.mapUpdate;simp only[Sem.run_bind,run_underlying ht,Result.andThen_ok,BJ,jh hk,kS,Array.getElem?_eq_getElem zP,Option.map_some,Option.getD_some,hkj];have kq:(Instr.keyThatStays (.int q n) (.int q n)).run P w= .ok (.int q n) w:=by
    unfold Instr.keyThatStays;simp[Instr.sameBits]
   simp only[kq,Result.andThen_ok,mX hh]
  ·have QK:(ms.modify j λe=>{e with key:=.int q n,val:=u'}).toList=ms.toList.set j {ms[j] with key:=.int q n,val:=u'}:=by
    apply List.ext_getElem?;intro r;rw[Array.getElem?_toList,Array.getElem?_modify,List.getElem?_set];by_cases e:j=r
    ·subst e;rw[if_pos rfl,if_pos rfl,if_pos (by simpa using zP),Array.getElem?_eq_getElem zP];rfl
    ·rw[if_neg e,if_neg e,Array.getElem?_toList]
   refine⟨_,_,World.putObj_heap_same gG,?_,?_⟩
   ·rw[QK,List.map_set,lM];simp only[MR,hi,List.map_set]
   ·rw[QK,List.map_set];simp only[MR,hi,List.map_set];exact pX.set hu j
theorem map_eraseIdx {α β:Type}(f:α→β)(l:List α)(j:Nat):(l.eraseIdx j).map f=(l.map f).eraseIdx j:=by
 apply List.ext_getElem?;intro r;simp only[List.getElem?_map,List.getElem?_eraseIdx];split<;>rfl
theorem BK {argTypes:Array TypeId}{ty:TypeId}{m m' x x' v:Value}(hS:cO P μ H w B)(hm:VR μ m m')(hx:VR μ x x')(h:ve P argTypes m x H=some (v,H')):
  Told P μ v H' w B ((Builtin.delete_ argTypes ty #[m',x']).run P w):=by
 have Vo:VR μ undef (.tuple #[]):=cW.tuple (c:=#[]) (c':=#[]) .nil;unfold ve at h;split at h
 case h_2=>cases h
 rename_i q z QJ;rw[Option.bind_eq_some_iff] at QJ;obtain⟨t,Vp,QJ⟩:=QJ;obtain⟨k,e,ht,hk,hz⟩:=sY QJ;unfold MU at h;split at h
 case h_2=>cases h
 rename_i i q1 n;obtain rfl:=hx.int;split at h
 case h_2=>cases h
 rename_i q2 es ho;split at h
 case isFalse=>cases h
 rename_i hq;obtain⟨rfl,rfl⟩:=hq;cases h;obtain⟨l,hl,hB,ms,clock,hh,lM,pX⟩:=hS.dW.ok _ _ ho;have MD:m'= .map (some l.b):=by
  cases hm with
  |plain _ h=>simp[cu] at h
  |Bz _ l2 h2=>rw[hl] at h2;cases h2;rfl
 subst MD;have gG:=(Array.getElem?_eq_some_iff.1 hh).1;have BJ:(getObj l.b).run P w= .ok (.map ms clock) w:=by simp[getObj,Sem.run,hh]
 have kS:=oE hk n lM w;have hlen:ms.toList.length=es.length:=by have:=congrArg List.length lM;simpa using this
 cases hi:es.findIdx? (λe=>e.1==n) with
 |none=>
  rw[hi] at kS;simp only[Option.bind_none] at kS;have dH:(Builtin.delete_ argTypes ty #[.map (some l.b),.int q n]).run P w= .ok (.tuple #[]) (w.putObj l.b (.map ms clock)):=by
   unfold Builtin.delete_;simp[Vp,run_underlying ht,BJ,jh hk,kS,mX hh]
  rw[dH];refine⟨_,μ,_,rfl,μ.le_refl,Vo,hS.jF ho hl ⟨ms,clock,World.putObj_heap_same gG,?_,?_⟩,eV.BG hh hB⟩
  ·simpa[MS,hi] using lM
  ·simpa[MS,hi] using pX
 |some j=>
  obtain⟨AB,hje,_⟩:=List.findIdx?_eq_some_iff_getElem.1 hi;have zP:j<ms.size:=by simpa using(by omega:j<ms.toList.length)
  rw[hi] at kS;simp only[Option.bind_some,Array.getElem?_eq_getElem zP,Option.map_some] at kS;have dH:(Builtin.delete_ argTypes ty #[.map (some l.b),.int q n]).run P w= .ok (.tuple #[]) (w.putObj l.b (.map (ms.eraseIdxIfInBounds j) clock)):=by
   unfold Builtin.delete_;simp[Vp,run_underlying ht,BJ,jh hk,kS,mX hh]
  rw[dH];have QK:(ms.eraseIdxIfInBounds j).toList=ms.toList.eraseIdx j:=by
   unfold Array.eraseIdxIfInBounds;rw[dif_pos zP];simp
  refine⟨_,μ,_,rfl,μ.le_refl,Vo,hS.jF ho hl ⟨_,clock,World.putObj_heap_same gG,?_,?_⟩,eV.BG hh hB⟩
  ·rw[QK,map_eraseIdx,lM];simp only[MS,hi,map_eraseIdx]
  ·rw[QK];simp only[MS,hi,map_eraseIdx];refine⟨?_,λr y hr=>?_⟩
   ·have:=pX.1;simp[List.length_eraseIdx] at this ⊢;simp[this]
   ·rw[List.getElem?_eraseIdx] at hr ⊢;split
    ·rename_i h1;rw[if_pos h1] at hr;exact pX.2 _ _ hr
    ·rename_i h1;rw[if_neg h1] at hr;exact pX.2 _ _ hr
theorem zQ {t:TypeId}{v:Value}(hS:cO P μ H w B)(h:qS P t H=some (v,H')):Told P μ v H' w B ((Instr.makeMap t none).run P w):=by
 unfold qS at h;split at h
 case h_2=>cases h
 rename_i q z QJ;cases h;have dH:(Instr.makeMap t none).run P w= .ok (.map (some w.heap.size)) (w.alloc (.map #[] 0)):=by
  unfold Instr.makeMap;simp
 rw[dH];have BL: ∀k,k<w.heap.size→(w.alloc (.map #[] 0)).heap[k]? =w.heap[k]? :=λk hk=>Below.heap_alloc _ _ _ hk
 obtain⟨h1,h2⟩:=hS.kg (w1:=w.alloc (.map #[] 0)) (l:=w.heap.size) (o:=.E8 q []) BL (by simp) (Nat.le_refl _) ⟨#[],0,World.alloc_heap_new w _,rfl,.nil⟩
 exact⟨_,_,_,rfl,h1,.Bz _ ⟨w.heap.size,0,0,0⟩ Mu.aP,h2,(eV.refl B w).alloc hS.base _⟩
theorem Fy {t k e:TypeId}{argTypes:Array TypeId}{ty:TypeId}{m m' v:Value}(hS:cO P μ H w B)(hm:VR μ m m')(Vp:argTypes[0]? =some t)(ht:P.underlying t=some (.map k e))(h:Jk m H=some v):
  (Builtin.len_ argTypes ty #[m']).run P w= .ok v w∧cu v=true:=by
 unfold Jk at h;split at h
 case h_2=>cases h
 rename_i i;split at h
 case h_2=>cases h
 rename_i q es ho;cases h;obtain⟨l,hl,hB,ms,clock,hh,lM,pX⟩:=hS.dW.ok _ _ ho;have MD:m'= .map (some l.b):=by
  cases hm with
  |plain _ h=>simp[cu] at h
  |Bz _ l2 h2=>rw[hl] at h2;cases h2;rfl
 subst MD;have BJ:(getObj l.b).run P w= .ok (.map ms clock) w:=by simp[getObj,Sem.run,hh]
 have hlen:ms.size=es.length:=by have:=congrArg List.length lM;simpa using this
 refine⟨?_,rfl⟩;unfold Builtin.len_;simp[Vp,run_underlying ht,BJ,goInt,hlen]
variable {P:Program} {μ:Mu} {H H':aa} {w:World} {B:Nat}
theorem DD {argTypes:Array TypeId}{ty:TypeId}{d d' s s' v:Value}(hS:cO P μ H w B)(hd:VR μ d d')(hs:VR μ s s')(h:As P argTypes d s H=some (v,H')):
  Told P μ v H' w B ((Builtin.copy_ argTypes ty #[d',s']).run P w):=by
 unfold As at h;split at h
 ·rename_i TT hd0;split at h
  ·rename_i elem base Dm aem sa sLen sCap hu;cases hz:jG P elem with
   |none=>rw[hz] at h;cases h
   |some size=>
    rw[hz] at h;simp only at h;obtain⟨_,sa',wH,rfl,_,_⟩:=hs.fg;obtain⟨_,wG,ZV,rfl,Fl,_⟩:=hd.fg;cases hc:cI H size (min sLen Dm) (.slice sa sLen sCap) with
    |none=>rw[hc] at h;cases h
    |some cs=>
     rw[hc] at h;simp only at h;obtain⟨hlen,zK,fh,hv,dH⟩:=oC (P:=P) hS hs (Nat.min_le_left _ _) hc;have Dw:fh.length=min sLen Dm*size:=by rw[←hv.1];exact hlen
     have hr:(Builtin.copy_ argTypes ty #[.slice wG Dm ZV,.slice sa' sLen wH]).run P w=
       ((match wG with|some a=>storeCells a fh|none=>pure ():Sem Unit).run P w).andThen λ_ w=>.ok (.int .i64 (min sLen Dm:Nat)) w:=by
      have e:Nat.min sLen Dm=min sLen Dm:=rfl;simp[Builtin.copy_,hd0,run_underlying hu,Builtin.lenOf,eu hz,e,dH w rfl,goInt];cases wG<;>simp
     rw[hr];cases base with
     |none=>
      simp only at h;cases h;cases wG with
      |some _=>simp at Fl
      |none=>exact Told.same hS (.plain _ rfl)
     |some ad=>
      obtain⟨i,off,spot⟩:=ad;cases spot with
      |some _=>cases h
      |none=>
       simp only at h;split at h
       ·rename_i Hb;cases h;have:fh=[]:=List.eq_nil_of_length_eq_zero (by rw[Dw,Hb];simp)
        subst this;cases wG with
        |none=>simp at Fl
        |some a=>simp only[storeCells,Sem.run_pure,Result.andThen_ok];exact Told.same hS (.plain _ rfl)
       ·rename_i Hb;rw[Option.map_eq_some_iff] at h;obtain⟨H2,kq,e⟩:=h;cases e;rcases hd.eG with⟨i2,nR,BF,l,e,hl,g1,g2,g3,e2⟩|⟨i2,nR,a2,e,rfl,rfl,e2⟩
        ·cases e;cases e2;obtain⟨w',hr,sW,hB⟩:=hS.st hl kq hv;simp only[hr,Result.andThen_ok];exact⟨_,μ,w',rfl,μ.le_refl,.plain _ rfl,sW,hB⟩
        ·simp at Hb
  ·cases h
 ·cases h
theorem Fz {argTypes:Array TypeId}{ty:TypeId}{x x' v:Value}(hS:cO P μ H w B)(hx:VR μ x x')(h:Bw P H argTypes x=some v):
  (Builtin.len_ argTypes ty #[x']).run P w= .ok v w∧cu v=true:=by
 unfold Bw at h;split at h
 ·rename_i t ht;split at h
  ·rename_i k e hu;exact Fy hS hx ht hu h
  ·rename_i s hu;obtain rfl:=hx.string;cases h;exact⟨by simp[Builtin.len_,ht,run_underlying hu,goInt],rfl⟩
  ·rename_i n e hu;cases h;exact⟨by simp[Builtin.len_,ht,run_underlying hu,goInt],rfl⟩
  ·rename_i a n c e hu;obtain⟨_,a',c',rfl,_⟩:=hx.fg;cases h;exact⟨by simp[Builtin.len_,ht,run_underlying hu,goInt],rfl⟩
  ·cases h
 ·cases h
def fW (P:Program)(μ:Mu)(v:Value)(H':aa)(w:World)(B:Nat)(r:Result Next):Prop:=
 ∃v' μ' w',(r= .ok (.value v') w'∨(r= .ok .skip w'∧v'=undef))∧μ.le μ'∧VR μ' v v'∧cO P μ' H' w' B∧eV B w w'
theorem Told.next {v:Value}{s:Sem Value}(h:Told P μ v H' w B (s.run P w)):fW P μ v H' w B ((do pure (Next.value (←s)):Sem Next).run P w):=by
 obtain⟨v',μ',w',hr,rest⟩:=h;exact⟨v',μ',w',.inl (by simp[hr]),rest⟩
theorem fW.quiet {v v':Value}{s:Sem Value}(hS:cO P μ H w B)(hr:s.run P w= .ok v' w)(hv:VR μ v v'):fW P μ v H w B ((do pure (Next.value (←s)):Sem Next).run P w):=
 Told.next (by rw[hr];exact Told.same hS hv)
theorem wI {b:Builtin}{argTypes:Array TypeId}{ty:TypeId}{consts:Array Bool}{args fm:List Value}{v:Value}(hS:cO P μ H w B)(ha:cW μ args fm)(h:jQ P b argTypes args H=some (v,H')):
  fW P μ v H' w B ((builtin b argTypes ty consts fm.toArray).run P w):=by
 unfold jQ at h;split at h
 ·obtain⟨s',_,rfl,r1,h2⟩:=ha.fF;obtain⟨x',_,rfl,r2,h3⟩:=h2.fF;obtain rfl:=h3.ic;exact(zN (ty:=ty) hS r1 r2 h).next
 ·obtain⟨s',_,rfl,r1,h2⟩:=ha.fF;obtain⟨x',_,rfl,r2,h3⟩:=h2.fF;obtain rfl:=h3.ic;exact(DD (ty:=ty) hS r1 r2 h).next
 ·obtain⟨x',_,rfl,r1,h3⟩:=ha.fF;obtain rfl:=h3.ic;rw[Option.map_eq_some_iff] at h;obtain⟨v2,hv,e⟩:=h;cases e;obtain⟨hr,hp⟩:=Fz (ty:=ty) hS r1 hv;exact fW.quiet hS hr (.plain _ hp)
 ·obtain⟨x',_,rfl,r1,h3⟩:=ha.fF;obtain rfl:=h3.ic;exact(BH (ty:=ty) hS r1 h).next
 ·obtain⟨s',_,rfl,r1,h2⟩:=ha.fF;obtain⟨x',_,rfl,r2,h3⟩:=h2.fF;obtain rfl:=h3.ic;exact(BK (ty:=ty) hS r1 r2 h).next
 ·rename_i len n;obtain⟨x',_,rfl,r1,h3⟩:=ha.fF;obtain rfl:=h3.ic;obtain⟨rfl,rfl,rfl⟩:=r1.ig;split at h
  ·rename_i e hu;cases h;rw[Option.bind_eq_some_iff] at hu;obtain⟨t,ht,hu⟩:=hu;exact fW.quiet (v':=.int .i64 0) hS (by simp[Builtin.cap_,ht,run_underlying hu,goInt]) (.plain _ rfl)
  ·cases h
 ·rename_i k a k' c;obtain⟨s',_,rfl,r1,h2⟩:=ha.fF;obtain⟨x',_,rfl,r2,h3⟩:=h2.fF;obtain rfl:=h3.ic;obtain rfl:=r1.int;obtain rfl:=r2.int;split at h
  ·rename_i e;subst e;cases h;exact fW.quiet hS (by simp[Builtin.min_,Builtin.min2]) (.plain _ rfl)
  ·cases h
 ·rename_i k a k' c;obtain⟨s',_,rfl,r1,h2⟩:=ha.fF;obtain⟨x',_,rfl,r2,h3⟩:=h2.fF;obtain rfl:=h3.ic;obtain rfl:=r1.int;obtain rfl:=r2.int;split at h
  ·rename_i e;subst e;cases h;exact fW.quiet hS (by simp[Builtin.max_,Builtin.max2]) (.plain _ rfl)
  ·cases h
 ·cases h
theorem MF.map {ρ ρ':Operand→Value}(hρ: ∀x,VR μ (ρ x) (ρ' x))(o:Option Operand):MF μ (o.map ρ) (o.map ρ'):=by
 cases o with
 |none=>exact .inl ⟨rfl,rfl⟩
 |some x=>exact .inr ⟨_,_,rfl,rfl,hρ x⟩
theorem cW.map {ρ ρ':Operand→Value}(hρ: ∀x,VR μ (ρ x) (ρ' x))(l:List Operand):cW μ (l.map ρ) (l.map ρ'):=by
 induction l with
 |nil=>exact .nil
 |cons x l ih=>exact .cons (hρ x) ih
theorem cW.parts {ρ ρ':Operand→Value}(hρ: ∀x,VR μ (ρ x) (ρ' x))(l:List (Nat×Operand)):
  cW μ ((l.map λ(i,x)=>(i,ρ x)).map (·.2)) ((l.map λ(i,x)=>(i,ρ' x)).map (·.2)):=by
 induction l with
 |nil=>exact .nil
 |cons x l ih=>exact .cons (hρ x.2) ih
theorem sZ {ρ ρ':Operand→Value}(l:List (Nat×Operand)):
  (l.map λ(i,x)=>(i,ρ x)).map (·.1)=(l.map λ(i,x)=>(i,ρ' x)).map (·.1):=by
 induction l with
 |nil=>rfl
 |cons x l ih=>simp
theorem Js {ρ ρ':Operand→Value}{o:Oper}{v:Value}(hS:cO P μ H w B)(hρ: ∀x,VR μ (ρ x) (ρ' x))(h:gU P ρ H o.op=some (v,H')):
  fW P μ v H' w B ((execOp ρ' o).run P w):=by
 obtain⟨dst,op,type,pos,after,guard⟩:=o;simp only at h;unfold gU at h;split at h<;>(unfold execOp;try simp only)
 ·
  cases h;exact⟨_,μ,w,.inl rfl,μ.le_refl,hρ _,hS,eV.refl _ _⟩
 ·cases h;exact⟨_,μ,w,.inl rfl,μ.le_refl,hρ _,hS,eV.refl _ _⟩
 ·
  rename_i c a b;split at h
  ·rename_i t hc;cases h;have ZJ:=hρ c;rw[hc] at ZJ;have e:=ZJ.bool;refine⟨if t then ρ' a else ρ' b,μ,w,.inl ?_,μ.le_refl,?_,hS,eV.refl _ _⟩
   ·simp[e,asBool]
   ·cases t
    ·exact hρ b
    ·exact hρ a
  ·cases h
 ·
  rename_i t;split at h
  ·rename_i z hz;obtain⟨E9,pG,_⟩:=dU hz w;cases h;have:=rh (P:=P) (t:=t) (t':=t) (fh:=z.cells) hS (qw pG) (jR pG)
   refine Told.next ?_;have e:(Instr.alloc t true (.tuple #[])).run P w=(do pure (.pointer (some (←newRow t z.cells))):Sem Value).run P w:=by
    simp[Instr.alloc,E9,newVar]
   rw[e];exact this
  ·cases h
 ·
  rename_i t x;split at h
  ·rename_i zK;cases h;have hk:known (ρ x)=true:=by
    revert zK
    cases ρ x<;>simp[Value.cells,aD,known]
   exact Told.next (rh (P:=P) (t:=t) (t':=t) (fh:=(ρ' x).cells) hS zK (cW.cells (hρ x) hk))
  ·cases h
 ·
  rename_i t ps;rw[Option.map_eq_some_iff] at h;obtain⟨v2,hv,e⟩:=h;cases e;obtain⟨v',hr,Fx⟩:=BE (sZ ps.toList) (cW.parts hρ ps.toList) hv w;refine fW.quiet hS ?_ Fx;have e:(ps.map λ(i,x)=>(i,ρ' x))=(ps.toList.map λ(i,x)=>(i,ρ' x)).toArray:=by
   rw[←Array.toList_inj];simp
  rw[e];exact hr
 ·
  rename_i t n ps;have:=ri (P:=P) hS (sZ (ρ':=ρ') ps.toList) (cW.parts hρ ps.toList) h
  have e:(ps.map λ(i,x)=>(i,ρ' x))=(ps.toList.map λ(i,x)=>(i,ρ' x)).toArray:=by
   rw[←Array.toList_inj];simp
  simp only[e];exact this.next
 ·
  rw[Option.map_eq_some_iff] at h;obtain⟨v2,hv,e⟩:=h;cases e;obtain⟨v',hr,Fx⟩:=ug hS (hρ _) hv;exact fW.quiet hS hr Fx
 ·
  rw[Option.map_eq_some_iff] at h;obtain⟨H2,hv,e⟩:=h;cases e;obtain⟨w',hr,sW,hB⟩:=Dx hS (hρ _) (hρ _) hv;exact⟨undef,μ,w',.inr ⟨by simp[hr],rfl⟩,μ.le_refl,cW.tuple .nil,sW,hB⟩
 ·
  rename_i x;have hx:=hρ x;split at h
  ·rename_i a e;cases h;rw[e] at hx;obtain⟨i,off,l,rfl,hl,e2⟩:=hx.mU;rw[e2];exact⟨_,μ,w,.inl rfl,μ.le_refl,.ptr i off l hl,hS,eV.refl _ _⟩
  ·rename_i g f c e;cases h;rw[e] at hx;obtain⟨f',c',e2,h1,h2⟩:=hx.we rfl;rw[e2] at hx ⊢;exact⟨_,μ,w,.inl rfl,μ.le_refl,hx,hS,eV.refl _ _⟩
  ·cases h
 ·
  rename_i op t x y yt;rw[Option.map_eq_some_iff] at h;obtain⟨v2,hv,e⟩:=h;cases e;obtain⟨hr,hp⟩:=Fk (hρ x) (hρ y) hv x y w;exact fW.quiet hS hr (.plain _ hp)
 ·
  rw[Option.map_eq_some_iff] at h;obtain⟨v2,hv,e⟩:=h;cases e;obtain⟨hr,hp⟩:=Jo (P:=P) (hρ _) hv w;exact fW.quiet hS hr (.plain _ hp)
 ·
  rename_i src dst x;split at h
  ·rename_i d k k' n hs hu hx;cases h;have DE:=hρ x;rw[hx] at DE;have e:=DE.int;refine fW.quiet (v':=.int k (k.wrap n)) hS ?_ (.plain _ rfl);rw[e];simp only[convert,Sem.run_bind,run_underlying hs,run_underlying hu,Result.andThen_ok];cases d<;>simp[Conv.intToInt]
  ·cases h
 ·
  rename_i g first captured
  cases h;refine fW.quiet (v':=.func (.func g) (first.map ρ') (captured.map ρ')) hS rfl ?_
  have h1:=cW.map hρ first.toList
  have h2:=cW.map hρ captured.toList;rw[←Array.toList_map, ←Array.toList_map] at h1 h2;exact .func _ _ _ _ _ rfl h1.arr.1 h2.arr.1 h1.arr.2 h2.arr.2
 ·
  exact(sX hS (hρ _) (hρ _) h).next
 ·
  rw[Option.map_eq_some_iff] at h;obtain⟨v2,hv,e⟩:=h;cases e;obtain⟨v',hr,Fx⟩:=rb (P:=P) hS (hρ _) (MF.map hρ _) (MF.map hρ _) hv;exact fW.quiet hS hr Fx
 ·
  rw[Option.map_eq_some_iff] at h;obtain⟨v2,hv,e⟩:=h;cases e;obtain⟨v',hr,Fx⟩:=zO (P:=P) hS (hρ _) (MF.map hρ _) (MF.map hρ _) (hρ _) hv;exact fW.quiet hS hr Fx
 ·
  exact(zQ hS h).next
 ·
  rw[Option.map_eq_some_iff] at h;obtain⟨v2,hv,e⟩:=h;cases e;obtain⟨v',hr,Fx⟩:=BI (P:=P) hS (hρ _) (hρ _) hv;exact fW.quiet hS hr Fx
 ·
  obtain⟨w',hr,rfl,sW,hB⟩:=uM (P:=P) hS (hρ _) (hρ _) (hρ _) h;exact⟨undef,μ,w',.inr ⟨by simp[hr],rfl⟩,μ.le_refl,cW.tuple .nil,sW,hB⟩
 ·
  rename_i t x f;have hx:=hρ x;split at h
  ·rename_i fields i off hu e;rw[e] at hx;obtain⟨i2,nR,l,e1,hl,e2⟩:=hx.mU;cases e1;split at h
   ·rename_i fd hf;split at h
    ·cases h
    ·rename_i n Hb hn;cases h;have dz:n≠0:=λe=>Hb e
     refine fW.quiet (v':=.pointer (some ⟨l.b,l.o+(off+fd.offset),none⟩)) hS ?_ (.ptr i _ l hl);rw[e2];simp[Instr.fieldAt,run_underlying hu,hf,Instr.sureAddr,fieldPlace,eu hn,dz,jf,Nat.add_assoc]
    ·cases h
   ·cases h
  ·cases h
 ·
  rename_i t x f;have hx:=hρ x;split at h
  ·rename_i fields cs hu e;rw[e] at hx;obtain⟨fh,e2,q8⟩:=hx.pd;split at h
   ·rename_i fd hf;rw[Option.map_eq_some_iff] at h;obtain⟨v2,hv,e3⟩:=h;cases e3;obtain⟨v',hr,Fx⟩:=lL q8 hv w;refine fW.quiet hS ?_ Fx;rw[e2];simp[Instr.field,run_underlying hu,hf,asAgg,hr]
   ·cases h
  ·cases h
 ·
  rename_i t x ix;have hx:=hρ x;have hi:=hρ ix;split at h
  ·rename_i elem i off len cap k n hu e1 e2;rw[e1] at hx;rw[e2] at hi;have e3:=hi.int;split at h
   ·rename_i size hz;split at h
    ·rename_i hb;cases h;rcases hx.eG with⟨i2,nR,BF,l,e,hl,g1,g2,g3,e4⟩|⟨i2,nR,a2,e,rfl,rfl,e4⟩
     ·cases e;refine fW.quiet (v':=.pointer (some ⟨l.b,l.o+(off+n.toNat*size),none⟩)) hS ?_ (.ptr i _ l hl);rw[e3,e4];simp[Instr.indexAt,asIntOf,run_underlying hu,hb,eu hz,jf,Nat.add_assoc]
     ·omega
    ·cases h
   ·cases h
  ·rename_i len elem i off k n hu e1 e2;rw[e1] at hx;rw[e2] at hi;have e3:=hi.int;split at h
   ·rename_i size hz;split at h
    ·rename_i hb;cases h;obtain⟨i2,nR,l,e,hl,e4⟩:=hx.mU;cases e;refine fW.quiet (v':=.pointer (some ⟨l.b,l.o+(off+n.toNat*size),none⟩)) hS ?_ (.ptr i _ l hl);rw[e3,e4];simp[Instr.indexAt,asIntOf,run_underlying hu,hb,eu hz,jf,Nat.add_assoc,Instr.sureAddr]
    ·cases h
   ·cases h
  ·cases h
 ·
  rename_i t x ix;have hx:=hρ x;have hi:=hρ ix;split at h
  ·rename_i len elem cs k n hu e1 e2;rw[e1] at hx;rw[e2] at hi;have e3:=hi.int;obtain⟨fh,e4,q8⟩:=hx.pd;split at h
   ·rename_i size hz;split at h
    ·rename_i hb;rw[Option.map_eq_some_iff] at h;obtain⟨v2,hv,e5⟩:=h;cases e5;obtain⟨v',hr,Fx⟩:=lL q8 hv w;refine fW.quiet hS ?_ Fx;rw[e3,e4];simp[Instr.index,asIntOf,run_underlying hu,hb,eu hz,hr]
    ·cases h
   ·cases h
  ·rename_i s k n hu e1 e2;rw[e1] at hx;rw[e2] at hi;have e3:=hi.int;have e4:=hx.string;split at h
   ·rename_i hb;rw[Option.map_eq_some_iff] at h;obtain⟨c,hc,e5⟩:=h;cases e5;refine fW.quiet (v':=.int .u8 c.toNat) hS ?_ (.plain _ rfl);rw[e3,e4];simp[Instr.index,asIntOf,run_underlying hu,hb,hc]
   ·cases h
  ·cases h
 ·
  rename_i t ix;have hx:=hρ t;split at h
  ·rename_i vs e;rw[e] at hx;obtain⟨ja,e2,hvs⟩:=hx.Au;rw[Option.map_eq_some_iff] at h;obtain⟨v2,hv,e5⟩:=h;cases e5;obtain⟨v',Vh,Dg⟩:=hvs.2 ix v (by simpa using hv)
   refine fW.quiet hS ?_ Dg;rw[e2];simp[Instr.extract,show ja[ix]? =some v' by simpa using Vh]
  ·cases h
 ·
  rename_i b args argTypes;have:=wI (P:=P) (ty:=type) (consts:=(args.map λ| .const _=>true|_=>false)) hS (cW.map hρ args.toList) h
  simp only[resolve,Sem.run_bind,Sem.run_pure,Result.andThen_ok,invoke];have e:(args.toList.map ρ').toArray=args.map ρ':=by rw[←Array.toList_inj];simp
  rw[e] at this;exact this
 ·cases h
end Go.Proofs.YtgfgglponbmgmaaGreatA.Am
end
