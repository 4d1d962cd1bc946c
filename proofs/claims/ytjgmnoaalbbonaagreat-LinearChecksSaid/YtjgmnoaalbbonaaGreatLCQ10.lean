/- Texts of the proof of linearChecks_holds, put together by a small program of ours (names shortened, spaces taken out). No condition beyond the given statement. -/
import Derived.Test.YtjgmnoaalbbonaaGreatLCQ9
import Derived.Test.YtjgmnoaalbbonaaGreatLCQ8
import Derived.ChangeArms
import Derived.Carry
import Derived.OpenShut
import Derived.ChangeOld
import Derived.ChangeMaps5
set_option linter.unusedVariables false
set_option linter.unusedSimpArgs false
set_option linter.unnecessarySimpa false
noncomputable section
section
namespace Go.Proofs.YtjgmnoaalbbonaaGreatA.Am
abbrev DM {α:Type}(kb:List Value→ae→Option α)(k:cg→List Value→ae→Option α):cg→List Value→ae→Option α:=
 λe vs H=>match e with
  | .normal=>kb vs H
  |e=>k e vs H
abbrev LN {α:Type}(id:Nat)(k:cg→List Value→ae→Option α):cg→List Value→ae→Option α:=
 λe vs H=>match e with
  | .exit i=>if i=id then k .normal vs H else k (.exit i) vs H
  |e=>k e vs H
theorem zK {α:Type}(kb:List Value→ae→Option α)(k:cg→List Value→ae→Option α):DM kb k=dv kb k:=rfl
theorem Hu {α:Type}(id:Nat)(k:cg→List Value→ae→Option α):LN id k=dr id k:=rfl
abbrev Hv {α:Type}(P:Program)(C:ag)(ops:Array Oper):List Oper→Env→ae→(Env→ae→Option α)→Option α
 | [],E,H,k=>k E H
 |o::r,E,H,k=>af (match o.guard with
   |none=>iC P C E H o
   |some _=>gd (eW ops o E) (iC P C E H o) H) λv H'=>Hv P C ops r (E.put o.dst v) H' k
theorem QT {α:Type}(P:Program)(C:ag)(ops:Array Oper)(l:List Oper)(E:Env)(H:ae)(k:Env→ae→Option α):Hv P C ops l E H k=JB P C ops l E H k:=by
 induction l generalizing E H with
 |nil=>rfl
 |cons o r ih=>simp only[Hv,JB,ih];rfl
abbrev EP {α:Type}(P:Program)(C:ag)(ops:Array Oper):List Oper→Env→ae→List (Env×ae)→(Env→ae→List (Env×ae)→Option α)→Option α
 | [],E,H,T,k=>k E H (T++[(E,H)])
 |o::r,E,H,T,k=>af (match o.guard with
   |none=>iC P C E H o
   |some _=>gd (eW ops o E) (iC P C E H o) H) λv H'=>EP P C ops r (E.put o.dst v) H' (T++[(E,H)]) k
theorem NK {α:Type}(P:Program)(C:ag)(ops:Array Oper)(l:List Oper)(E:Env)(H:ae)(T:List (Env×ae))(k:Env→ae→List (Env×ae)→Option α):EP P C ops l E H T k=DI P C ops l E H T k:=by
 induction l generalizing E H T with
 |nil=>rfl
 |cons o r ih=>simp only[EP,DI,ih];rfl
abbrev ER {α:Type}(P:Program)(C:ag)(F:List Nat)(base:Nat)(ops:Array Oper):List Oper→Nat→Env→ae→(Env→ae→Option α)→Option α
 | [],_,E,H,k=>k E H
 |o::r,j,E,H,k=>af (match o.guard with
   |none=>eQ P C F base j E H o
   |some _=>gd (eW ops o E) (eQ P C F base j E H o) H) λv H'=>ER P C F base ops r (j+1) (E.put o.dst v) H' k
theorem NL {α:Type}(P:Program)(C:ag)(F:List Nat)(base:Nat)(ops:Array Oper)(l:List Oper)(j:Nat)(E:Env)(H:ae)(k:Env→ae→Option α):ER P C F base ops l j E H k=DJ P C F base ops l j E H k:=by
 induction l generalizing j E H with
 |nil=>rfl
 |cons o r ih=>simp only[ER,DJ,ih];rfl
abbrev yx {α:Type}(P:Program)(C:ag)(F:List Nat)(base:Nat)(ops:Array Oper):List Oper→Nat→Env→ae→List (Env×ae)→(Env→ae→List (Env×ae)→Option α)→Option α
 | [],_,E,H,T,k=>k E H (T++[(E,H)])
 |o::r,j,E,H,T,k=>af (match o.guard with
   |none=>eQ P C F base j E H o
   |some _=>gd (eW ops o E) (eQ P C F base j E H o) H) λv H'=>yx P C F base ops r (j+1) (E.put o.dst v) H' (T++[(E,H)]) k
theorem JF {α:Type}(P:Program)(C:ag)(F:List Nat)(base:Nat)(ops:Array Oper)(l:List Oper)(j:Nat)(E:Env)(H:ae)(T:List (Env×ae))(k:Env→ae→List (Env×ae)→Option α):yx P C F base ops l j E H T k=wi P C F base ops l j E H T k:=by
 induction l generalizing j E H T with
 |nil=>rfl
 |cons o r ih=>simp only[yx,wi,ih];rfl
abbrev zL {α:Type}(P:Program)(C:ag)(ops:Array Oper)(draw:Bool)(E:Env)(H:ae)(k:Env→ae→Option α):Option α:=
 if draw then
  match ng P ops with
  | []=>match n7 P ops with
   | []=>Hv P C ops ops.toList E H k
   |cs=>EP P C ops ops.toList E H [] λE' H' T=>if cs.all (jN P ops T) then k E' H' else none
  |F=>iZ F.length H λbase H=>match n7 P ops with
   | []=>ER P C F base ops ops.toList 0 E H k
   |cs=>yx P C F base ops ops.toList 0 E H [] λE' H' T=>if cs.all (jN P ops T) then k E' H' else none
 else Hv P C ops ops.toList E H k
theorem Hw {α:Type}(P:Program)(C:ag)(ops:Array Oper)(draw:Bool)(E:Env)(H:ae)(k:Env→ae→Option α):zL P C ops draw E H k=uL P C ops draw E H k:=by
 simp only[zL,uL,QT,NK,NL,JF];rfl
inductive Mk:Type→Type 1 where
 |leaf {α:Type}:Mk α
 |seq {α:Type} (a b:Mk α):Mk α
 |tq {α:Type} (a:Mk α) (J:List Value→ae→Option α) (b:Mk α):Mk α
 |cond {α:Type} (a b:Mk α):Mk α
 |block {α:Type} (a:Mk α):Mk α
 |scope {α:Type} (a:Mk α):Mk α
 |loop {α:Type} (f:List Value→ae→bl) (a:Mk (cg×List Value×ae)):Mk α
abbrev NM (P:Program)(C:ag)(keep:List Nat)(n:Nat):{α:Type}→Code→List Value→ae→(cg→List Value→ae→Option α)→Option α
 |_,.skip,vs,H,k=>k .normal vs H
 |_,.label _,vs,H,k=>k .normal vs H
 |_,.region _ ops draw,vs,H,k=>zL P C ops draw (keep.zip vs) H λE H'=>k .normal (keep.map E.get) H'
 |_,.seq a b,vs,H,k=>NM P C keep n a vs H (DM (λju H'=>NM P C keep n b ju H' k) k)
 |_,.cond c a b,vs,H,k=>aY (fP (keep.zip vs) c) (NM P C keep n a vs H k) (NM P C keep n b vs H k)
 |_,.block id c,vs,H,k=>NM P C keep n c vs H (LN id k)
 |_,.loop c,vs,H,k=>cI (iter n (λvs H=>oS P C keep n c vs H fin) vs H) k
 |_,.exit id,vs,H,k=>k (.exit id) vs H
 |_,.scope c,vs,H,k=>NM P C keep n c vs H k
 |_,.ret,vs,H,k=>k .ret vs H
 |_,.goto _,_,_,_=>none
 |_,.rangeFunc g ps x y,vs,H,k=>DK (EN P.funcs.size C (fP (keep.zip vs) g) ⟨keep,vs,ps,x,y⟩ H) λe H'=>k e vs H'
 |_,.refuse _,_,_,_=>none
theorem Zr (P:Program)(C:ag)(keep:List Nat)(n:Nat)(c:Code): ∀{α:Type} (vs:List Value) (H:ae) (k:cg→List Value→ae→Option α),
  NM P C keep n c vs H k=oS P C keep n c vs H k:=by
 induction c with
 |region p ops draw=>intros;simp only[NM,oS,Hw]
 |seq a b NG NH=>intros;simp only[NM,oS,NG,NH,zK]
 |cond c a b NG NH=>intros;simp only[NM,oS,NG,NH]
 |block id c ih=>intros;simp only[NM,oS,ih,Hu]
 |scope c ih=>intros;simp only[NM,oS,ih]
 |_=>intros;rfl
abbrev ES (P:Program)(C:ag)(keep:List Nat)(n:Nat):{α:Type}→Mk α→Code→List Value→ae→(cg→List Value→ae→Option α)→Option α
 |_,.seq ma mb,.seq a b,vs,H,k=>ES P C keep n ma a vs H (DM (λju H'=>ES P C keep n mb b ju H' k) k)
 |_,.tq ma J _,.seq a _,vs,H,k=>ES P C keep n ma a vs H (DM J k)
 |_,.cond ma mb,.cond c a b,vs,H,k=>aY (fP (keep.zip vs) c) (ES P C keep n ma a vs H k) (ES P C keep n mb b vs H k)
 |_,.block ma,.block id c,vs,H,k=>ES P C keep n ma c vs H (LN id k)
 |_,.scope ma,.scope c,vs,H,k=>ES P C keep n ma c vs H k
 |_,.loop f _,.loop _,vs,H,k=>cI (iter n f vs H) k
 |_,_,c,vs,H,k=>NM P C keep n c vs H k
def uM (P:Program)(C:ag)(keep:List Nat)(n:Nat):{α:Type}→Mk α→Code→(cg→List Value→ae→Option α)→Prop
 |_,.seq ma mb,.seq a b,k=>uM P C keep n ma a (DM (λju H'=>ES P C keep n mb b ju H' k) k)∧uM P C keep n mb b k
 |_,.tq ma J mb,.seq a b,k=>uM P C keep n ma a (DM J k)∧uM P C keep n mb b k∧∀vs H,ES P C keep n mb b vs H k=J vs H
 |_,.cond ma mb,.cond _ a b,k=>uM P C keep n ma a k∧uM P C keep n mb b k
 |_,.block ma,.block id c,k=>uM P C keep n ma c (LN id k)
 |_,.scope ma,.scope c,k=>uM P C keep n ma c k
 |_,.loop f ma,.loop c,_=>uM P C keep n ma c fin∧∀vs H,ES P C keep n ma c vs H fin=f vs H
 |_,.leaf,_,_=>True
 |_,_,_,_=>False
theorem Zs (P:Program)(C:ag)(keep:List Nat)(n:Nat){α:Type}(m:Mk α): ∀(c:Code) (vs:List Value) (H:ae) (k:cg→List Value→ae→Option α),
  uM P C keep n m c k→ES P C keep n m c vs H k=oS P C keep n c vs H k:=by
 induction m with
 |leaf=>intro c vs H k _;cases c<;>exact Zr ..
 |seq ma mb NG NH=>
  intro c vs H k h;cases c with
  |seq a b=>
   obtain⟨h1,h2⟩:=h;simp only[ES,oS];rw[NG a vs H _ h1];have:(λju H'=>ES P C keep n mb b ju H' k)=λju H'=>oS P C keep n b ju H' k:=by funext ju H';exact NH b ju H' k h2
   rw[this,zK]
  |_=>exact h.elim
 |tq ma J mb NG NH=>
  intro c vs H k h;cases c with
  |seq a b=>
   obtain⟨h1,h2,h3⟩:=h;simp only[ES,oS];rw[NG a vs H _ h1];have:J=λju H'=>oS P C keep n b ju H' k:=by funext ju H';rw[←h3];exact NH b ju H' k h2
   rw[←this,zK]
  |_=>exact h.elim
 |cond ma mb NG NH=>
  intro c vs H k h;cases c with
  |cond c a b=>obtain⟨h1,h2⟩:=h;simp only[ES,oS];rw[NG a vs H k h1,NH b vs H k h2]
  |_=>exact h.elim
 |block ma ih=>
  intro c vs H k h;cases c with
  |block id c=>simp only[ES,oS];rw[ih c vs H _ h,Hu]
  |_=>exact h.elim
 |scope ma ih=>
  intro c vs H k h;cases c with
  |scope c=>simp only[ES,oS];exact ih c vs H k h
  |_=>exact h.elim
 |loop f ma ih=>
  intro c vs H k h;cases c with
  |loop c=>
   obtain⟨h1,h2⟩:=h;simp only[ES,oS];have:f=λvs H=>oS P C keep n c vs H fin:=by funext vs H;rw[←h2];exact ih c vs H fin h1
   rw[←this]
  |_=>exact h.elim
theorem ET {P:Program}{C:ag}{n:Nat}{fn:Func}{keep:List Nat}{c:Code}(hc:fn.body=some c)(m:Mk (Value×ae))(h:uM P C keep n m c (eE P fn.results.toList keep))(args:List Value)(H:ae):
  LL P C n fn keep args H=ES P C keep n m c (keep.map λt=>args.getD t undef) H (eE P fn.results.toList keep):=by
 unfold LL;rw[hc];exact(Zs P C keep n m c _ H _ h).symm
end Go.Proofs.YtjgmnoaalbbonaaGreatA.Am
end
section
open Go.RowKit
namespace Go.Proofs.YtjgmnoaalbbonaaGreatA.Am
variable {P:Program} {μ:Mu} {H H':ae} {w:World} {B:Nat}
theorem da.below {w':World}(h:da P μ H w B)(b:Below w.heap.size w w'):da P μ H w' B:=
 ⟨Nat.le_trans h.base b.size,λi c hi=>by
  obtain⟨l,hl,hb⟩:=h.ok i c hi;exact⟨l,hl,hb.heap (b.block _ hb.lt)⟩,h.Cv,h.inj,h.own,h.db.keep μ.le_refl (λ_ _ h=>h) (λk x hk _=>(b.block _ (Array.getElem?_eq_some_iff.1 hk).1).trans hk),h.yl⟩
theorem da.ro (h:da P μ H w B)(fE: ∀i b,H.get i=some b→b.ro=true){a o:Nat}{arr:Array Value}{ty:TypeId}{fz:Nat×Nat}(lD:w.heap[a]? =some (.cells arr ty fz))(cs:List Value)(t:TypeId)(Qo:cs.all aD=true)(hle:o+cs.length≤arr.size)(hv:dR μ cs ((arr.toList.drop o).take cs.length)):
  μ.le (μ.up H.length ⟨a,o,arr.size,1⟩)∧da P (μ.up H.length ⟨a,o,arr.size,1⟩) (H.new ⟨cs,t,1,true⟩) w B∧(∀i b,(H.new ⟨cs,t,1,true⟩).get i=some b→b.ro=true):=by
 have kP:=Mu.Dq (l:=⟨a,o,arr.size,1⟩) (h.Cv H.length (Nat.le_refl _));have zM: ∀i b,(H.new ⟨cs,t,1,true⟩).get i=some b→b.ro=true:=by
  intro i b hb;rcases ae.az hb with⟨rfl,rfl⟩|⟨hi,hb⟩
  ·rfl
  ·exact fE i b hb
 refine⟨kP,⟨h.base,?_,?_,?_,?_,h.db.keep kP (λ_ _=>ae.yo) (λ_ _ h _=>h),λk hk=>by obtain⟨h1,h2⟩:=ae.uc hk;rw[Mu.dc (by omega)];exact h.yl k h1⟩,zM⟩
 ·intro i b hb;rcases ae.az hb with⟨rfl,rfl⟩|⟨hi,hb⟩
  ·have h0:(true=false→fz=(0,0)):=λe=>by cases e
   exact⟨_,Mu.aQ,rfl,Qo,(λe=>by cases e),arr,ty,fz,lD,rfl,h0,hle,hv.mono kP⟩
  ·obtain⟨l,h1,h2⟩:=h.ok i b hb;exact⟨l,kP _ _ h1,h2.mono kP⟩
 ·intro i hi;rw[ae.kO] at hi;rw[Mu.dc (by omega)];exact h.Cv i (by omega)
 ·intro i j b c l m hb hc hl hm GF fQ;rw[zM i b hb] at fQ;cases fQ
 ·intro i b l hb fQ hl;rw[zM i b hb] at fQ;cases fQ
theorem QU {k:IntKind}{b off:Nat}{zs:List Int}(h: ∀j,j<zs.length→w.cell? ⟨b,off+j,none⟩=some (.int k (zs.getD j 0)))(hp:0<zs.length):
  ∃arr ty fz,w.heap[b]? =some (.cells arr ty fz)∧off+zs.length≤arr.size∧∀j,j<zs.length→arr[off+j]? =some (.int k (zs.getD j 0)):=by
 have h0:=h 0 hp;simp only[World.cell?] at h0;cases hb:w.heap[b]? with
 |none=>rw[hb] at h0;simp at h0
 |some ob=>
  cases ob with
  |cells arr ty fz=>
   have fE: ∀j,j<zs.length→arr[off+j]? =some (.int k (zs.getD j 0)):=by
    intro j hj;have:=h j hj
    simp only[World.cell?,hb] at this;simpa using this
   refine⟨arr,ty,fz,rfl,?_,fE⟩;have:=fE (zs.length-1) (by omega)
   have:=(Array.getElem?_eq_some_iff.1 this).1
   omega
  |_=>rw[hb] at h0;simp at h0
theorem dR.ints {k:IntKind}{arr:Array Value}{off:Nat}{zs:List Int}(h: ∀j,j<zs.length→arr[off+j]? =some (.int k (zs.getD j 0)))(n:Nat)(hn:n≤zs.length):
  dR μ ((zs.take n).map (.int k)) ((arr.toList.drop off).take ((zs.take n).map (Value.int k)).length):=by
 have hl:((zs.take n).map (Value.int k)).length=n:=by simp;omega
 rw[hl];have e:(arr.toList.drop off).take n=(zs.take n).map (Value.int k):=by
  apply List.ext_getElem?;intro j;by_cases hj:j<n
  ·rw[List.getElem?_take,if_pos hj,List.getElem?_drop,List.getElem?_map,List.getElem?_take,if_pos hj];have:=h j (by omega)
   rw[Array.getElem?_toList,this];rw[List.getElem?_eq_getElem (by omega)]
   simp[List.getD_eq_getElem?_getD,List.getElem?_eq_getElem (show j<zs.length by omega)]
  ·rw[List.getElem?_take,if_neg hj,List.getElem?_map,List.getElem?_take,if_neg hj];rfl
 rw[e];exact⟨rfl,λj u hj=>⟨u,hj,.plain _ (by
  rw[List.getElem?_map] at hj;cases hx:(zs.take n)[j]? with
  |none=>rw[hx] at hj;cases hj
  |some x=>rw[hx] at hj;cases hj;rfl)⟩⟩
theorem da.ints (h:da P μ H w B)(fE: ∀i b,H.get i=some b→b.ro=true){k:IntKind}{b off len cap:Nat}{zs:List Int}(hle:len≤zs.length)(sZ:zs.length=cap)(hp:0<cap)(hc: ∀j,j<zs.length→w.cell? ⟨b,off+j,none⟩=some (.int k (zs.getD j 0)))(t:TypeId):
  ∃μ',μ.le μ'∧da P μ' (H.new ⟨(zs.take len).map (.int k),t,1,true⟩) w B∧(∀i c,(H.new ⟨(zs.take len).map (.int k),t,1,true⟩).get i=some c→c.ro=true)∧
   VR μ' (.slice (some ⟨H.length,0,none⟩) len len) (.slice (some ⟨b,off,none⟩) len cap):=by
 obtain⟨arr,ty,fz,lD,oY,ad3⟩:=QU hc (by omega)
 have hl:((zs.take len).map (Value.int k)).length=len:=by simp;omega
 obtain⟨h1,h2,h3⟩:=h.ro fE lD ((zs.take len).map (.int k)) t (List.all_eq_true.2 λv hv=>by obtain⟨x,_,rfl⟩:=List.mem_map.1 hv;rfl) (by rw[hl];omega) (dR.ints ad3 len hle)
 refine⟨_,h1,h2,h3,?_⟩;have:=VR.slice (μ:=μ.up H.length ⟨b,off,arr.size,1⟩) H.length 0 len len cap ⟨b,off,arr.size,1⟩ Mu.aQ (Nat.le_refl _) (by omega) (by simp;omega)
 simpa using this
theorem get_none {i:Nat}:ae.get (H++[.dead]) i=H.get i:=by
 unfold ae.get;by_cases h:i<H.length
 ·rw[List.getElem?_append_left h]
 ·rw[List.getElem?_append_right (by omega),List.getElem?_eq_none (show H.length≤i by omega)]
  by_cases h2:i-H.length=0
  ·rw[h2];rfl
  ·rw[List.getElem?_eq_none (by simp;omega)]
theorem QV {i:Nat}:ae.db (H++[.dead]) i=H.db i:=by
 unfold ae.db;by_cases h:i<H.length
 ·rw[List.getElem?_append_left h]
 ·rw[List.getElem?_append_right (by omega),List.getElem?_eq_none (show H.length≤i by omega)]
  by_cases h2:i-H.length=0
  ·rw[h2];rfl
  ·rw[List.getElem?_eq_none (by simp;omega)]
theorem da.none (h:da P μ H w B)(fE: ∀i b,H.get i=some b→b.ro=true)(a:Addr):
  da P μ (H++[.dead]) w B∧(∀i b,ae.get (H++[.dead]) i=some b→b.ro=true)∧VR μ (.slice (some ⟨H.length,0,none⟩) 0 0) (.slice (some a) 0 0):=by
 refine⟨⟨h.base,λi b hb=>h.ok i b (by rwa [get_none] at hb),λi hi=>h.Cv i (by simp at hi;omega),λi j b c l m hb hc=>?_,λi b l hb=>?_,h.db.keep μ.le_refl (λi o hi=>by rwa [QV] at hi) (λ_ _ h _=>h),λk hk=>h.yl k (by
  by_cases e:k<H.length
  ·rwa [List.getElem?_append_left e] at hk
  ·have hl:=(List.getElem?_eq_some_iff.1 hk).1;have:k=H.length:=by simp at hl;omega
   subst this;simp at hk)⟩,λi b hb=>fE i b (by rwa [get_none] at hb),.nJ _ _ _⟩
 ·rw[get_none] at hb hc;exact h.inj i j b c l m hb hc
 ·rw[get_none] at hb;exact h.own i b l hb
end Go.Proofs.YtjgmnoaalbbonaaGreatA.Am
end
section
open Go.RowKit Go.WideShapes Go.ChangeShapes
namespace Go.Proofs.YtjgmnoaalbbonaaGreatA.Am
variable {P:Program} {μ:Mu} {H:ae} {w:World} {B:Nat}
def kE (H:ae):Prop:=∀i b,H.get i=some b→b.ro=true
def lF (P:Program)(ok:TypeId→Bool):List Field→Nat→Option Nat
 | [],o=>some o
 |f::r,o=>if f.offset=o∧ok f.type=true then lF P ok r (o+P.cellsOf f.type) else none
def wj (P:Program):Nat→TypeId→Bool
 |0,_=>false
 |f+1,t=>match P.underlying t with
  |some .bool=>true
  |some (.int _)=>true
  |some .string=>true
  |some (.struct fs)=>lF P (wj P f) fs.toList 0==some (P.cellsOf t)
  |some (.slice e)=>decide (0<P.cellsOf e)&&wj P f e
  |_=>false
def kh (P:Program)(q:TypeId→List Value→Prop):List Field→List Value→Prop
 | [],cs=>cs=[]
 |f::r,cs=>∃a b,cs=a++b∧a.length=P.cellsOf f.type∧q f.type a∧kh P q r b
def In (P:Program)(H:ae):Nat→TypeId→List Value→Prop
 |0,_,_=>False
 |f+1,t,cs=>match P.underlying t with
  |some .bool=>∃b,cs=[.bool b]
  |some (.int k)=>∃n,cs=[.int k n]∧(Lit.int k n).wf=true
  |some .string=>∃s:ByteArray,cs=[.string s]∧s.size≤maxLen
  |some (.struct fs)=>kh P (In P H f) fs.toList cs
  |some (.slice e)=>cs=[.slice none 0 0]∨∃(i:Nat) (es:List (List Value)),cs=[.slice (some ⟨i,0,none⟩) es.length es.length]∧es.length≤maxLen∧
    (0<es.length→H.get i=some ⟨es.flatten,e,P.cellsOf e,true⟩)∧∀x,x∈es→x.length=P.cellsOf e∧In P H f e x
  |_=>False
theorem U7 {T:ae}{i:Nat}{b:eY}(h:H.get i=some b):ae.get (H++T) i=some b:=by
 have:=ae.aq h
 unfold ae.get at h ⊢;rw[List.getElem?_append_left this];exact h
theorem kh.mono {q q':TypeId→List Value→Prop}(h: ∀t cs,q t cs→q' t cs): ∀(fs:List Field) (cs:List Value),kh P q fs cs→kh P q' fs cs
 | [],_,k=>k
 |_::r,_,⟨a,b,e,l,x,y⟩=>⟨a,b,e,l,h _ _ x,kh.mono h r b y⟩
theorem In.mono {T:ae}: ∀(f:Nat) (t:TypeId) (cs:List Value),In P H f t cs→In P (H++T) f t cs:=by
 intro f;induction f with
 |zero=>intro t cs h;exact h
 |succ f ih=>
  intro t cs h;unfold In at h ⊢;split<;>simp_all only
  ·exact kh.mono ih _ _ h
  ·rcases h with h|⟨i,es,h1,h2,h3,h4⟩
   ·exact .inl h
   ·exact .inr ⟨i,es,h1,h2,λhp=>U7 (h3 hp),λx hx=>⟨(h4 x hx).1,ih _ _ (h4 x hx).2⟩⟩
variable {A:Type} {enc:TypeId×Value→A} {held:Bool}
abbrev Rd (enc:TypeId×Value→A)(P:Program)(w:World)(held:Bool):=DataW.trod enc P w 0 (λ_=>true) held
def Got (P:Program)(w:World)(B:Nat)(μ:Mu)(H:ae)(f:Nat)(t:TypeId)(cs:List Value):Prop:=
 ∃μ' T LO,μ.le μ'∧da P μ' (H++T) w B∧kE (H++T)∧dR μ' LO cs∧LO.all aD=true∧In P (H++T) f t LO
def QW (enc:TypeId×Value→A)(P:Program)(w:World)(held:Bool)(B f:Nat):Prop:=
 ∀t fuel cs x μ H,wj P f t=true→Rd enc P w held fuel t cs=some x→da P μ H w B→kE H→Got P w B μ H f t cs
theorem pg {f:Nat}{t:TypeId}{v:Value}(hp:cF v=true)(ho:aD v=true)(hS:da P μ H w B)(hr:kE H)(hi:In P H f t [v]):Got P w B μ H f t [v]:=
 ⟨μ,[],[v],μ.le_refl,by simpa using hS,by simpa using hr,.cons (.plain _ hp) .nil,by simp[ho],by simpa using hi⟩
theorem HA {f:Nat}(L:QW enc P w held B f){n:Nat}{cs:List Value}: ∀(fs:List Field) (o:Nat) (μ:Mu) (H:ae),lF P (wj P f) fs o=some cs.length→
  (∀fd∈fs,∃x,Rd enc P w held n fd.type ((cs.drop fd.offset).take (P.cellsOf fd.type))=some x)→da P μ H w B→kE H→
  ∃μ' T LO,μ.le μ'∧da P μ' (H++T) w B∧kE (H++T)∧dR μ' LO (cs.drop o)∧LO.all aD=true∧kh P (In P (H++T) f) fs LO:=by
 intro fs;induction fs with
 |nil=>
  intro o μ H ho _ hS hr;simp only[lF] at ho;cases ho;exact⟨μ,[],[],μ.le_refl,by simpa using hS,by simpa using hr,by simpa using dR.nil,rfl,rfl⟩
 |cons fd r ih=>
  intro o μ H ho hx hS hr;simp only[lF] at ho;split at ho
  ·rename_i hc;obtain⟨rfl,gJ⟩:=hc;obtain⟨x,xN⟩:=hx fd (List.mem_cons_self ..);obtain⟨μ1,T1,a1,l1,s1,r1,v1,o1,i1⟩:=L _ _ _ _ μ H gJ xN hS hr;obtain⟨μ2,T2,a2,l2,s2,r2,v2,o2,i2⟩:=ih _ μ1 (H++T1) ho (λfd' h'=>hx fd' (List.mem_cons_of_mem _ h')) s1 r1
   have hlen:(cs.drop fd.offset).take (P.cellsOf fd.type)++cs.drop (fd.offset+P.cellsOf fd.type)=cs.drop fd.offset:=by
    rw[←List.drop_drop,List.take_append_drop]
   have U1:a1.length=P.cellsOf fd.type:=by
    have h1:=v1.1;have h2:=hlen;have:fd.offset+P.cellsOf fd.type≤cs.length:=by
     have key: ∀(fs:List Field) (o:Nat) m,lF P (wj P f) fs o=some m→o≤m:=by
      intro fs;induction fs with
      |nil=>intro o m h;simp only[lF] at h;cases h;exact Nat.le_refl _
      |cons g r ih=>
       intro o m h;simp only[lF] at h;split at h
       ·have:=ih _ _ h;omega
       ·cases h
     exact key _ _ _ ho
    rw[h1];simp;omega
   refine⟨μ2,T1++T2,a1++a2,Mu.le_trans l1 l2,by rw[←List.append_assoc];exact s2,by rw[←List.append_assoc];exact r2,?_,by simp[o1,o2],a1,a2,rfl,U1,?_,?_⟩
   ·rw[←hlen];exact(v1.mono l2).append v2
   ·rw[←List.append_assoc];exact In.mono _ _ _ i1
   ·rw[←List.append_assoc];exact i2
  ·cases ho
theorem JG {f:Nat}(L:QW enc P w held B f){n:Nat}{e:TypeId}(gJ:wj P f e=true): ∀(css:List (List Value)) (μ:Mu) (H:ae),(∀cs∈css,(∃x,Rd enc P w held n e cs=some x)∧cs.length=P.cellsOf e)→da P μ H w B→kE H→
  ∃(μ':Mu) (T:ae) (es:List (List Value)),μ.le μ'∧da P μ' (H++T) w B∧kE (H++T)∧es.length=css.length∧dR μ' es.flatten css.flatten∧es.flatten.all aD=true∧∀x,x∈es→x.length=P.cellsOf e∧In P (H++T) f e x:=by
 intro css;induction css with
 |nil=>intro μ H _ hS hr;exact⟨μ,[],[],μ.le_refl,by simpa using hS,by simpa using hr,rfl,by simpa using dR.nil,rfl,λx hx=>by cases hx⟩
 |cons cs r ih=>
  intro μ H hx hS hr;obtain⟨⟨x,xN⟩,hl⟩:=hx cs (List.mem_cons_self ..);obtain⟨μ1,T1,a1,l1,s1,r1,v1,o1,i1⟩:=L _ _ _ _ μ H gJ xN hS hr;obtain⟨μ2,T2,es,l2,s2,r2,n2,v2,o2,i2⟩:=ih μ1 (H++T1) (λc h'=>hx c (List.mem_cons_of_mem _ h')) s1 r1
  refine⟨μ2,T1++T2,a1::es,Mu.le_trans l1 l2,by rw[←List.append_assoc];exact s2,by rw[←List.append_assoc];exact r2,by simp[n2],?_,by simp only[List.flatten_cons,List.all_append,o1,o2,Bool.and_self],?_⟩
  ·simp only[List.flatten_cons];exact(v1.mono l2).append v2
  ·intro y hy;rcases List.mem_cons.1 hy with rfl|hy
   ·exact⟨by rw[v1.1,hl],by rw[←List.append_assoc];exact In.mono _ _ _ i1⟩
   ·rw[←List.append_assoc];exact i2 y hy
theorem da.ro' (h:da P μ H w B)(fE:kE H){a o es:Nat}{arr:Array Value}{ty:TypeId}{fz:Nat×Nat}(lD:w.heap[a]? =some (.cells arr ty fz))(cs:List Value)(t:TypeId)(Qo:cs.all aD=true)(hle:o+cs.length≤arr.size)(hv:dR μ cs ((arr.toList.drop o).take cs.length)):
  μ.le (μ.up H.length ⟨a,o,arr.size,es⟩)∧da P (μ.up H.length ⟨a,o,arr.size,es⟩) (H++[.hZ ⟨cs,t,es,true⟩]) w B∧kE (H++[.hZ ⟨cs,t,es,true⟩]):=by
 have kP:=Mu.Dq (l:=⟨a,o,arr.size,es⟩) (h.Cv H.length (Nat.le_refl _));have zM:kE (H.new ⟨cs,t,es,true⟩):=by
  intro i b hb;rcases ae.az hb with⟨rfl,rfl⟩|⟨hi,hb⟩
  ·rfl
  ·exact fE i b hb
 refine⟨kP,⟨h.base,?_,?_,?_,?_,h.db.keep kP (λ_ _=>ae.yo) (λ_ _ h _=>h),λk hk=>by obtain⟨h1,h2⟩:=ae.uc hk;rw[Mu.dc (by omega)];exact h.yl k h1⟩,zM⟩
 ·intro i b hb;rcases ae.az hb with⟨rfl,rfl⟩|⟨hi,hb⟩
  ·have h0:(true=false→fz=(0,0)):=λe=>by cases e
   exact⟨_,Mu.aQ,rfl,Qo,(λe=>by cases e),arr,ty,fz,lD,rfl,h0,hle,hv.mono kP⟩
  ·obtain⟨l,h1,h2⟩:=h.ok i b hb;exact⟨l,kP _ _ h1,h2.mono kP⟩
 ·intro i hi;have hi:(H.new ⟨cs,t,es,true⟩).length≤i:=hi;rw[ae.kO] at hi;rw[Mu.dc (by omega)];exact h.Cv i (by omega)
 ·intro i j b c l m hb hc hl hm GF fQ;rw[zM i b hb] at fQ;cases fQ
 ·intro i b l hb fQ hl;rw[zM i b hb] at fQ;cases fQ
theorem HB {b off sz j:Nat}{cs:List Value}(h:w.cells? 0 (Addr.add ⟨b,off,none⟩ (j*sz)) sz=some cs)(oY:0<sz):
  ∃arr ty fz,w.heap[b]? =some (.cells arr ty fz)∧off+(j+1)*sz≤arr.size∧(arr.toList.drop (off+j*sz)).take sz=cs:=by
 obtain⟨_,hl,hc⟩:=World.cells?_some h;have h0: ∀i,i<sz→w.cell? ⟨b,off+j*sz+i,none⟩=cs[i]? :=by
  intro i hi;rw[←hc i hi,add_plain,add_plain]
 have h1:=h0 0 oY;rw[List.getElem?_eq_getElem (by omega)] at h1
 simp only[World.cell?] at h1;cases hb:w.heap[b]? with
 |none=>rw[hb] at h1;simp at h1
 |some ob=>
  cases ob with
  |cells arr ty fz=>
   have fE: ∀i,i<sz→arr[off+j*sz+i]? =cs[i]? :=by
    intro i hi;have:=h0 i hi
    simp only[World.cell?,hb] at this;simpa using this
   refine⟨arr,ty,fz,rfl,?_,?_⟩
   ·have:=fE (sz-1) (by omega)
    rw[List.getElem?_eq_getElem (by omega)] at this
    have:=(Array.getElem?_eq_some_iff.1 this).1
    rw[Nat.succ_mul];omega
   ·apply List.ext_getElem?;intro i;by_cases hi:i<sz
    ·rw[List.getElem?_take,if_pos hi,List.getElem?_drop,Array.getElem?_toList,fE i hi]
    ·rw[List.getElem?_take,if_neg hi,List.getElem?_eq_none (by omega)]
  |_=>rw[hb] at h1;simp at h1
theorem JH {arr:List Value}{off sz:Nat}(g:Nat→List Value): ∀n,(∀j,j<n→(arr.drop (off+j*sz)).take sz=g j)→
  ((List.range n).map g).flatten=(arr.drop off).take (n*sz):=by
 intro n;induction n with
 |zero=>intro _;simp
 |succ n ih=>
  intro h;rw[List.range_succ,List.map_append,List.flatten_append,ih (λj hj=>h j (by omega))]
  simp only[List.map_cons,List.map_nil,List.flatten_cons,List.flatten_nil,List.append_nil];rw[←h n (by omega),Nat.succ_mul,List.take_add,List.drop_drop]
theorem ad4: ∀f,QW enc P w held B f:=by
 intro f;induction f with
 |zero=>intro t fuel cs x μ H h;simp[wj] at h
 |succ f ih=>
  intro t fuel cs x μ H gJ hx hS hr;simp only[wj] at gJ;split at gJ
  ·rename_i ht;obtain⟨b,rfl,_⟩:=DataW.trod_bool ht hx;exact pg rfl rfl hS hr (by simp[In,ht])
  ·rename_i k ht;obtain⟨n,rfl,_,hw⟩:=DataW.trod_int ht hx;exact pg rfl rfl hS hr (by simp[In,ht,hw])
  ·rename_i ht;obtain⟨s,rfl,_,hw⟩:=DataW.trod_string ht hx;exact pg rfl rfl hS hr (by simp[In,ht,hw])
  ·rename_i fs ht;obtain⟨xs,n,rfl,rfl,hl,jm,hf⟩:=DataW.trod_struct ht hx;rw[←hl] at gJ;obtain⟨μ',T,LO,h1,h2,h3,h4,h5,h6⟩:=HA ih fs.toList 0 μ H (by simpa using gJ) (λfd hfd=>by
    obtain⟨i,hi⟩:=List.getElem?_of_mem hfd;have wZ:fs[i]? =some fd:=by simpa using hi
    have:=hf i fd wZ
    have dH:i<xs.length:=by rw[jm];exact(Array.getElem?_eq_some_iff.1 wZ).1
    rw[List.getElem?_eq_getElem dH] at this;exact⟨_,this⟩) hS hr
   exact⟨μ',T,LO,h1,h2,h3,by simpa using h4,h5,by simp only[In,ht];exact h6⟩
  ·rename_i e ht;simp only[Bool.and_eq_true,decide_eq_true_eq] at gJ;obtain⟨oY,agk⟩:=gJ;rcases DataW.trod_slice ht hx with⟨rfl,_⟩|⟨a,len,cap,elems,rest,n,rfl,rfl,rfl,_,Nm,hcm,GJ,he,Qp,_⟩
   ·exact pg rfl rfl hS hr (by simp[In,ht])
   ·obtain⟨hrl,QO⟩:=Qp rfl;have each: ∀j,j<cap→∃cs,w.cells? 0 (a.add (j*P.cellsOf e)) (P.cellsOf e)=some cs∧∃x,Rd enc P w held n e cs=some x:=by
     intro j hj;by_cases Cz:j<len
     ·have:=he j Cz
      rw[List.getElem?_eq_getElem (by omega),Option.bind_eq_some_iff] at this
      obtain⟨cs,h1,h2⟩:=this;exact⟨cs,h1,_,h2⟩
     ·have:=QO (j-len) (by omega)
      rw[List.getElem?_eq_getElem (by omega),show len+(j-len)=j by omega,Option.bind_eq_some_iff] at this
      obtain⟨cs,h1,h2⟩:=this;exact⟨cs,h1,_,h2⟩
    by_cases hc:cap=0
    ·subst hc;obtain rfl:len=0:=by omega
     obtain⟨s1,s2,s3⟩:=da.none hS hr a;refine⟨μ,[.dead],[.slice (some ⟨H.length,0,none⟩) 0 0],μ.le_refl,s1,s2,.cons s3 .nil,rfl,?_⟩;simp only[In,ht];exact .inr ⟨H.length,[],rfl,by simp,λh=>by simp at h,λx hx=>by cases hx⟩
    ·have Yc:a.spot=none:=by
      obtain⟨cs,h1,_⟩:=each 0 (by omega)
      obtain⟨_,hl,wY⟩:=World.cells?_some h1;have:=wY 0 oY
      rw[List.getElem?_eq_getElem (by omega)] at this
      simpa[Addr.add] using World.cell?_spot this
     obtain⟨b,off,spot⟩:=a;simp only at Yc;subst Yc;obtain⟨arr,ty,fz,lD,Lq,_⟩:=HB (each (cap-1) (by omega)).choose_spec.1 oY
     rw[show cap-1+1=cap by omega] at Lq
     let g:Nat→List Value:=λj=>(w.cells? 0 (Addr.add ⟨b,off,none⟩ (j*P.cellsOf e)) (P.cellsOf e)).getD []
     have hg: ∀j,j<cap→w.cells? 0 (Addr.add ⟨b,off,none⟩ (j*P.cellsOf e)) (P.cellsOf e)=some (g j):=by
      intro j hj;obtain⟨cs,h1,_⟩:=each j hj;show _=some ((w.cells? 0 _ _).getD [])
      rw[h1];rfl
     have hrd: ∀j,j<cap→(∃x,Rd enc P w held n e (g j)=some x)∧(g j).length=P.cellsOf e:=by
      intro j hj;obtain⟨cs,h1,h2⟩:=each j hj;have:=hg j hj
      rw[h1] at this;cases this;exact⟨h2,(World.cells?_some h1).2.1⟩
     obtain⟨μ1,T1,es,l1,s1,r1,n1,v1,o1,i1⟩:=JG ih agk ((List.range len).map g) μ H (λcs lQ=>by
      obtain⟨j,hj,rfl⟩:=List.mem_map.1 lQ;exact hrd j (by have:=List.mem_range.1 hj;omega)) hS hr
     simp only[List.length_map,List.length_range] at n1;have IV:((List.range len).map g).flatten=(arr.toList.drop off).take (len*P.cellsOf e):=by
      refine JH g len ?_;intro j hj;obtain⟨aib,EU,fz',Yd,_,h3⟩:=HB (hg j (by omega)) oY
      rw[lD] at Yd;cases Yd;exact h3
     have ad5:len*P.cellsOf e≤cap*P.cellsOf e:=Nat.mul_le_mul_right _ Nm;have hln:es.flatten.length=len*P.cellsOf e:=by
      rw[v1.1,IV];simp;omega
     obtain⟨q1,q2,q3⟩:=da.ro' (es:=P.cellsOf e) s1 r1 lD es.flatten e o1 (show off+es.flatten.length≤arr.size by omega) (by rw[hln, ←IV];exact v1)
     refine⟨_,T1++[.hZ ⟨es.flatten,e,P.cellsOf e,true⟩],[.slice (some ⟨(H++T1).length,0,none⟩) len len],Mu.le_trans l1 q1,by rw[←List.append_assoc];exact q2,by rw[←List.append_assoc];exact q3,?_,rfl,?_⟩
     ·refine .cons ?_ .nil;have:=VR.slice (μ:=μ1.up (H++T1).length ⟨b,off,arr.size,P.cellsOf e⟩) (H++T1).length 0 len len cap ⟨b,off,arr.size,P.cellsOf e⟩ Mu.aQ (Nat.le_refl _) Nm (by simpa using Lq)
      simpa using this
     ·simp only[In,ht];refine .inr ⟨(H++T1).length,es,by rw[n1],by omega,λ_=>?_,λx hx=>⟨(i1 x hx).1,?_⟩⟩
      ·rw[←List.append_assoc];exact ae.jj (H:=H++T1) (b:=⟨es.flatten,e,P.cellsOf e,true⟩)
      ·rw[←List.append_assoc];exact In.mono _ _ _ (i1 x hx).2
  ·cases gJ
def mK (P:Program)(H:ae)(f:Nat)(t:TypeId)(v:Value):Prop:=
 ∃cs,In P H f t cs∧match P.underlying t with
  |some (.struct _)=>v= .agg cs.toArray
  |_=>cs=[v]
def ph (P:Program)(H:ae)(f:Nat):List TypeId→List Value→Prop
 | [],vs=>vs=[]
 |t::ts,vs=>∃v r,vs=v::r∧mK P H f t v∧ph P H f ts r
theorem ph.mono {T:ae}{f:Nat}: ∀(ts:List TypeId) (vs:List Value),ph P H f ts vs→ph P (H++T) f ts vs
 | [],_,h=>h
 |_::ts,_,⟨v,r,e,⟨cs,h1,h2⟩,h3⟩=>⟨v,r,e,⟨cs,In.mono _ _ _ h1,h2⟩,ph.mono ts r h3⟩
theorem zN {v:Value}(h: ∀cs,v≠ .agg cs):v.cells.toList=[v]:=by
 cases v<;>first|rfl| (exact absurd rfl (h _))
theorem QX {r:Reach}{b0:Nat}{f:Nat}{t:TypeId}{v:Value}{d:DataW A}{ps:List MemPlace}(gJ:wj P f t=true)(qL:Value.okWide P w r b0 t v)(hd:DataW.Trod enc P w 0 (λ_=>true) held t v d ps)(hS:da P μ H w B)(hr:kE H): ∃μ' T a,μ.le μ'∧da P μ' (H++T) w B∧kE (H++T)∧VR μ' a v∧mK P (H++T) f t a:=by
 obtain⟨fuel,hf⟩:=hd;obtain⟨μ',T,LO,h1,h2,h3,h4,h5,h6⟩:=ad4 f _ _ _ _ μ H gJ hf hS hr;have single:(∀fs,P.underlying t≠some (.struct fs))→(∀cs,v≠ .agg cs)→∃μ' T a,μ.le μ'∧da P μ' (H++T) w B∧kE (H++T)∧VR μ' a v∧mK P (H++T) f t a:=by
  intro hns hna;rw[zN hna] at h4;obtain⟨a,rfl⟩: ∃a,LO=[a]:=by
   have:=h4.1
   match LO,this with
   | [a],_=>exact⟨a,rfl⟩
  obtain⟨b,y,e,h7,h8⟩:=h4.gL;cases e;refine⟨μ',T,a,h1,h2,h3,h7,[a],h6,?_⟩;split
  ·rename_i fs e;exact absurd e (hns _)
  ·rfl
 cases f with
 |zero=>simp[wj] at gJ
 |succ f=>
  simp only[wj] at gJ;split at gJ
  ·rename_i ht;obtain⟨b,rfl⟩:=okWide_bool ht qL;exact single (by simp[ht]) (by simp)
  ·rename_i k ht;obtain⟨n,rfl⟩:=okWide_int ht qL;exact single (by simp[ht]) (by simp)
  ·rename_i ht;obtain⟨s,rfl⟩:=okWide_string ht qL;exact single (by simp[ht]) (by simp)
  ·rename_i fs ht;unfold Value.okWide at qL;rw[ht] at qL;obtain⟨cs,rfl,_⟩:=qL;refine⟨μ',T,.agg LO.toArray,h1,h2,h3,dR.agg (by simpa[Value.cells] using h4),LO,h6,by rw[ht]⟩
  ·rename_i e ht;obtain⟨a,len,cap,rfl⟩:=okWide_slice ht qL;exact single (by simp[ht]) (by simp)
  ·cases gJ
theorem NN {r:Reach}{b0:Nat}{f:Nat}: ∀(ts:List TypeId) (vs:List Value) (ds:List (DataW A)) (ps:List MemPlace) (μ:Mu) (H:ae),(ts.all (wj P f))=true→
  (∀(j:Nat) t v,ts[j]? =some t→vs[j]? =some v→Value.okWide P w r b0 t v)→DataW.TrodAll enc P w 0 (λ_=>true) held ts vs ds ps→da P μ H w B→kE H→
  ∃μ' T as,μ.le μ'∧da P μ' (H++T) w B∧kE (H++T)∧dR μ' as vs∧ph P (H++T) f ts as:=by
 intro ts;induction ts with
 |nil=>
  intro vs ds ps μ H _ _ h hS hr;obtain⟨rfl,_,_⟩:=trodAll_nil h;exact⟨μ,[],[],μ.le_refl,by simpa using hS,by simpa using hr,.nil,rfl⟩
 |cons t ts ih=>
  intro vs ds ps μ H gJ qL h hS hr;simp only[List.all_cons,Bool.and_eq_true] at gJ;obtain⟨v,ju,d,ds',p,q,rfl,rfl,rfl,h1,h2⟩:=trodAll_cons h;obtain⟨μ1,T1,a,l1,s1,r1,v1,i1⟩:=QX gJ.1 (qL 0 t v rfl rfl) h1 hS hr;obtain⟨μ2,T2,as,l2,s2,r2,v2,i2⟩:=ih ju ds' q μ1 (H++T1) gJ.2 (λj t' v' e1 e2=>qL (j+1) t' v' (by simpa using e1) (by simpa using e2)) h2 s1 r1
  refine⟨μ2,T1++T2,a::as,Mu.le_trans l1 l2,by rw[←List.append_assoc];exact s2,by rw[←List.append_assoc];exact r2,.cons (v1.mono l2) v2,a,as,rfl,?_,?_⟩
  ·obtain⟨cs,k1,k2⟩:=i1;exact⟨cs,by rw[←List.append_assoc];exact In.mono _ _ _ k1,k2⟩
  ·rw[←List.append_assoc];exact i2
theorem NO (hl:laidOutB P=true): ∀(ts:List TypeId) (vs:List Value) (ds:List (DataW A)) (ps:List MemPlace) {W':World},(ts.all λt=>P.readableRec t&&decide (t<P.types.size))=true→
  DataW.TrodAll enc P w 0 (λ_=>true) true ts vs ds ps→Below w.heap.size w W'→(∀x∈ps,x.block<w.heap.size)→
  DataW.TrodAll enc P W' 0 (λb=>decide (b<w.heap.size)) true ts vs ds ps:=by
 intro ts;induction ts with
 |nil=>
  intro vs ds ps W' _ h _ _;obtain⟨rfl,rfl,rfl⟩:=trodAll_nil h;exact trodAll_mk0
 |cons t ts ih=>
  intro vs ds ps W' gJ h hb dH;simp only[List.all_cons,Bool.and_eq_true,decide_eq_true_eq] at gJ;obtain⟨v,ju,d,ds',p,q,rfl,rfl,rfl,h1,h2⟩:=trodAll_cons h;exact trodAll_cons_mk (Below.trod hl gJ.1.1 gJ.1.2 h1 hb λx hx=>dH x (List.mem_append_left _ hx)) (ih ju ds' q gJ.2 h2 hb λx hx=>dH x (List.mem_append_right _ hx))
def Ye (P:Program)(f:FuncId)(ts:List TypeId):Prop:=
 ∀W:World,∀H args μ,kE H→ph P H 9 ts args→da P μ H W W.heap.size→∀vs,dR μ args vs→
  Calls P f vs.toArray W λe W'=>e= .returned (.bool true)∧Below W.heap.size W W'
theorem Ye.walk {f:FuncId}{ts:List TypeId}(h:Ye P f ts)(gJ:(ts.all (wj P 9))=true){r:Reach}{b0:Nat}{vs:List Value}{ds:List (DataW A)}{ps:List MemPlace}(qL: ∀(j:Nat) t v,ts[j]? =some t→vs[j]? =some v→Value.okWide P w r b0 t v)(hA:DataW.TrodAll enc P w 0 (λ_=>true) held ts vs ds ps):
  Calls P f vs.toArray w λe W'=>e= .returned (.bool true)∧Below w.heap.size w W':=by
 obtain⟨μ,T,as,_,s,r,v,i⟩:=NN ts vs ds ps (λ_=>none) [] gJ qL hA (da.empty w) (λi b h=>by simp[ae.get] at h)
 exact h w ([]++T) as μ r i s vs v
end Go.Proofs.YtjgmnoaalbbonaaGreatA.Am
end
