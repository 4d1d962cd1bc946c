/- Texts of the proof of linearCut_holds, put together by a small program of ours (names shortened, spaces taken out). No condition beyond the given statement. -/
import Derived.Test.YtjgmnoaalbbonaaGreatLCT9
import Derived.Test.YtjgmnoaalbbonaaGreatLCT8
import Derived.ChangeArms
import Derived.Carry
import Derived.OpenShut
import Derived.ChangeOld
import Derived.ChangeMaps5
set_option linter.unusedVariables false
set_option linter.unusedSimpArgs false
set_option linter.unnecessarySimpa false
noncomputable section
section
namespace Go.Proofs.YtjgmnoaalbbonaaGreatA.Am
abbrev Bn {α:Type}(kb:List Value→aa→Option α)(k:bJ→List Value→aa→Option α):bJ→List Value→aa→Option α:=
 λe vs H=>match e with
  | .normal=>kb vs H
  |e=>k e vs H
abbrev HN {α:Type}(id:Nat)(k:bJ→List Value→aa→Option α):bJ→List Value→aa→Option α:=
 λe vs H=>match e with
  | .exit i=>if i=id then k .normal vs H else k (.exit i) vs H
  |e=>k e vs H
theorem xg {α:Type}(kb:List Value→aa→Option α)(k:bJ→List Value→aa→Option α):Bn kb k=dT kb k:=rfl
theorem Eu {α:Type}(id:Nat)(k:bJ→List Value→aa→Option α):HN id k=dK id k:=rfl
abbrev Ew {α:Type}(P:Program)(C:ae)(ops:Array Oper):List Oper→Env→aa→(Env→aa→Option α)→Option α
 | [],E,H,k=>k E H
 |o::r,E,H,k=>af (match o.guard with
   |none=>gV P C E H o
   |some _=>gd (ee ops o E) (gV P C E H o) H) λv H'=>Ew P C ops r (E.put o.dst v) H' k
theorem Nf {α:Type}(P:Program)(C:ae)(ops:Array Oper)(l:List Oper)(E:Env)(H:aa)(k:Env→aa→Option α):Ew P C ops l E H k=Gm P C ops l E H k:=by
 induction l generalizing E H with
 |nil=>rfl
 |cons o r ih=>simp only[Ew,Gm,ih];rfl
abbrev Cj {α:Type}(P:Program)(C:ae)(ops:Array Oper):List Oper→Env→aa→List (Env×aa)→(Env→aa→List (Env×aa)→Option α)→Option α
 | [],E,H,T,k=>k E H (T++[(E,H)])
 |o::r,E,H,T,k=>af (match o.guard with
   |none=>gV P C E H o
   |some _=>gd (ee ops o E) (gV P C E H o) H) λv H'=>Cj P C ops r (E.put o.dst v) H' (T++[(E,H)]) k
theorem Jv {α:Type}(P:Program)(C:ae)(ops:Array Oper)(l:List Oper)(E:Env)(H:aa)(T:List (Env×aa))(k:Env→aa→List (Env×aa)→Option α):Cj P C ops l E H T k=Bj P C ops l E H T k:=by
 induction l generalizing E H T with
 |nil=>rfl
 |cons o r ih=>simp only[Cj,Bj,ih];rfl
abbrev Ck {α:Type}(P:Program)(C:ae)(F:List Nat)(base:Nat)(ops:Array Oper):List Oper→Nat→Env→aa→(Env→aa→Option α)→Option α
 | [],_,E,H,k=>k E H
 |o::r,j,E,H,k=>af (match o.guard with
   |none=>dV P C F base j E H o
   |some _=>gd (ee ops o E) (dV P C F base j E H o) H) λv H'=>Ck P C F base ops r (j+1) (E.put o.dst v) H' k
theorem Jw {α:Type}(P:Program)(C:ae)(F:List Nat)(base:Nat)(ops:Array Oper)(l:List Oper)(j:Nat)(E:Env)(H:aa)(k:Env→aa→Option α):Ck P C F base ops l j E H k=Bk P C F base ops l j E H k:=by
 induction l generalizing j E H with
 |nil=>rfl
 |cons o r ih=>simp only[Ck,Bk,ih];rfl
abbrev vO {α:Type}(P:Program)(C:ae)(F:List Nat)(base:Nat)(ops:Array Oper):List Oper→Nat→Env→aa→List (Env×aa)→(Env→aa→List (Env×aa)→Option α)→Option α
 | [],_,E,H,T,k=>k E H (T++[(E,H)])
 |o::r,j,E,H,T,k=>af (match o.guard with
   |none=>dV P C F base j E H o
   |some _=>gd (ee ops o E) (dV P C F base j E H o) H) λv H'=>vO P C F base ops r (j+1) (E.put o.dst v) H' (T++[(E,H)]) k
theorem Gs {α:Type}(P:Program)(C:ae)(F:List Nat)(base:Nat)(ops:Array Oper)(l:List Oper)(j:Nat)(E:Env)(H:aa)(T:List (Env×aa))(k:Env→aa→List (Env×aa)→Option α):vO P C F base ops l j E H T k=uh P C F base ops l j E H T k:=by
 induction l generalizing j E H T with
 |nil=>rfl
 |cons o r ih=>simp only[vO,uh,ih];rfl
abbrev xh {α:Type}(P:Program)(C:ae)(ops:Array Oper)(draw:Bool)(E:Env)(H:aa)(k:Env→aa→Option α):Option α:=
 if draw then
  match lS P ops with
  | []=>match mK P ops with
   | []=>Ew P C ops ops.toList E H k
   |cs=>Cj P C ops ops.toList E H [] λE' H' T=>if cs.all (je P ops T) then k E' H' else none
  |F=>pB F.length H λbase H=>match mK P ops with
   | []=>Ck P C F base ops ops.toList 0 E H k
   |cs=>vO P C F base ops ops.toList 0 E H [] λE' H' T=>if cs.all (je P ops T) then k E' H' else none
 else Ew P C ops ops.toList E H k
theorem Ex {α:Type}(P:Program)(C:ae)(ops:Array Oper)(draw:Bool)(E:Env)(H:aa)(k:Env→aa→Option α):xh P C ops draw E H k=sM P C ops draw E H k:=by
 simp only[xh,sM,Nf,Jv,Jw,Gs];rfl
inductive Mk:Type→Type 1 where
 |leaf {α:Type}:Mk α
 |seq {α:Type} (a b:Mk α):Mk α
 |rD {α:Type} (a:Mk α) (J:List Value→aa→Option α) (b:Mk α):Mk α
 |cond {α:Type} (a b:Mk α):Mk α
 |block {α:Type} (a:Mk α):Mk α
 |scope {α:Type} (a:Mk α):Mk α
 |loop {α:Type} (f:List Value→aa→aV) (a:Mk (bJ×List Value×aa)):Mk α
abbrev Jx (P:Program)(C:ae)(keep:List Nat)(n:Nat):{α:Type}→Code→List Value→aa→(bJ→List Value→aa→Option α)→Option α
 |_,.skip,vs,H,k=>k .normal vs H
 |_,.label _,vs,H,k=>k .normal vs H
 |_,.region _ ops draw,vs,H,k=>xh P C ops draw (keep.zip vs) H λE H'=>k .normal (keep.map E.get) H'
 |_,.seq a b,vs,H,k=>Jx P C keep n a vs H (Bn (λiM H'=>Jx P C keep n b iM H' k) k)
 |_,.cond c a b,vs,H,k=>aR (fa (keep.zip vs) c) (Jx P C keep n a vs H k) (Jx P C keep n b vs H k)
 |_,.block id c,vs,H,k=>Jx P C keep n c vs H (HN id k)
 |_,.loop c,vs,H,k=>cN (iter n (λvs H=>nm P C keep n c vs H fin) vs H) k
 |_,.exit id,vs,H,k=>k (.exit id) vs H
 |_,.scope c,vs,H,k=>Jx P C keep n c vs H k
 |_,.ret,vs,H,k=>k .ret vs H
 |_,.goto _,_,_,_=>none
 |_,.rangeFunc g ps x y,vs,H,k=>Bl (Cg P.funcs.size C (fa (keep.zip vs) g) ⟨keep,vs,ps,x,y⟩ H) λe H'=>k e vs H'
 |_,.refuse _,_,_,_=>none
theorem US (P:Program)(C:ae)(keep:List Nat)(n:Nat)(c:Code): ∀{α:Type} (vs:List Value) (H:aa) (k:bJ→List Value→aa→Option α),
  Jx P C keep n c vs H k=nm P C keep n c vs H k:=by
 induction c with
 |region p ops draw=>intros;simp only[Jx,nm,Ex]
 |seq a b Js Jt=>intros;simp only[Jx,nm,Js,Jt,xg]
 |cond c a b Js Jt=>intros;simp only[Jx,nm,Js,Jt]
 |block id c ih=>intros;simp only[Jx,nm,ih,Eu]
 |scope c ih=>intros;simp only[Jx,nm,ih]
 |_=>intros;rfl
abbrev Cm (P:Program)(C:ae)(keep:List Nat)(n:Nat):{α:Type}→Mk α→Code→List Value→aa→(bJ→List Value→aa→Option α)→Option α
 |_,.seq ma mb,.seq a b,vs,H,k=>Cm P C keep n ma a vs H (Bn (λiM H'=>Cm P C keep n mb b iM H' k) k)
 |_,.rD ma J _,.seq a _,vs,H,k=>Cm P C keep n ma a vs H (Bn J k)
 |_,.cond ma mb,.cond c a b,vs,H,k=>aR (fa (keep.zip vs) c) (Cm P C keep n ma a vs H k) (Cm P C keep n mb b vs H k)
 |_,.block ma,.block id c,vs,H,k=>Cm P C keep n ma c vs H (HN id k)
 |_,.scope ma,.scope c,vs,H,k=>Cm P C keep n ma c vs H k
 |_,.loop f _,.loop _,vs,H,k=>cN (iter n f vs H) k
 |_,_,c,vs,H,k=>Jx P C keep n c vs H k
def sN (P:Program)(C:ae)(keep:List Nat)(n:Nat):{α:Type}→Mk α→Code→(bJ→List Value→aa→Option α)→Prop
 |_,.seq ma mb,.seq a b,k=>sN P C keep n ma a (Bn (λiM H'=>Cm P C keep n mb b iM H' k) k)∧sN P C keep n mb b k
 |_,.rD ma J mb,.seq a b,k=>sN P C keep n ma a (Bn J k)∧sN P C keep n mb b k∧∀vs H,Cm P C keep n mb b vs H k=J vs H
 |_,.cond ma mb,.cond _ a b,k=>sN P C keep n ma a k∧sN P C keep n mb b k
 |_,.block ma,.block id c,k=>sN P C keep n ma c (HN id k)
 |_,.scope ma,.scope c,k=>sN P C keep n ma c k
 |_,.loop f ma,.loop c,_=>sN P C keep n ma c fin∧∀vs H,Cm P C keep n ma c vs H fin=f vs H
 |_,.leaf,_,_=>True
 |_,_,_,_=>False
theorem UT (P:Program)(C:ae)(keep:List Nat)(n:Nat){α:Type}(m:Mk α): ∀(c:Code) (vs:List Value) (H:aa) (k:bJ→List Value→aa→Option α),
  sN P C keep n m c k→Cm P C keep n m c vs H k=nm P C keep n c vs H k:=by
 induction m with
 |leaf=>intro c vs H k _;cases c<;>exact US ..
 |seq ma mb Js Jt=>
  intro c vs H k h;cases c with
  |seq a b=>
   obtain⟨h1,h2⟩:=h;simp only[Cm,nm];rw[Js a vs H _ h1];have:(λiM H'=>Cm P C keep n mb b iM H' k)=λiM H'=>nm P C keep n b iM H' k:=by funext iM H';exact Jt b iM H' k h2
   rw[this,xg]
  |_=>exact h.elim
 |rD ma J mb Js Jt=>
  intro c vs H k h;cases c with
  |seq a b=>
   obtain⟨h1,h2,h3⟩:=h;simp only[Cm,nm];rw[Js a vs H _ h1];have:J=λiM H'=>nm P C keep n b iM H' k:=by funext iM H';rw[←h3];exact Jt b iM H' k h2
   rw[←this,xg]
  |_=>exact h.elim
 |cond ma mb Js Jt=>
  intro c vs H k h;cases c with
  |cond c a b=>obtain⟨h1,h2⟩:=h;simp only[Cm,nm];rw[Js a vs H k h1,Jt b vs H k h2]
  |_=>exact h.elim
 |block ma ih=>
  intro c vs H k h;cases c with
  |block id c=>simp only[Cm,nm];rw[ih c vs H _ h,Eu]
  |_=>exact h.elim
 |scope ma ih=>
  intro c vs H k h;cases c with
  |scope c=>simp only[Cm,nm];exact ih c vs H k h
  |_=>exact h.elim
 |loop f ma ih=>
  intro c vs H k h;cases c with
  |loop c=>
   obtain⟨h1,h2⟩:=h;simp only[Cm,nm];have:f=λvs H=>nm P C keep n c vs H fin:=by funext vs H;rw[←h2];exact ih c vs H fin h1
   rw[←this]
  |_=>exact h.elim
theorem Cn {P:Program}{C:ae}{n:Nat}{fn:Func}{keep:List Nat}{c:Code}(hc:fn.body=some c)(m:Mk (Value×aa))(h:sN P C keep n m c (eG P fn.results.toList keep))(args:List Value)(H:aa):
  HL P C n fn keep args H=Cm P C keep n m c (keep.map λt=>args.getD t undef) H (eG P fn.results.toList keep):=by
 unfold HL;rw[hc];exact(UT P C keep n m c _ H _ h).symm
end Go.Proofs.YtjgmnoaalbbonaaGreatA.Am
end
section
open Go.RowKit
namespace Go.Proofs.YtjgmnoaalbbonaaGreatA.Am
variable {P:Program} {μ:Mu} {H H':aa} {w:World} {B:Nat}
theorem cQ.below {w':World}(h:cQ P μ H w B)(b:Below w.heap.size w w'):cQ P μ H w' B:=
 ⟨Nat.le_trans h.base b.size,λi c hi=>by
  obtain⟨l,hl,hb⟩:=h.ok i c hi;exact⟨l,hl,hb.heap (b.block _ hb.lt)⟩,h.z3,h.inj,h.own,h.cT.keep μ.le_refl (λ_ _ h=>h) (λk x hk _=>(b.block _ (Array.getElem?_eq_some_iff.1 hk).1).trans hk),h.vH⟩
theorem cQ.ro (h:cQ P μ H w B)(fC: ∀i b,H.get i=some b→b.ro=true){a o:Nat}{arr:Array Value}{ty:TypeId}{fz:Nat×Nat}(kj:w.heap[a]? =some (.cells arr ty fz))(cs:List Value)(t:TypeId)(MC:cs.all av=true)(hle:o+cs.length≤arr.size)(hv:dB μ cs ((arr.toList.drop o).take cs.length)):
  μ.le (μ.up H.length ⟨a,o,arr.size,1⟩)∧cQ P (μ.up H.length ⟨a,o,arr.size,1⟩) (H.new ⟨cs,t,1,true⟩) w B∧(∀i b,(H.new ⟨cs,t,1,true⟩).get i=some b→b.ro=true):=by
 have jW:=Mu.AV (l:=⟨a,o,arr.size,1⟩) (h.z3 H.length (Nat.le_refl _));have xi: ∀i b,(H.new ⟨cs,t,1,true⟩).get i=some b→b.ro=true:=by
  intro i b hb;rcases aa.ay hb with⟨rfl,rfl⟩|⟨hi,hb⟩
  ·rfl
  ·exact fC i b hb
 refine⟨jW,⟨h.base,?_,?_,?_,?_,h.cT.keep jW (λ_ _=>aa.vI) (λ_ _ h _=>h),λk hk=>by obtain⟨h1,h2⟩:=aa.rZ hk;rw[Mu.cZ (by omega)];exact h.vH k h1⟩,xi⟩
 ·intro i b hb;rcases aa.ay hb with⟨rfl,rfl⟩|⟨hi,hb⟩
  ·have h0:(true=false→fz=(0,0)):=λe=>by cases e
   exact⟨_,Mu.aH,rfl,MC,(λe=>by cases e),arr,ty,fz,kj,rfl,h0,hle,hv.mono jW⟩
  ·obtain⟨l,h1,h2⟩:=h.ok i b hb;exact⟨l,jW _ _ h1,h2.mono jW⟩
 ·intro i hi;rw[aa.jV] at hi;rw[Mu.cZ (by omega)];exact h.z3 i (by omega)
 ·intro i j b c l m hb hc hl hm DN fm;rw[xi i b hb] at fm;cases fm
 ·intro i b l hb fm hl;rw[xi i b hb] at fm;cases fm
theorem Ng {k:IntKind}{b off:Nat}{zs:List Int}(h: ∀j,j<zs.length→w.cell? ⟨b,off+j,none⟩=some (.int k (zs.getD j 0)))(hp:0<zs.length):
  ∃arr ty fz,w.heap[b]? =some (.cells arr ty fz)∧off+zs.length≤arr.size∧∀j,j<zs.length→arr[off+j]? =some (.int k (zs.getD j 0)):=by
 have h0:=h 0 hp;simp only[World.cell?] at h0;cases hb:w.heap[b]? with
 |none=>rw[hb] at h0;simp at h0
 |some ob=>
  cases ob with
  |cells arr ty fz=>
   have fC: ∀j,j<zs.length→arr[off+j]? =some (.int k (zs.getD j 0)):=by
    intro j hj;have:=h j hj
    simp only[World.cell?,hb] at this;simpa using this
   refine⟨arr,ty,fz,rfl,?_,fC⟩;have:=fC (zs.length-1) (by omega)
   have:=(Array.getElem?_eq_some_iff.1 this).1
   omega
  |_=>rw[hb] at h0;simp at h0
theorem dB.ints {k:IntKind}{arr:Array Value}{off:Nat}{zs:List Int}(h: ∀j,j<zs.length→arr[off+j]? =some (.int k (zs.getD j 0)))(n:Nat)(hn:n≤zs.length):
  dB μ ((zs.take n).map (.int k)) ((arr.toList.drop off).take ((zs.take n).map (Value.int k)).length):=by
 have hl:((zs.take n).map (Value.int k)).length=n:=by simp;omega
 rw[hl];have e:(arr.toList.drop off).take n=(zs.take n).map (Value.int k):=by
  apply List.ext_getElem?;intro j;by_cases hj:j<n
  ·rw[List.getElem?_take,if_pos hj,List.getElem?_drop,List.getElem?_map,List.getElem?_take,if_pos hj];have:=h j (by omega)
   rw[Array.getElem?_toList,this];rw[List.getElem?_eq_getElem (by omega)]
   simp[List.getD_eq_getElem?_getD,List.getElem?_eq_getElem (show j<zs.length by omega)]
  ·rw[List.getElem?_take,if_neg hj,List.getElem?_map,List.getElem?_take,if_neg hj];rfl
 rw[e];exact⟨rfl,λj u hj=>⟨u,hj,.plain _ (by
  rw[List.getElem?_map] at hj;cases hx:(zs.take n)[j]? with
  |none=>rw[hx] at hj;cases hj
  |some x=>rw[hx] at hj;cases hj;rfl)⟩⟩
theorem cQ.ints (h:cQ P μ H w B)(fC: ∀i b,H.get i=some b→b.ro=true){k:IntKind}{b off len cap:Nat}{zs:List Int}(hle:len≤zs.length)(rp:zs.length=cap)(hp:0<cap)(hc: ∀j,j<zs.length→w.cell? ⟨b,off+j,none⟩=some (.int k (zs.getD j 0)))(t:TypeId):
  ∃μ',μ.le μ'∧cQ P μ' (H.new ⟨(zs.take len).map (.int k),t,1,true⟩) w B∧(∀i c,(H.new ⟨(zs.take len).map (.int k),t,1,true⟩).get i=some c→c.ro=true)∧
   VR μ' (.slice (some ⟨H.length,0,none⟩) len len) (.slice (some ⟨b,off,none⟩) len cap):=by
 obtain⟨arr,ty,fz,kj,nA,aaf⟩:=Ng hc (by omega)
 have hl:((zs.take len).map (Value.int k)).length=len:=by simp;omega
 obtain⟨h1,h2,h3⟩:=h.ro fC kj ((zs.take len).map (.int k)) t (List.all_eq_true.2 λv hv=>by obtain⟨x,_,rfl⟩:=List.mem_map.1 hv;rfl) (by rw[hl];omega) (dB.ints aaf len hle)
 refine⟨_,h1,h2,h3,?_⟩;have:=VR.slice (μ:=μ.up H.length ⟨b,off,arr.size,1⟩) H.length 0 len len cap ⟨b,off,arr.size,1⟩ Mu.aH (Nat.le_refl _) (by omega) (by simp;omega)
 simpa using this
theorem get_none {i:Nat}:aa.get (H++[.dead]) i=H.get i:=by
 unfold aa.get;by_cases h:i<H.length
 ·rw[List.getElem?_append_left h]
 ·rw[List.getElem?_append_right (by omega),List.getElem?_eq_none (show H.length≤i by omega)]
  by_cases h2:i-H.length=0
  ·rw[h2];rfl
  ·rw[List.getElem?_eq_none (by simp;omega)]
theorem Nh {i:Nat}:aa.cT (H++[.dead]) i=H.cT i:=by
 unfold aa.cT;by_cases h:i<H.length
 ·rw[List.getElem?_append_left h]
 ·rw[List.getElem?_append_right (by omega),List.getElem?_eq_none (show H.length≤i by omega)]
  by_cases h2:i-H.length=0
  ·rw[h2];rfl
  ·rw[List.getElem?_eq_none (by simp;omega)]
theorem cQ.none (h:cQ P μ H w B)(fC: ∀i b,H.get i=some b→b.ro=true)(a:Addr):
  cQ P μ (H++[.dead]) w B∧(∀i b,aa.get (H++[.dead]) i=some b→b.ro=true)∧VR μ (.slice (some ⟨H.length,0,none⟩) 0 0) (.slice (some a) 0 0):=by
 refine⟨⟨h.base,λi b hb=>h.ok i b (by rwa [get_none] at hb),λi hi=>h.z3 i (by simp at hi;omega),λi j b c l m hb hc=>?_,λi b l hb=>?_,h.cT.keep μ.le_refl (λi o hi=>by rwa [Nh] at hi) (λ_ _ h _=>h),λk hk=>h.vH k (by
  by_cases e:k<H.length
  ·rwa [List.getElem?_append_left e] at hk
  ·have hl:=(List.getElem?_eq_some_iff.1 hk).1;have:k=H.length:=by simp at hl;omega
   subst this;simp at hk)⟩,λi b hb=>fC i b (by rwa [get_none] at hb),.mj _ _ _⟩
 ·rw[get_none] at hb hc;exact h.inj i j b c l m hb hc
 ·rw[get_none] at hb;exact h.own i b l hb
end Go.Proofs.YtjgmnoaalbbonaaGreatA.Am
end
section
open Go.RowKit Go.WideShapes Go.ChangeShapes
namespace Go.Proofs.YtjgmnoaalbbonaaGreatA.Am
variable {P:Program} {μ:Mu} {H:aa} {w:World} {B:Nat}
def jL (H:aa):Prop:=∀i b,H.get i=some b→b.ro=true
def kp (P:Program)(ok:TypeId→Bool):List Field→Nat→Option Nat
 | [],o=>some o
 |f::r,o=>if f.offset=o∧ok f.type=true then kp P ok r (o+P.cellsOf f.type) else none
def ui (P:Program):Nat→TypeId→Bool
 |0,_=>false
 |f+1,t=>match P.underlying t with
  |some .bool=>true
  |some (.int _)=>true
  |some .string=>true
  |some (.struct fs)=>kp P (ui P f) fs.toList 0==some (P.cellsOf t)
  |some (.slice e)=>decide (0<P.cellsOf e)&&ui P f e
  |_=>false
def jx (P:Program)(q:TypeId→List Value→Prop):List Field→List Value→Prop
 | [],cs=>cs=[]
 |f::r,cs=>∃a b,cs=a++b∧a.length=P.cellsOf f.type∧q f.type a∧jx P q r b
def In (P:Program)(H:aa):Nat→TypeId→List Value→Prop
 |0,_,_=>False
 |f+1,t,cs=>match P.underlying t with
  |some .bool=>∃b,cs=[.bool b]
  |some (.int k)=>∃n,cs=[.int k n]∧(Lit.int k n).wf=true
  |some .string=>∃s:ByteArray,cs=[.string s]∧s.size≤maxLen
  |some (.struct fs)=>jx P (In P H f) fs.toList cs
  |some (.slice e)=>cs=[.slice none 0 0]∨∃(i:Nat) (es:List (List Value)),cs=[.slice (some ⟨i,0,none⟩) es.length es.length]∧es.length≤maxLen∧
    (0<es.length→H.get i=some ⟨es.flatten,e,P.cellsOf e,true⟩)∧∀x,x∈es→x.length=P.cellsOf e∧In P H f e x
  |_=>False
theorem QE {T:aa}{i:Nat}{b:eu}(h:H.get i=some b):aa.get (H++T) i=some b:=by
 have:=aa.an h
 unfold aa.get at h ⊢;rw[List.getElem?_append_left this];exact h
theorem jx.mono {q q':TypeId→List Value→Prop}(h: ∀t cs,q t cs→q' t cs): ∀(fs:List Field) (cs:List Value),jx P q fs cs→jx P q' fs cs
 | [],_,k=>k
 |_::r,_,⟨a,b,e,l,x,y⟩=>⟨a,b,e,l,h _ _ x,jx.mono h r b y⟩
theorem In.mono {T:aa}: ∀(f:Nat) (t:TypeId) (cs:List Value),In P H f t cs→In P (H++T) f t cs:=by
 intro f;induction f with
 |zero=>intro t cs h;exact h
 |succ f ih=>
  intro t cs h;unfold In at h ⊢;split<;>simp_all only
  ·exact jx.mono ih _ _ h
  ·rcases h with h|⟨i,es,h1,h2,h3,h4⟩
   ·exact .inl h
   ·exact .inr ⟨i,es,h1,h2,λhp=>QE (h3 hp),λx hx=>⟨(h4 x hx).1,ih _ _ (h4 x hx).2⟩⟩
variable {A:Type} {enc:TypeId×Value→A} {held:Bool}
abbrev Rd (enc:TypeId×Value→A)(P:Program)(w:World)(held:Bool):=DataW.trod enc P w 0 (λ_=>true) held
def Got (P:Program)(w:World)(B:Nat)(μ:Mu)(H:aa)(f:Nat)(t:TypeId)(cs:List Value):Prop:=
 ∃μ' T HO,μ.le μ'∧cQ P μ' (H++T) w B∧jL (H++T)∧dB μ' HO cs∧HO.all av=true∧In P (H++T) f t HO
def Ni (enc:TypeId×Value→A)(P:Program)(w:World)(held:Bool)(B f:Nat):Prop:=
 ∀t fuel cs x μ H,ui P f t=true→Rd enc P w held fuel t cs=some x→cQ P μ H w B→jL H→Got P w B μ H f t cs
theorem nI {f:Nat}{t:TypeId}{v:Value}(hp:bY v=true)(ho:av v=true)(hS:cQ P μ H w B)(hr:jL H)(hi:In P H f t [v]):Got P w B μ H f t [v]:=
 ⟨μ,[],[v],μ.le_refl,by simpa using hS,by simpa using hr,.cons (.plain _ hp) .nil,by simp[ho],by simpa using hi⟩
theorem Ey {f:Nat}(L:Ni enc P w held B f){n:Nat}{cs:List Value}: ∀(fs:List Field) (o:Nat) (μ:Mu) (H:aa),kp P (ui P f) fs o=some cs.length→
  (∀fd∈fs,∃x,Rd enc P w held n fd.type ((cs.drop fd.offset).take (P.cellsOf fd.type))=some x)→cQ P μ H w B→jL H→
  ∃μ' T HO,μ.le μ'∧cQ P μ' (H++T) w B∧jL (H++T)∧dB μ' HO (cs.drop o)∧HO.all av=true∧jx P (In P (H++T) f) fs HO:=by
 intro fs;induction fs with
 |nil=>
  intro o μ H ho _ hS hr;simp only[kp] at ho;cases ho;exact⟨μ,[],[],μ.le_refl,by simpa using hS,by simpa using hr,by simpa using dB.nil,rfl,rfl⟩
 |cons fd r ih=>
  intro o μ H ho hx hS hr;simp only[kp] at ho;split at ho
  ·rename_i hc;obtain⟨rfl,fP⟩:=hc;obtain⟨x,B9⟩:=hx fd (List.mem_cons_self ..);obtain⟨μ1,T1,a1,l1,s1,r1,v1,o1,i1⟩:=L _ _ _ _ μ H fP B9 hS hr;obtain⟨μ2,T2,a2,l2,s2,r2,v2,o2,i2⟩:=ih _ μ1 (H++T1) ho (λfd' h'=>hx fd' (List.mem_cons_of_mem _ h')) s1 r1
   have hlen:(cs.drop fd.offset).take (P.cellsOf fd.type)++cs.drop (fd.offset+P.cellsOf fd.type)=cs.drop fd.offset:=by
    rw[←List.drop_drop,List.take_append_drop]
   have Qy:a1.length=P.cellsOf fd.type:=by
    have h1:=v1.1;have h2:=hlen;have:fd.offset+P.cellsOf fd.type≤cs.length:=by
     have key: ∀(fs:List Field) (o:Nat) m,kp P (ui P f) fs o=some m→o≤m:=by
      intro fs;induction fs with
      |nil=>intro o m h;simp only[kp] at h;cases h;exact Nat.le_refl _
      |cons g r ih=>
       intro o m h;simp only[kp] at h;split at h
       ·have:=ih _ _ h;omega
       ·cases h
     exact key _ _ _ ho
    rw[h1];simp;omega
   refine⟨μ2,T1++T2,a1++a2,Mu.le_trans l1 l2,by rw[←List.append_assoc];exact s2,by rw[←List.append_assoc];exact r2,?_,by simp[o1,o2],a1,a2,rfl,Qy,?_,?_⟩
   ·rw[←hlen];exact(v1.mono l2).append v2
   ·rw[←List.append_assoc];exact In.mono _ _ _ i1
   ·rw[←List.append_assoc];exact i2
  ·cases ho
theorem Gt {f:Nat}(L:Ni enc P w held B f){n:Nat}{e:TypeId}(fP:ui P f e=true): ∀(css:List (List Value)) (μ:Mu) (H:aa),(∀cs∈css,(∃x,Rd enc P w held n e cs=some x)∧cs.length=P.cellsOf e)→cQ P μ H w B→jL H→
  ∃(μ':Mu) (T:aa) (es:List (List Value)),μ.le μ'∧cQ P μ' (H++T) w B∧jL (H++T)∧es.length=css.length∧dB μ' es.flatten css.flatten∧es.flatten.all av=true∧∀x,x∈es→x.length=P.cellsOf e∧In P (H++T) f e x:=by
 intro css;induction css with
 |nil=>intro μ H _ hS hr;exact⟨μ,[],[],μ.le_refl,by simpa using hS,by simpa using hr,rfl,by simpa using dB.nil,rfl,λx hx=>by cases hx⟩
 |cons cs r ih=>
  intro μ H hx hS hr;obtain⟨⟨x,B9⟩,hl⟩:=hx cs (List.mem_cons_self ..);obtain⟨μ1,T1,a1,l1,s1,r1,v1,o1,i1⟩:=L _ _ _ _ μ H fP B9 hS hr;obtain⟨μ2,T2,es,l2,s2,r2,n2,v2,o2,i2⟩:=ih μ1 (H++T1) (λc h'=>hx c (List.mem_cons_of_mem _ h')) s1 r1
  refine⟨μ2,T1++T2,a1::es,Mu.le_trans l1 l2,by rw[←List.append_assoc];exact s2,by rw[←List.append_assoc];exact r2,by simp[n2],?_,by simp only[List.flatten_cons,List.all_append,o1,o2,Bool.and_self],?_⟩
  ·simp only[List.flatten_cons];exact(v1.mono l2).append v2
  ·intro y hy;rcases List.mem_cons.1 hy with rfl|hy
   ·exact⟨by rw[v1.1,hl],by rw[←List.append_assoc];exact In.mono _ _ _ i1⟩
   ·rw[←List.append_assoc];exact i2 y hy
theorem cQ.ro' (h:cQ P μ H w B)(fC:jL H){a o es:Nat}{arr:Array Value}{ty:TypeId}{fz:Nat×Nat}(kj:w.heap[a]? =some (.cells arr ty fz))(cs:List Value)(t:TypeId)(MC:cs.all av=true)(hle:o+cs.length≤arr.size)(hv:dB μ cs ((arr.toList.drop o).take cs.length)):
  μ.le (μ.up H.length ⟨a,o,arr.size,es⟩)∧cQ P (μ.up H.length ⟨a,o,arr.size,es⟩) (H++[.jD ⟨cs,t,es,true⟩]) w B∧jL (H++[.jD ⟨cs,t,es,true⟩]):=by
 have jW:=Mu.AV (l:=⟨a,o,arr.size,es⟩) (h.z3 H.length (Nat.le_refl _));have xi:jL (H.new ⟨cs,t,es,true⟩):=by
  intro i b hb;rcases aa.ay hb with⟨rfl,rfl⟩|⟨hi,hb⟩
  ·rfl
  ·exact fC i b hb
 refine⟨jW,⟨h.base,?_,?_,?_,?_,h.cT.keep jW (λ_ _=>aa.vI) (λ_ _ h _=>h),λk hk=>by obtain⟨h1,h2⟩:=aa.rZ hk;rw[Mu.cZ (by omega)];exact h.vH k h1⟩,xi⟩
 ·intro i b hb;rcases aa.ay hb with⟨rfl,rfl⟩|⟨hi,hb⟩
  ·have h0:(true=false→fz=(0,0)):=λe=>by cases e
   exact⟨_,Mu.aH,rfl,MC,(λe=>by cases e),arr,ty,fz,kj,rfl,h0,hle,hv.mono jW⟩
  ·obtain⟨l,h1,h2⟩:=h.ok i b hb;exact⟨l,jW _ _ h1,h2.mono jW⟩
 ·intro i hi;have hi:(H.new ⟨cs,t,es,true⟩).length≤i:=hi;rw[aa.jV] at hi;rw[Mu.cZ (by omega)];exact h.z3 i (by omega)
 ·intro i j b c l m hb hc hl hm DN fm;rw[xi i b hb] at fm;cases fm
 ·intro i b l hb fm hl;rw[xi i b hb] at fm;cases fm
theorem Ez {b off sz j:Nat}{cs:List Value}(h:w.cells? 0 (Addr.add ⟨b,off,none⟩ (j*sz)) sz=some cs)(nA:0<sz):
  ∃arr ty fz,w.heap[b]? =some (.cells arr ty fz)∧off+(j+1)*sz≤arr.size∧(arr.toList.drop (off+j*sz)).take sz=cs:=by
 obtain⟨_,hl,hc⟩:=World.cells?_some h;have h0: ∀i,i<sz→w.cell? ⟨b,off+j*sz+i,none⟩=cs[i]? :=by
  intro i hi;rw[←hc i hi,add_plain,add_plain]
 have h1:=h0 0 nA;rw[List.getElem?_eq_getElem (by omega)] at h1
 simp only[World.cell?] at h1;cases hb:w.heap[b]? with
 |none=>rw[hb] at h1;simp at h1
 |some ob=>
  cases ob with
  |cells arr ty fz=>
   have fC: ∀i,i<sz→arr[off+j*sz+i]? =cs[i]? :=by
    intro i hi;have:=h0 i hi
    simp only[World.cell?,hb] at this;simpa using this
   refine⟨arr,ty,fz,rfl,?_,?_⟩
   ·have:=fC (sz-1) (by omega)
    rw[List.getElem?_eq_getElem (by omega)] at this
    have:=(Array.getElem?_eq_some_iff.1 this).1
    rw[Nat.succ_mul];omega
   ·apply List.ext_getElem?;intro i;by_cases hi:i<sz
    ·rw[List.getElem?_take,if_pos hi,List.getElem?_drop,Array.getElem?_toList,fC i hi]
    ·rw[List.getElem?_take,if_neg hi,List.getElem?_eq_none (by omega)]
  |_=>rw[hb] at h1;simp at h1
theorem Gu {arr:List Value}{off sz:Nat}(g:Nat→List Value): ∀n,(∀j,j<n→(arr.drop (off+j*sz)).take sz=g j)→
  ((List.range n).map g).flatten=(arr.drop off).take (n*sz):=by
 intro n;induction n with
 |zero=>intro _;simp
 |succ n ih=>
  intro h;rw[List.range_succ,List.map_append,List.flatten_append,ih (λj hj=>h j (by omega))]
  simp only[List.map_cons,List.map_nil,List.flatten_cons,List.flatten_nil,List.append_nil];rw[←h n (by omega),Nat.succ_mul,List.take_add,List.drop_drop]
theorem aag: ∀f,Ni enc P w held B f:=by
 intro f;induction f with
 |zero=>intro t fuel cs x μ H h;simp[ui] at h
 |succ f ih=>
  intro t fuel cs x μ H fP hx hS hr;simp only[ui] at fP;split at fP
  ·rename_i ht;obtain⟨b,rfl,_⟩:=DataW.trod_bool ht hx;exact nI rfl rfl hS hr (by simp[In,ht])
  ·rename_i k ht;obtain⟨n,rfl,_,hw⟩:=DataW.trod_int ht hx;exact nI rfl rfl hS hr (by simp[In,ht,hw])
  ·rename_i ht;obtain⟨s,rfl,_,hw⟩:=DataW.trod_string ht hx;exact nI rfl rfl hS hr (by simp[In,ht,hw])
  ·rename_i fs ht;obtain⟨xs,n,rfl,rfl,hl,Mv,hf⟩:=DataW.trod_struct ht hx;rw[←hl] at fP;obtain⟨μ',T,HO,h1,h2,h3,h4,h5,h6⟩:=Ey ih fs.toList 0 μ H (by simpa using fP) (λfd hfd=>by
    obtain⟨i,hi⟩:=List.getElem?_of_mem hfd;have vK:fs[i]? =some fd:=by simpa using hi
    have:=hf i fd vK
    have eR:i<xs.length:=by rw[Mv];exact(Array.getElem?_eq_some_iff.1 vK).1
    rw[List.getElem?_eq_getElem eR] at this;exact⟨_,this⟩) hS hr
   exact⟨μ',T,HO,h1,h2,h3,by simpa using h4,h5,by simp only[In,ht];exact h6⟩
  ·rename_i e ht;simp only[Bool.and_eq_true,decide_eq_true_eq] at fP;obtain⟨nA,aca⟩:=fP;rcases DataW.trod_slice ht hx with⟨rfl,_⟩|⟨a,len,cap,elems,rest,n,rfl,rfl,rfl,_,Ja,hcm,Mw,he,MD,_⟩
   ·exact nI rfl rfl hS hr (by simp[In,ht])
   ·obtain⟨hrl,M9⟩:=MD rfl;have each: ∀j,j<cap→∃cs,w.cells? 0 (a.add (j*P.cellsOf e)) (P.cellsOf e)=some cs∧∃x,Rd enc P w held n e cs=some x:=by
     intro j hj;by_cases z9:j<len
     ·have:=he j z9
      rw[List.getElem?_eq_getElem (by omega),Option.bind_eq_some_iff] at this
      obtain⟨cs,h1,h2⟩:=this;exact⟨cs,h1,_,h2⟩
     ·have:=M9 (j-len) (by omega)
      rw[List.getElem?_eq_getElem (by omega),show len+(j-len)=j by omega,Option.bind_eq_some_iff] at this
      obtain⟨cs,h1,h2⟩:=this;exact⟨cs,h1,_,h2⟩
    by_cases hc:cap=0
    ·subst hc;obtain rfl:len=0:=by omega
     obtain⟨s1,s2,s3⟩:=cQ.none hS hr a;refine⟨μ,[.dead],[.slice (some ⟨H.length,0,none⟩) 0 0],μ.le_refl,s1,s2,.cons s3 .nil,rfl,?_⟩;simp only[In,ht];exact .inr ⟨H.length,[],rfl,by simp,λh=>by simp at h,λx hx=>by cases hx⟩
    ·have TA:a.spot=none:=by
      obtain⟨cs,h1,_⟩:=each 0 (by omega)
      obtain⟨_,hl,uQ⟩:=World.cells?_some h1;have:=uQ 0 nA
      rw[List.getElem?_eq_getElem (by omega)] at this
      simpa[Addr.add] using World.cell?_spot this
     obtain⟨b,off,spot⟩:=a;simp only at TA;subst TA;obtain⟨arr,ty,fz,kj,Hu,_⟩:=Ez (each (cap-1) (by omega)).choose_spec.1 nA
     rw[show cap-1+1=cap by omega] at Hu
     let g:Nat→List Value:=λj=>(w.cells? 0 (Addr.add ⟨b,off,none⟩ (j*P.cellsOf e)) (P.cellsOf e)).getD []
     have hg: ∀j,j<cap→w.cells? 0 (Addr.add ⟨b,off,none⟩ (j*P.cellsOf e)) (P.cellsOf e)=some (g j):=by
      intro j hj;obtain⟨cs,h1,_⟩:=each j hj;show _=some ((w.cells? 0 _ _).getD [])
      rw[h1];rfl
     have hrd: ∀j,j<cap→(∃x,Rd enc P w held n e (g j)=some x)∧(g j).length=P.cellsOf e:=by
      intro j hj;obtain⟨cs,h1,h2⟩:=each j hj;have:=hg j hj
      rw[h1] at this;cases this;exact⟨h2,(World.cells?_some h1).2.1⟩
     obtain⟨μ1,T1,es,l1,s1,r1,n1,v1,o1,i1⟩:=Gt ih aca ((List.range len).map g) μ H (λcs lK=>by
      obtain⟨j,hj,rfl⟩:=List.mem_map.1 lK;exact hrd j (by have:=List.mem_range.1 hj;omega)) hS hr
     simp only[List.length_map,List.length_range] at n1;have FC:((List.range len).map g).flatten=(arr.toList.drop off).take (len*P.cellsOf e):=by
      refine Gu g len ?_;intro j hj;obtain⟨adR,Co,fz',TB,_,h3⟩:=Ez (hg j (by omega)) nA
      rw[kj] at TB;cases TB;exact h3
     have aah:len*P.cellsOf e≤cap*P.cellsOf e:=Nat.mul_le_mul_right _ Ja;have hln:es.flatten.length=len*P.cellsOf e:=by
      rw[v1.1,FC];simp;omega
     obtain⟨q1,q2,q3⟩:=cQ.ro' (es:=P.cellsOf e) s1 r1 kj es.flatten e o1 (show off+es.flatten.length≤arr.size by omega) (by rw[hln, ←FC];exact v1)
     refine⟨_,T1++[.jD ⟨es.flatten,e,P.cellsOf e,true⟩],[.slice (some ⟨(H++T1).length,0,none⟩) len len],Mu.le_trans l1 q1,by rw[←List.append_assoc];exact q2,by rw[←List.append_assoc];exact q3,?_,rfl,?_⟩
     ·refine .cons ?_ .nil;have:=VR.slice (μ:=μ1.up (H++T1).length ⟨b,off,arr.size,P.cellsOf e⟩) (H++T1).length 0 len len cap ⟨b,off,arr.size,P.cellsOf e⟩ Mu.aH (Nat.le_refl _) Ja (by simpa using Hu)
      simpa using this
     ·simp only[In,ht];refine .inr ⟨(H++T1).length,es,by rw[n1],by omega,λ_=>?_,λx hx=>⟨(i1 x hx).1,?_⟩⟩
      ·rw[←List.append_assoc];exact aa.iD (H:=H++T1) (b:=⟨es.flatten,e,P.cellsOf e,true⟩)
      ·rw[←List.append_assoc];exact In.mono _ _ _ (i1 x hx).2
  ·cases fP
def lB (P:Program)(H:aa)(f:Nat)(t:TypeId)(v:Value):Prop:=
 ∃cs,In P H f t cs∧match P.underlying t with
  |some (.struct _)=>v= .agg cs.toArray
  |_=>cs=[v]
def nJ (P:Program)(H:aa)(f:Nat):List TypeId→List Value→Prop
 | [],vs=>vs=[]
 |t::ts,vs=>∃v r,vs=v::r∧lB P H f t v∧nJ P H f ts r
theorem nJ.mono {T:aa}{f:Nat}: ∀(ts:List TypeId) (vs:List Value),nJ P H f ts vs→nJ P (H++T) f ts vs
 | [],_,h=>h
 |_::ts,_,⟨v,r,e,⟨cs,h1,h2⟩,h3⟩=>⟨v,r,e,⟨cs,In.mono _ _ _ h1,h2⟩,nJ.mono ts r h3⟩
theorem xj {v:Value}(h: ∀cs,v≠ .agg cs):v.cells.toList=[v]:=by
 cases v<;>first|rfl| (exact absurd rfl (h _))
theorem Nj {r:Reach}{b0:Nat}{f:Nat}{t:TypeId}{v:Value}{d:DataW A}{ps:List MemPlace}(fP:ui P f t=true)(pz:Value.okWide P w r b0 t v)(hd:DataW.Trod enc P w 0 (λ_=>true) held t v d ps)(hS:cQ P μ H w B)(hr:jL H): ∃μ' T a,μ.le μ'∧cQ P μ' (H++T) w B∧jL (H++T)∧VR μ' a v∧lB P (H++T) f t a:=by
 obtain⟨fuel,hf⟩:=hd;obtain⟨μ',T,HO,h1,h2,h3,h4,h5,h6⟩:=aag f _ _ _ _ μ H fP hf hS hr;have single:(∀fs,P.underlying t≠some (.struct fs))→(∀cs,v≠ .agg cs)→∃μ' T a,μ.le μ'∧cQ P μ' (H++T) w B∧jL (H++T)∧VR μ' a v∧lB P (H++T) f t a:=by
  intro hns hna;rw[xj hna] at h4;obtain⟨a,rfl⟩: ∃a,HO=[a]:=by
   have:=h4.1
   match HO,this with
   | [a],_=>exact⟨a,rfl⟩
  obtain⟨b,y,e,h7,h8⟩:=h4.fS;cases e;refine⟨μ',T,a,h1,h2,h3,h7,[a],h6,?_⟩;split
  ·rename_i fs e;exact absurd e (hns _)
  ·rfl
 cases f with
 |zero=>simp[ui] at fP
 |succ f=>
  simp only[ui] at fP;split at fP
  ·rename_i ht;obtain⟨b,rfl⟩:=okWide_bool ht pz;exact single (by simp[ht]) (by simp)
  ·rename_i k ht;obtain⟨n,rfl⟩:=okWide_int ht pz;exact single (by simp[ht]) (by simp)
  ·rename_i ht;obtain⟨s,rfl⟩:=okWide_string ht pz;exact single (by simp[ht]) (by simp)
  ·rename_i fs ht;unfold Value.okWide at pz;rw[ht] at pz;obtain⟨cs,rfl,_⟩:=pz;refine⟨μ',T,.agg HO.toArray,h1,h2,h3,dB.agg (by simpa[Value.cells] using h4),HO,h6,by rw[ht]⟩
  ·rename_i e ht;obtain⟨a,len,cap,rfl⟩:=okWide_slice ht pz;exact single (by simp[ht]) (by simp)
  ·cases fP
theorem Jy {r:Reach}{b0:Nat}{f:Nat}: ∀(ts:List TypeId) (vs:List Value) (ds:List (DataW A)) (ps:List MemPlace) (μ:Mu) (H:aa),(ts.all (ui P f))=true→
  (∀(j:Nat) t v,ts[j]? =some t→vs[j]? =some v→Value.okWide P w r b0 t v)→DataW.TrodAll enc P w 0 (λ_=>true) held ts vs ds ps→cQ P μ H w B→jL H→
  ∃μ' T as,μ.le μ'∧cQ P μ' (H++T) w B∧jL (H++T)∧dB μ' as vs∧nJ P (H++T) f ts as:=by
 intro ts;induction ts with
 |nil=>
  intro vs ds ps μ H _ _ h hS hr;obtain⟨rfl,_,_⟩:=trodAll_nil h;exact⟨μ,[],[],μ.le_refl,by simpa using hS,by simpa using hr,.nil,rfl⟩
 |cons t ts ih=>
  intro vs ds ps μ H fP pz h hS hr;simp only[List.all_cons,Bool.and_eq_true] at fP;obtain⟨v,iM,d,ds',p,q,rfl,rfl,rfl,h1,h2⟩:=trodAll_cons h;obtain⟨μ1,T1,a,l1,s1,r1,v1,i1⟩:=Nj fP.1 (pz 0 t v rfl rfl) h1 hS hr;obtain⟨μ2,T2,as,l2,s2,r2,v2,i2⟩:=ih iM ds' q μ1 (H++T1) fP.2 (λj t' v' e1 e2=>pz (j+1) t' v' (by simpa using e1) (by simpa using e2)) h2 s1 r1
  refine⟨μ2,T1++T2,a::as,Mu.le_trans l1 l2,by rw[←List.append_assoc];exact s2,by rw[←List.append_assoc];exact r2,.cons (v1.mono l2) v2,a,as,rfl,?_,?_⟩
  ·obtain⟨cs,k1,k2⟩:=i1;exact⟨cs,by rw[←List.append_assoc];exact In.mono _ _ _ k1,k2⟩
  ·rw[←List.append_assoc];exact i2
theorem Jz (hl:laidOutB P=true): ∀(ts:List TypeId) (vs:List Value) (ds:List (DataW A)) (ps:List MemPlace) {W':World},(ts.all λt=>P.readableRec t&&decide (t<P.types.size))=true→
  DataW.TrodAll enc P w 0 (λ_=>true) true ts vs ds ps→Below w.heap.size w W'→(∀x∈ps,x.block<w.heap.size)→
  DataW.TrodAll enc P W' 0 (λb=>decide (b<w.heap.size)) true ts vs ds ps:=by
 intro ts;induction ts with
 |nil=>
  intro vs ds ps W' _ h _ _;obtain⟨rfl,rfl,rfl⟩:=trodAll_nil h;exact trodAll_mk0
 |cons t ts ih=>
  intro vs ds ps W' fP h hb eR;simp only[List.all_cons,Bool.and_eq_true,decide_eq_true_eq] at fP;obtain⟨v,iM,d,ds',p,q,rfl,rfl,rfl,h1,h2⟩:=trodAll_cons h;exact trodAll_cons_mk (Below.trod hl fP.1.1 fP.1.2 h1 hb λx hx=>eR x (List.mem_append_left _ hx)) (ih iM ds' q fP.2 h2 hb λx hx=>eR x (List.mem_append_right _ hx))
def TC (P:Program)(f:FuncId)(ts:List TypeId):Prop:=
 ∀W:World,∀H args μ,jL H→nJ P H 9 ts args→cQ P μ H W W.heap.size→∀vs,dB μ args vs→
  Calls P f vs.toArray W λe W'=>e= .returned (.bool true)∧Below W.heap.size W W'
theorem TC.walk {f:FuncId}{ts:List TypeId}(h:TC P f ts)(fP:(ts.all (ui P 9))=true){r:Reach}{b0:Nat}{vs:List Value}{ds:List (DataW A)}{ps:List MemPlace}(pz: ∀(j:Nat) t v,ts[j]? =some t→vs[j]? =some v→Value.okWide P w r b0 t v)(hA:DataW.TrodAll enc P w 0 (λ_=>true) held ts vs ds ps):
  Calls P f vs.toArray w λe W'=>e= .returned (.bool true)∧Below w.heap.size w W':=by
 obtain⟨μ,T,as,_,s,r,v,i⟩:=Jy ts vs ds ps (λ_=>none) [] fP pz hA (cQ.empty w) (λi b h=>by simp[aa.get] at h)
 exact h w ([]++T) as μ r i s vs v
end Go.Proofs.YtjgmnoaalbbonaaGreatA.Am
end
