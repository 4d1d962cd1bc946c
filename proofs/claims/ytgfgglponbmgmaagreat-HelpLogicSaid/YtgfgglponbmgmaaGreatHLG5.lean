/- Texts of the proof of helpLogic_holds, put together by a small program of ours (names shortened, spaces taken out). No condition beyond the given statement. -/
import Derived.Test.YtgfgglponbmgmaaGreatHLG1
import Derived.Test.YtgfgglponbmgmaaGreatHLG4
import Derived.OrdersIn
import Derived.TacticsIn
import Derived.Sort.LoopGhostIn
import Derived.RangeFuncIn
import Derived.RangeFuncSeq
import Derived.RangeFuncRecord
set_option linter.unusedVariables false
set_option linter.unusedSimpArgs false
set_option linter.unnecessarySimpa false
noncomputable section
section
namespace Go.Proofs.YtgfgglponbmgmaaGreatA.Am
variable {P:Program} {H H':aa} {i:Nat} {b:eM}
def bX (H:aa)(i:Nat):Prop:=H[i]? =some .hole
def aa.lay (H:aa)(i:Nat)(b:eM):aa:=H.set i (.y7 b)
theorem bX.lt (h:bX H i):i<H.length:=(List.getElem?_eq_some_iff.1 h).1
theorem bX.get (h:bX H i):H.get i=none:=by unfold aa.get;rw[h]
theorem bX.dT (h:bX H i):H.dT i=none:=by unfold aa.dT;rw[h]
@[simp] theorem jI:(H.lay i b).length=H.length:=by simp[aa.lay]
theorem pb (hf:bX H i){j:Nat}{c:eM}(h:H.get j=some c):(H.lay i b).get j=some c:=by
 have e:j≠i:=by rintro rfl;rw[hf.get] at h;cases h
 rw[←h];exact aa.get_congr (List.getElem?_set_ne (Ne.symm e))
theorem lJ (hf:bX H i){j:Nat}{o:dA}(h:H.dT j=some o):(H.lay i b).dT j=some o:=by
 have e:j≠i:=by rintro rfl;rw[hf.dT] at h;cases h
 rw[←h];exact aa.jC (List.getElem?_set_ne (Ne.symm e))
theorem bX.Bt (hf:bX H i){j:Nat}{c:eM}(h:H.get j=some c):j≠i:=by rintro rfl;rw[hf.get] at h;cases h
theorem bX.wh (hf:bX H i){j:Nat}{c:dA}(h:H.dT j=some c):j≠i:=by rintro rfl;rw[hf.dT] at h;cases h
theorem bX.set (hf:bX H i){j:Nat}(h:j≠i)(s:Slot):bX (H.set j s) i:=by
 unfold bX;rw[List.getElem?_set_ne h];exact hf
theorem bX.new (hf:bX H i)(c:eM):bX (H.new c) i:=by
 unfold bX aa.new;rw[List.getElem?_append_left hf.lt];exact hf
theorem bX.jZ (hf:bX H i)(c:dA):bX (H.jZ c) i:=by
 unfold bX aa.jZ;rw[List.getElem?_append_left hf.lt];exact hf
theorem bX.app (hf:bX H i)(T:aa):bX (H++T) i:=by
 unfold bX;rw[List.getElem?_append_left hf.lt];exact hf
theorem rb (hf:bX H i)(c:eM):(H.lay i b).new c=(H.new c).lay i b:=by
 unfold aa.lay aa.new;rw[List.set_append_left _ _ hf.lt]
theorem Dl (hf:bX H i)(c:dA):(H.lay i b).jZ c=(H.jZ c).lay i b:=by
 unfold aa.lay aa.jZ;rw[List.set_append_left _ _ hf.lt]
theorem P4 (hf:bX H i)(T:aa):(H.lay i b)++T=aa.lay (H++T) i b:=by
 unfold aa.lay;rw[List.set_append_left _ _ hf.lt]
theorem rh {j:Nat}(h:j≠i)(s:Slot):(H.lay i b).set j s=aa.lay (H.set j s) i b:=by
 unfold aa.lay;rw[List.set_comm _ _ (Ne.symm h)]
theorem P5 {j:Nat}(h:j≠i)(c:eM):(H.lay i b).put j c=(H.put j c).lay i b:=rh h _
theorem ri {j:Nat}(h:j≠i)(c:dA):(H.lay i b).jA j c=(H.jA j c).lay i b:=rh h _
theorem Dm {j:Nat}(h:j≠i):(H.lay i b).kill j=(H.kill j).lay i b:=rh h _
def Up (i:Nat)(b:eM)(H:aa)(x y:Option (Value×aa)):Prop:=
 bX H i→∀v H',x=some (v,H')→bX H' i∧y=some (v,H'.lay i b)
theorem Up.same {x:Option Value}{y:Option Value}(h:bX H i→∀v,x=some v→y=some v):Up i b H (x.map (·,H)) (y.map (·,H.lay i b)):=by
 intro hf v H' e;rw[Option.map_eq_some_iff] at e;obtain⟨u,hu,e⟩:=e;cases e;exact⟨hf,by rw[h hf _ hu];rfl⟩
theorem adT (hf:bX H i){j off n:Nat}{vs:List Value}(h:aR H j off n=some vs):aR (H.lay i b) j off n=some vs:=by
 unfold aR at h ⊢;split at h
 ·rename_i c hc;rw[pb hf hc];exact h
 ·cases h
theorem lK (hf:bX H i){j off:Nat}{vs:List Value}(h:bW H j off vs=some H'):bX H' i∧bW (H.lay i b) j off vs=some (H'.lay i b):=by
 unfold bW at h ⊢;split at h
 ·rename_i c hc;rw[pb hf hc];split at h
  ·rename_i pX;cases h;simp only[pX,if_true];exact⟨hf.set (hf.Bt hc) _,by rw[P5 (hf.Bt hc)]⟩
  ·cases h
 ·cases h
theorem sT (hf:bX H i){t:TypeId}{p v:Value}(h:iY P t p H=some v):iY P t p (H.lay i b)=some v:=by
 unfold iY at h ⊢;split at h
 ·split at h
  ·split at h
   ·split at h
    ·rename_i vs hv;rw[adT hf hv];exact h
    ·cases h
   ·cases h
  ·split at h
   ·rename_i c hc;rw[pb hf hc];exact h
   ·cases h
  ·cases h
 ·cases h
theorem IW (hf:bX H i){t:TypeId}{p v:Value}(h:zY P t p v H=some H'):bX H' i∧zY P t p v (H.lay i b)=some (H'.lay i b):=by
 unfold zY at h ⊢;split at h
 ·split at h
  ·split at h
   ·rename_i hc;simp only[hc,and_self,if_true];exact lK hf h
   ·cases h
  ·cases h
 ·cases h
theorem rj (hf:bX H i){size n:Nat}{x:Value}{cs:List Value}(h:cF H size n x=some cs):cF (H.lay i b) size n x=some cs:=by
 unfold cF at h ⊢;split at h
 ·split at h
  ·rename_i h0;rw[if_pos h0];exact h
  ·rename_i h0;rw[if_neg h0];exact adT hf h
 ·exact h
 ·cases h
theorem Mt (hf:bX H i){t:TypeId}{size bytes:Nat}{z x:Value}{r:Nat×List Value}(h:IK P H t size bytes z x=some r):IK P (H.lay i b) t size bytes z x=some r:=by
 unfold IK at h ⊢;split at h
 ·exact h
 ·rw[Option.map_eq_some_iff] at h;obtain⟨cs,h1,h2⟩:=h;rw[rj hf h1];simp[h2]
 ·cases h
theorem Dn {ts:Array TypeId}{s x:Value}:Up i b H (oW P ts s x H) (oW P ts s x (H.lay i b)):=by
 intro hf v H' h;unfold oW at h ⊢;split at h
 case h_2=>cases h
 split at h
 case h_2=>cases h
 split at h
 case h_2=>cases h
 split at h
 case h_2=>cases h
 rename_i r n new hg;rw[Mt hf hg];simp only at h ⊢;split at h
 ·rename_i hle;rw[if_pos hle];split at h
  ·cases h;exact⟨hf,rfl⟩
  ·split at h
   ·rename_i h0;cases h;rw[if_pos h0];exact⟨hf,rfl⟩
   ·rename_i h0;rw[if_neg h0];split at h
    ·rename_i c hc;rw[pb hf hc];simp only;split at h
     ·rename_i he;rw[if_pos he];rw[Option.map_eq_some_iff] at h;obtain⟨H2,h1,h2⟩:=h;cases h2;obtain⟨k1,k2⟩:=lK (b:=b) hf h1;exact⟨k1,by rw[k2];rfl⟩
     ·cases h
    ·cases h
  ·cases h
 ·rename_i hle;rw[if_neg hle];split at h
  ·rename_i hb;rw[if_pos hb];split at h
   ·split at h
    ·rename_i h0;cases h;rw[if_pos h0];exact⟨hf.new _,by rw[rb hf,jI]⟩
    ·cases h
   ·split at h
    ·rename_i c hc;rw[pb hf hc];simp only;split at h
     ·rename_i he;rw[if_pos he];split at h
      ·rename_i old hold;cases h;rw[adT hf hold];simp only;have hk:bX (H.kill _) i:=hf.set (hf.Bt hc) _;refine⟨hk.new _,?_⟩;rw[Dm (hf.Bt hc),rb hk,jI]
      ·cases h
     ·cases h
    ·cases h
   ·cases h
  ·cases h
theorem IX {ts:Array TypeId}{d s:Value}:Up i b H (zZ P ts d s H) (zZ P ts d s (H.lay i b)):=by
 intro hf v H' h;unfold zZ at h ⊢;split at h
 case h_2=>cases h
 split at h
 case h_2=>cases h
 split at h
 case h_2=>cases h
 simp only at h ⊢;split at h
 case h_2=>cases h
 rename_i cs qX;rw[rj hf qX];simp only;split at h
 ·cases h;exact⟨hf,rfl⟩
 ·split at h
  ·rename_i h0;cases h;rw[if_pos h0];exact⟨hf,rfl⟩
  ·rename_i h0;rw[if_neg h0];rw[Option.map_eq_some_iff] at h;obtain⟨H2,h1,h2⟩:=h;cases h2;obtain⟨k1,k2⟩:=lK (b:=b) hf h1;exact⟨k1,by rw[k2];rfl⟩
 ·cases h
theorem E8 {ts:Array TypeId}{x:Value}:Up i b H (sI P ts x H) (sI P ts x (H.lay i b)):=by
 intro hf v H' h;unfold sI at h ⊢;split at h
 case h_2=>cases h
 split at h
 case h_2=>cases h
 split at h
 ·cases h;exact⟨hf,rfl⟩
 ·split at h
  ·rename_i h0;cases h;rw[if_pos h0];exact⟨hf,rfl⟩
  ·rename_i h0;rw[if_neg h0];rw[Option.map_eq_some_iff] at h;obtain⟨H2,h1,h2⟩:=h;cases h2;obtain⟨k1,k2⟩:=lK (b:=b) hf h1;exact⟨k1,by rw[k2];rfl⟩
 ·cases h
theorem adZ (hf:bX H i){t:TypeId}{x v:Value}{lo hi:Option Value}(h:og P H t x lo hi=some v):og P (H.lay i b) t x lo hi=some v:=by
 unfold og at h ⊢;split at h
 case h_2=>cases h
 split at h
 case h_2=>cases h
 split at h
 case h_2=>cases h
 split at h
 case isFalse=>cases h
 rename_i hc;rw[if_pos hc];split at h
 ·exact h
 ·split at h
  ·rename_i c hc;rw[pb hf hc];exact h
  ·split at h
   case isFalse=>cases h
   rename_i YT hh0 hx0 hc0;cases h;obtain⟨g1,g2,g3,g4⟩:=hc;subst hc0;split
   ·split
    ·simp only[Option.some.injEq,Value.slice.injEq,Addr.mk.injEq];refine⟨⟨trivial,?_,trivial⟩,?_,?_⟩;all_goals first|omega| (rw[show Int.toNat _=0 by omega];omega)
    ·rfl
   ·rfl
 ·cases h
theorem Dp (hf:bX H i){t:TypeId}{x v m:Value}{lo hi:Option Value}(h:oY P H t x lo hi m=some v):oY P (H.lay i b) t x lo hi m=some v:=by
 unfold oY at h ⊢;split at h
 ·split at h
  ·rename_i hc;rw[if_pos hc];exact adZ hf h
  ·cases h
 ·cases h
theorem IY (hf:bX H i){q:IntKind}{z m x v:Value}{ok:Bool}(h:C5 q z ok m x H=some v):C5 q z ok m x (H.lay i b)=some v:=by
 unfold C5 at h ⊢;split at h
 ·split at h
  ·rename_i hc;rw[lJ hf hc];exact h
  ·cases h
 ·cases h
theorem Dq (hf:bX H i){t:TypeId}{m x v:Value}{ok:Bool}(h:oX P t m x ok H=some v):oX P t m x ok (H.lay i b)=some v:=by
 unfold oX at h ⊢;split at h
 ·exact IY hf h
 ·cases h
theorem Mv (hf:bX H i){m v:Value}(h:IL m H=some v):IL m (H.lay i b)=some v:=by
 unfold IL at h ⊢;split at h
 ·split at h
  ·rename_i hc;rw[lJ hf hc];exact h
  ·cases h
 ·cases h
theorem Mw (hf:bX H i){ts:Array TypeId}{x v:Value}(h:Ba P H ts x=some v):Ba P (H.lay i b) ts x=some v:=by
 unfold Ba at h ⊢;split at h
 ·split at h
  ·exact Mv hf h
  ·exact h
  ·exact h
  ·exact h
  ·cases h
 ·cases h
theorem Mx {q:IntKind}{m x u:Value}:Up i b H (Mf q m x u H) (Mf q m x u (H.lay i b)):=by
 intro hf v H' h;unfold Mf at h ⊢;split at h
 ·split at h
  ·rename_i hc;rw[lJ hf hc];simp only;split at h
   ·rename_i hq;cases h;rw[if_pos hq];exact⟨hf.set (hf.wh hc) _,by rw[ri (hf.wh hc)]⟩
   ·cases h
  ·cases h
 ·cases h
theorem My {q:IntKind}{m x:Value}:Up i b H (Mg q m x H) (Mg q m x (H.lay i b)):=by
 intro hf v H' h;unfold Mg at h ⊢;split at h
 ·split at h
  ·rename_i hc;rw[lJ hf hc];simp only;split at h
   ·rename_i hq;cases h;rw[if_pos hq];exact⟨hf.set (hf.wh hc) _,by rw[ri (hf.wh hc)]⟩
   ·cases h
  ·cases h
 ·cases h
theorem Bu {c:Builtin}{ts:Array TypeId}{aq':List Value}:Up i b H (jK P c ts aq' H) (jK P c ts aq' (H.lay i b)):=by
 intro hf v H' h;unfold jK at h ⊢;split at h
 ·exact Dn hf v H' h
 ·exact IX hf v H' h
 ·exact Up.same (λhf v h=>Mw hf h) hf v H' h
 ·exact E8 hf v H' h
 ·unfold uX at h ⊢;split at h
  ·exact My hf v H' h
  ·cases h
 ·split at h
  ·cases h;exact⟨hf,rfl⟩
  ·cases h
 ·split at h
  ·rename_i hk;cases h;rw[if_pos hk];exact⟨hf,rfl⟩
  ·cases h
 ·split at h
  ·rename_i hk;cases h;rw[if_pos hk];exact⟨hf,rfl⟩
  ·cases h
 ·cases h
theorem ux {t:TypeId}{n:Nat}{ps:List (Nat×Value)}:Up i b H (ay P t n ps H) (ay P t n ps (H.lay i b)):=by
 intro hf v H' h;unfold ay at h ⊢;split at h
 ·cases h
 ·rename_i h1;rw[if_neg h1];split at h
  ·split at h
   ·split at h
    ·rename_i h2;rw[if_pos h2];split at h
     ·cases h;exact⟨hf.new _,by rw[rb hf,jI]⟩
     ·cases h
    ·cases h
   ·cases h
  ·cases h
theorem wm {t:TypeId}{l c:Value}:Up i b H (fW P t l c H) (fW P t l c (H.lay i b)):=by
 intro hf v H' h;unfold fW at h ⊢;split at h
 ·split at h
  ·split at h
   ·rename_i h2;rw[if_pos h2];cases h;exact⟨hf.new _,by rw[rb hf,jI]⟩
   ·cases h
  ·cases h
 ·cases h
theorem wq {t:TypeId}{es:Nat}{cs:List Value}:Up i b H (some (aS H t es cs)) (some (aS (H.lay i b) t es cs)):=by
 intro hf v H' h;unfold aS at h ⊢;cases h;exact⟨hf.new _,by rw[rb hf,jI]⟩
theorem pc {ρ:Operand→Value}{op:Op}:Up i b H (gO P ρ H op) (gO P ρ (H.lay i b) op):=by
 intro hf v H' h;unfold gO at h ⊢;split at h<;>try(simp only)
 ·cases h;exact⟨hf,rfl⟩
 ·cases h;exact⟨hf,rfl⟩
 ·split at h
  ·cases h;exact⟨hf,rfl⟩
  ·cases h
 ·split at h
  ·exact wq hf v H' h
  ·cases h
 ·split at h
  ·rename_i h1;rw[if_pos h1];exact wq hf v H' h
  ·cases h
 ·exact Up.same (λ_ _ h=>h) hf v H' h
 ·exact ux hf v H' h
 ·exact Up.same (λhf _ h=>sT hf h) hf v H' h
 ·rw[Option.map_eq_some_iff] at h;obtain⟨H2,h1,h2⟩:=h;cases h2;obtain⟨k1,k2⟩:=IW (b:=b) hf h1;exact⟨k1,by rw[k2];rfl⟩
 ·split at h
  ·cases h;exact⟨hf,rfl⟩
  ·cases h;exact⟨hf,rfl⟩
  ·cases h
 ·exact Up.same (λ_ _ h=>h) hf v H' h
 ·exact Up.same (λ_ _ h=>h) hf v H' h
 ·split at h
  ·cases h;exact⟨hf,rfl⟩
  ·cases h
 ·cases h;exact⟨hf,rfl⟩
 ·exact wm hf v H' h
 ·exact Up.same (λhf _ h=>adZ hf h) hf v H' h
 ·exact Up.same (λhf _ h=>Dp hf h) hf v H' h
 ·unfold qN at h ⊢;split at h
  ·unfold mmk at h ⊢;cases h;exact⟨hf.jZ _,by rw[Dl hf,jI]⟩
  ·cases h
 ·exact Up.same (λhf _ h=>Dq hf h) hf v H' h
 ·unfold mI at h ⊢;split at h
  ·exact Mx hf v H' h
  ·cases h
 ·repeat' split at h
  all_goals first| (cases h;exact⟨hf,rfl⟩)|cases h
 ·repeat' split at h
  all_goals first| (exact Up.same (λ_ _ h=>h) hf v H' h)|cases h
 ·repeat' split at h
  all_goals first| (rename_i hb;cases h;rw[if_pos hb];exact⟨hf,rfl⟩)|cases h
 ·split at h
  ·split at h
   ·split at h
    ·rename_i hb;rw[if_pos hb];exact Up.same (λ_ _ h=>h) hf v H' h
    ·cases h
   ·cases h
  ·split at h
   ·rename_i hb;rw[if_pos hb];rw[Option.map_eq_some_iff] at h;obtain⟨u,hu,e⟩:=h;cases e;exact⟨hf,by rw[hu];rfl⟩
   ·cases h
  ·cases h
 ·repeat' split at h
  all_goals first| (exact Up.same (λ_ _ h=>h) hf v H' h)|cases h
 ·exact Bu hf v H' h
 ·cases h
def gE (C:ae):Prop:=∀f args H i b,Up i b H (C f args H) (C f args (H.lay i b))
theorem sU {C:ae}(hC:gE C){E:Env}{o:Oper}:Up i b H (gk P C E H o) (gk P C E (H.lay i b) o):=by
 intro hf v H' h;unfold gk at h ⊢;split at h
 ·split at h
  ·split at h
   ·rename_i h1;rw[if_pos h1];exact hC _ _ _ _ _ hf v H' h
   ·cases h
  ·exact hC _ _ _ _ _ hf v H' h
  ·cases h
 ·exact pc hf v H' h
theorem Ag {ρ:Operand→Value}{op:Op}{j:Nat}(hj:j≠i):Up i b H (pT P ρ j H op) (pT P ρ j (H.lay i b) op):=by
 intro hf v H' h;unfold pT at h ⊢;have e:(H.lay i b)[j]? =H[j]? :=List.getElem?_set_ne (Ne.symm hj);rw[e];split at h
 ·split at h
  ·rename_i hb;cases h;exact⟨hf.set hj _,by simp only[rh hj]⟩
  ·cases h
 ·cases h
theorem wu {C:ae}(hC:gE C){F:List Nat}{base k:Nat}(hb:i<base){E:Env}{o:Oper}:Up i b H (du P C F base k E H o) (du P C F base k E (H.lay i b) o):=by
 intro hf v H' h;unfold du at h ⊢;split at h
 ·rename_i h1;rw[if_pos h1];exact Ag (by omega) hf v H' h
 ·rename_i h1;rw[if_neg h1];exact sU hC hf v H' h
theorem qw {C:ae}(hC:gE C){ops:Array Oper}: ∀(l:List Oper) (E E':Env) (H H':aa),bX H i→eC P C ops l E H=some (E',H')→
  bX H' i∧eC P C ops l E (H.lay i b)=some (E',H'.lay i b)∧trace P C ops l E (H.lay i b)=(trace P C ops l E H).map λp=>(p.1,p.2.lay i b):=by
 intro l;induction l with
 |nil=>intro E E' H H' hf h;simp only[eC] at h;cases h;exact⟨hf,rfl,rfl⟩
 |cons o r ih=>
  intro E E' H H' hf h;simp only[eC] at h;split at h
  ·rename_i hw;cases hx:gk P C E H o with
   |none=>rw[hx] at h;cases h
   |some q=>
    obtain⟨v,H1⟩:=q;rw[hx] at h;obtain⟨f1,e1⟩:=sU (b:=b) hC hf v H1 hx;obtain⟨f2,e2,e3⟩:=ih _ _ _ _ f1 h;exact⟨f2,by simp only[eC,hw,e1,e2],by simp only[trace,hw,e1,hx,e3,List.map_cons]⟩
  ·rename_i hw;obtain⟨f2,e2,e3⟩:=ih _ _ _ _ hf h;exact⟨f2,by simp only[eC,hw,e2],by simp only[trace,hw,e3,List.map_cons]⟩
  ·cases h
theorem tR {C:ae}(hC:gE C){F:List Nat}{base:Nat}(hb:i<base){ops:Array Oper}: ∀(l:List Oper) (k:Nat) (E E':Env) (H H':aa),bX H i→cV P C F base ops l k E H=some (E',H')→
  bX H' i∧cV P C F base ops l k E (H.lay i b)=some (E',H'.lay i b)∧ef P C F base ops l k E (H.lay i b)=(ef P C F base ops l k E H).map λp=>(p.1,p.2.lay i b):=by
 intro l;induction l with
 |nil=>intro k E E' H H' hf h;simp only[cV] at h;cases h;exact⟨hf,rfl,rfl⟩
 |cons o r ih=>
  intro k E E' H H' hf h;simp only[cV] at h;split at h
  ·rename_i hw;cases hx:du P C F base k E H o with
   |none=>rw[hx] at h;cases h
   |some q=>
    obtain⟨v,H1⟩:=q;rw[hx] at h;obtain⟨f1,e1⟩:=wu (b:=b) hC hb hf v H1 hx;obtain⟨f2,e2,e3⟩:=ih _ _ _ _ _ f1 h;exact⟨f2,by simp only[cV,hw,e1,e2],by simp only[ef,hw,e1,hx,e3,List.map_cons]⟩
  ·rename_i hw;obtain⟨f2,e2,e3⟩:=ih _ _ _ _ _ hf h;exact⟨f2,by simp only[cV,hw,e2],by simp only[ef,hw,e3,List.map_cons]⟩
  ·cases h
theorem E9 {C:ae}(hC:gE C){ops:Array Oper}: ∀(l:List Oper) (E E':Env) (H H':aa),bX H i→eC P C ops l E H=some (E',H')→∀p∈trace P C ops l E H,bX p.2 i:=by
 intro l;induction l with
 |nil=>intro E E' H H' hf _ p hp;simp only[trace,List.mem_singleton] at hp;subst hp;exact hf
 |cons o r ih=>
  intro E E' H H' hf h p hp;simp only[eC] at h;split at h
  ·rename_i hw;cases hx:gk P C E H o with
   |none=>rw[hx] at h;cases h
   |some q=>
    obtain⟨v,H1⟩:=q;rw[hx] at h;obtain⟨f1,_⟩:=sU (b:=default) hC hf v H1 hx;simp only[trace,hw,hx] at hp;rcases List.mem_cons.1 hp with rfl|hp
    ·exact hf
    ·exact ih _ _ _ _ f1 h p hp
  ·rename_i hw;simp only[trace,hw] at hp;rcases List.mem_cons.1 hp with rfl|hp
   ·exact hf
   ·exact ih _ _ _ _ hf h p hp
  ·cases h
theorem Dr {C:ae}(hC:gE C){F:List Nat}{base:Nat}(hb:i<base){ops:Array Oper}: ∀(l:List Oper) (k:Nat) (E E':Env) (H H':aa),bX H i→cV P C F base ops l k E H=some (E',H')→∀p∈ef P C F base ops l k E H,bX p.2 i:=by
 intro l;induction l with
 |nil=>intro k E E' H H' hf _ p hp;simp only[ef,List.mem_singleton] at hp;subst hp;exact hf
 |cons o r ih=>
  intro k E E' H H' hf h p hp;simp only[cV] at h;split at h
  ·rename_i hw;cases hx:du P C F base k E H o with
   |none=>rw[hx] at h;cases h
   |some q=>
    obtain⟨v,H1⟩:=q;rw[hx] at h;obtain⟨f1,_⟩:=wu (b:=default) hC hb hf v H1 hx;simp only[ef,hw,hx] at hp;rcases List.mem_cons.1 hp with rfl|hp
    ·exact hf
    ·exact ih _ _ _ _ _ f1 h p hp
  ·rename_i hw;simp only[ef,hw] at hp;rcases List.mem_cons.1 hp with rfl|hp
   ·exact hf
   ·exact ih _ _ _ _ _ hf h p hp
  ·cases h
theorem wv {ops:Array Oper}{T:List (Env×aa)}{c:Nat×Nat}(hT: ∀p∈T,bX p.2 i)(h:iH P ops T c=true):iH P ops (T.map λp=>(p.1,p.2.lay i b)) c=true:=by
 unfold iH at h ⊢;simp only[List.getElem?_map];cases h1:T[c.1]? with
 |none=>rw[h1] at h;cases h
 |some p1=>
  cases h2:T[c.2]? with
  |none=>rw[h1,h2] at h;cases h
  |some p2=>
   cases h3:T[c.2+1]? with
   |none=>rw[h1,h2,h3] at h;cases h
   |some p3=>
    rw[h1,h2,h3] at h;obtain⟨E1,H1⟩:=p1;obtain⟨E2,H2⟩:=p2;obtain⟨E3,H3⟩:=p3;simp only[Option.map_some] at h ⊢;cases h4:ops[c.1]? with
    |none=>rw[h4] at h;cases h
    |some x=>
     cases h5:ops[c.2]? with
     |none=>rw[h4,h5] at h;cases h
     |some y=>
      rw[h4,h5] at h;simp only at h ⊢;split at h
      ·have f1:=hT _ (List.mem_of_getElem? h1);have f2:=hT _ (List.mem_of_getElem? h2);have f3:=hT _ (List.mem_of_getElem? h3);split at h
       ·rename_i u K1 u1 K2 u2 K3 e1 e2 e3;rw[(pc (b:=b) f1 _ _ e1).2,(pc (b:=b) f2 _ _ e2).2,(pc (b:=b) f3 _ _ e3).2];exact h
       ·cases h
      ·exact h
      ·cases h
theorem zu {C:ae}(hC:gE C){ops:Array Oper}{draw:Bool}{E E':Env}(hf:bX H i)(h:eV P C ops draw E H=some (E',H')):bX H' i∧eV P C ops draw E (H.lay i b)=some (E',H'.lay i b):=by
 unfold eV at h ⊢;cases draw with
 |false=>
  simp only[Bool.false_eq_true,if_false] at h ⊢;obtain⟨h1,h2,_⟩:=qw (b:=b) hC _ _ _ _ _ hf h;exact⟨h1,h2⟩
 |true=>
  simp only[if_true] at h ⊢;cases hF:lG P ops with
  |nil=>
   rw[hF] at h;simp only at h ⊢;cases hc:mq P ops with
   |nil=>
    rw[hc] at h;obtain⟨h1,h2,_⟩:=qw (b:=b) hC _ _ _ _ _ hf h;exact⟨h1,h2⟩
   |cons c cs=>
    rw[hc] at h;simp only at h ⊢;split at h
    ·rename_i jk;obtain⟨h1,h2,h3⟩:=qw (b:=b) hC _ _ _ _ _ hf h;refine⟨h1,?_⟩;rw[if_pos,h2];rw[h3];rw[List.all_eq_true] at jk ⊢;exact λx hx=>wv (E9 hC _ _ _ _ _ hf h) (jk x hx)
    ·cases h
  |cons f F=>
   rw[hF] at h;have Bk:bX (H.cB (f::F).length) i:=hf.app _;have e:(H.lay i b).cB (f::F).length=(H.cB (f::F).length).lay i b:=P4 hf _;simp only[jI] at h ⊢;rw[e];cases hc:mq P ops with
   |nil=>
    rw[hc] at h;obtain⟨h1,h2,_⟩:=tR (b:=b) hC hf.lt _ _ _ _ _ _ Bk h;exact⟨h1,h2⟩
   |cons c cs=>
    rw[hc] at h;simp only at h ⊢;split at h
    ·rename_i jk;obtain⟨h1,h2,h3⟩:=tR (b:=b) hC hf.lt _ _ _ _ _ _ Bk h;refine⟨h1,?_⟩;rw[if_pos,h2];rw[h3];rw[List.all_eq_true] at jk ⊢;exact λx hx=>wv (Dr hC hf.lt _ _ _ _ _ _ Bk h) (jk x hx)
    ·cases h
theorem Bv {C:ae}(hC:gE C){keep:List Nat}{n:Nat}: ∀(c:Code) (vs:List Value) (H:aa) (r:bE×List Value×aa),bX H i→ev P C keep n c vs H=some r→
  bX r.2.2 i∧ev P C keep n c vs (H.lay i b)=some (r.1,r.2.1,r.2.2.lay i b):=by
 intro c;induction c with
 |skip=>intro vs H r hf h;simp only[ev] at h;cases h;exact⟨hf,rfl⟩
 |label l=>intro vs H r hf h;simp only[ev] at h;cases h;exact⟨hf,rfl⟩
 |exit id=>intro vs H r hf h;simp only[ev] at h;cases h;exact⟨hf,rfl⟩
 |ret=>intro vs H r hf h;simp only[ev] at h;cases h;exact⟨hf,rfl⟩
 |goto l=>intro vs H r hf h;simp only[ev] at h;cases h
 |refuse s=>intro vs H r hf h;simp only[ev] at h;cases h
 |rangeFunc g ps x y _ _=>
  intro vs H r hf h;simp only[ev] at h ⊢;split at h
  case h_2=>cases h
  split at h
  case isFalse=>cases h
  rename_i gB;rw[if_pos gB,jI,Dl hf];split at h
  ·rename_i u H2 hx;obtain⟨f1,e1⟩:=hC _ _ _ i b (hf.jZ _) _ _ hx;rw[e1];simp only;cases ho:H2.dT H.length with
   |none=>rw[ho] at h;simp[zi] at h
   |some o=>
    have dy:H.length≠i:=by have:=hf.lt;omega
    rw[lJ f1 ho,Dm dy];rw[ho] at h;have fk:bX (H2.kill H.length) i:=f1.set dy _;unfold zi at h ⊢;cases o with
    |EE _ _=>cases h
    |loop L s=>cases s<;>simp only at h<;>cases h<;>exact⟨fk,rfl⟩
  ·cases h
 |region id ops draw=>
  intro vs H r hf h;simp only[ev] at h ⊢;split at h
  ·rename_i E H1 hr;cases h;obtain⟨f1,e1⟩:=zu (b:=b) hC hf hr;rw[e1];exact⟨f1,rfl⟩
  ·cases h
 |seq x y Um Un=>
  intro vs H r hf h;simp only[ev] at h ⊢;cases hx:ev P C keep n x vs H with
  |none=>rw[hx] at h;cases h
  |some q=>
   obtain⟨e1,Fa,H1⟩:=q;obtain⟨f1,k1⟩:=Um _ _ _ hf hx;rw[hx] at h;rw[k1];cases e1 with
   |normal=>exact Un _ _ _ f1 h
   |exit id=>cases h;exact⟨f1,rfl⟩
   |ret=>cases h;exact⟨f1,rfl⟩
 |cond c x y Um Un=>
  intro vs H r hf h;simp only[ev] at h ⊢;split at h
  ·rename_i t _;cases t with
   |true=>exact Um _ _ _ hf h
   |false=>exact Un _ _ _ hf h
  ·cases h
 |block id c ih=>
  intro vs H r hf h;simp only[ev] at h ⊢;cases hx:ev P C keep n c vs H with
  |none=>rw[hx] at h;cases h
  |some q=>
   obtain⟨e1,Fa,H1⟩:=q;obtain⟨f1,k1⟩:=ih _ _ _ hf hx;rw[hx] at h;rw[k1];cases e1 with
   |normal=>cases h;exact⟨f1,rfl⟩
   |ret=>cases h;exact⟨f1,rfl⟩
   |exit YF=>
    simp only at h ⊢;split at h<;>(rename_i Mz;cases h;first|rw[if_pos Mz]|rw[if_neg Mz])<;>exact⟨f1,rfl⟩
 |scope c ih=>intro vs H r hf h;simp only[ev] at h ⊢;exact ih _ _ _ hf h
 |loop c ih=>
  intro vs H r hf h;simp only[ev] at h ⊢;have key: ∀k vs H,bX H i→iter k (ev P C keep n c) vs H=some r→bX r.2.2 i∧iter k (ev P C keep n c) vs (H.lay i b)=some (r.1,r.2.1,r.2.2.lay i b):=by
   intro k;induction k with
   |zero=>intro vs H _ h;simp only[iter] at h;cases h
   |succ k ihk=>
    intro vs H hf h;simp only[iter] at h ⊢;cases hx:ev P C keep n c vs H with
    |none=>rw[hx] at h;cases h
    |some q=>
     obtain⟨e1,Fa,H1⟩:=q;obtain⟨f1,k1⟩:=ih _ _ _ hf hx;rw[hx] at h;rw[k1];cases e1 with
     |normal=>exact ihk _ _ f1 h
     |exit id=>cases h;exact⟨f1,rfl⟩
     |ret=>cases h;exact⟨f1,rfl⟩
  exact key n vs H hf h
theorem Fb {C:ae}(hC:gE C){n j:Nat}{args:List Value}:Up i b H (qm P C n j args H) (qm P C n j args (H.lay i b)):=by
 intro hf v H' h;unfold qm at h ⊢;split at h
 case h_2=>cases h
 rename_i L ho;rw[lJ hf ho];simp only;split at h
 case isFalse=>cases h
 rename_i hl;rw[if_pos hl];split at h
 case h_2=>cases h
 rename_i vs H1 hx;obtain⟨f1,e1⟩:=Bv (b:=b) hC _ _ _ _ hf hx;rw[e1];simp only;split at h
 case h_2=>cases h
 rename_i L1 IZ;rw[lJ f1 IZ];simp only;have dy:j≠i:=f1.wh IZ;rw[ri dy];split at h
 case h_2=>cases h
 rename_i e Uo H2 hy;obtain⟨f2,e2⟩:=Bv (b:=b) hC _ _ _ _ (f1.set dy (.dT (.loop L1 .busy))) hy;have e2':ev P C L.keep n L.body vs ((H1.jA j (.loop L1 .busy)).lay i b)=some (e,Uo,H2.lay i b):=e2;rw[e2'];simp only;unfold PW at h ⊢;split at h
 case h_2=>cases h
 rename_i L2 CY;rw[lJ f2 CY];simp only;cases h;exact⟨f2.set dy _,by rw[ri dy]⟩
theorem Ah {bad:List FuncId}{G:ae}(hG:gE G): ∀n,gE (gr P bad G n):=by
 intro n;induction n with
 |zero=>intro f args H i b hf v H' h;simp only[gr] at h;cases h
 |succ n ih=>
  intro f args H i b hf v H' h;simp only[gr] at h ⊢;split at h
  ·rename_i hb;rw[if_pos hb];exact hG _ _ _ _ _ hf v H' h
  ·rename_i hb;rw[if_neg hb];have res: ∀(fn:Func) (E:Env) (H2:aa) (u:Value),bX H2 i→Bd P fn E H2=some u→Bd P fn E (H2.lay i b)=some u:=by
    intro fn E H2 u hf h;unfold Bd at h ⊢;rw[Option.map_eq_some_iff] at h ⊢;obtain⟨vs,h1,h2⟩:=h;refine⟨vs,?_,h2⟩;revert vs
    induction fn.results.toList with
    |nil=>intro vs h1 _;exact h1
    |cons r l PC=>
     intro vs h1 h2;rw[List.mapM_cons] at h1 ⊢;simp only[Option.bind_eq_bind,Option.bind_eq_some_iff] at h1 ⊢;obtain⟨x,hx,ys,Yf,e⟩:=h1;refine⟨x,?_,ys,?_,e⟩
     ·cases r with
      |tmp t=>exact hx
      |cell a t=>exact sT hf hx
     ·have: ∀vs,List.mapM (λ(r:ResultVar)=>match r with| .tmp t=>some (E.get t)| .cell a t=>iY P t (E.get a) H2) l=some vs→List.mapM (λ(r:ResultVar)=>match r with| .tmp t=>some (E.get t)| .cell a t=>iY P t (E.get a) (H2.lay i b)) l=some vs:=by
       clear Yf PC h2 e hx x ys vs;induction l with
       |nil=>intro vs h;exact h
       |cons r l PC=>
        intro vs h1;rw[List.mapM_cons] at h1 ⊢;simp only[Option.bind_eq_bind,Option.bind_eq_some_iff] at h1 ⊢;obtain⟨x,hx,ys,Yf,e⟩:=h1;refine⟨x,?_,ys,PC _ Yf,e⟩;cases r with
        |tmp t=>exact hx
        |cell a t=>exact sT hf hx
      exact this _ Yf
   split at h
   ·split at h
    ·rename_i fn ze c hc;split at h
     ·rename_i vs H2 Ai;obtain⟨f1,e1⟩:=Bv (b:=b) ih _ _ _ _ hf Ai;rw[e1];simp only;rw[Option.map_eq_some_iff] at h;obtain⟨u,hu,e⟩:=h;cases e;exact⟨f1,by rw[res _ _ _ _ f1 hu];rfl⟩
     ·rename_i vs H2 Ai;obtain⟨f1,e1⟩:=Bv (b:=b) ih _ _ _ _ hf Ai;rw[e1];simp only;rw[Option.map_eq_some_iff] at h;obtain⟨u,hu,e⟩:=h;cases e;exact⟨f1,by rw[res _ _ _ _ f1 hu];rfl⟩
     ·cases h
    ·cases h
   ·exact Fb ih hf v H' h
end Go.Proofs.YtgfgglponbmgmaaGreatA.Am
end
section
namespace Go.Proofs.YtgfgglponbmgmaaGreatA.Am
open Go.RowKit (Below)
variable {P:Program} {μ:Mu} {H H':aa} {w:World} {B:Nat}
abbrev FR (ro:Option Nat):Fence:={Fence.wide with round:=ro}
theorem MA {ro:Option Nat}{n:Nat}{f:FuncId}{args:Array Value}{R:Ending→World→Prop}(h:Calls P f args w R):CallsIn (FR ro) n P f args w R:=callsIn_wide (n:=n).2 h
def Gu (P:Program)(B:Nat)(μ:Mu)(w:World)(v:Value)(H':aa):Ending→World→Prop:=
 λe w'=>∃v' μ',e= .returned v'∧μ.le μ'∧VR μ' v v'∧cJ P μ' H' w' B∧eN B w w'
def Bw (P:Program)(B:Nat)(f:FuncId)(args:List Value)(H:aa)(v:Value)(H':aa):Prop:=
 ∀(μ:Mu) (w:World) (fe:List Value),cJ P μ H w B→cT μ args fe→Calls P f fe.toArray w (Gu P B μ w v H')
def MB (P:Program)(B:Nat)(i:Nat)(args:List Value)(H:aa)(v:Value)(H':aa):Prop:=
 ∀(ro:Option Nat) (n:Nat) (μ:Mu) (w:World) (fe:List Value) (l:Loc),cJ P μ H w B→cT μ args fe→μ i=some l→YieldAt (FR ro) n P l.b fe.toArray w (Gu P B μ w v H')
structure zx (P:Program) (B:Nat) (C:ae):Prop where
 told: ∀f args H v H',C f args H=some (v,H')→
  (f<P.funcs.size→(∃fn,P.funcs[f]? =some fn∧fn.body.isSome=true∧(fn.name== "runtime.NumGoroutine")=false)∧Bw P B f args H v H')∧
  (∀i,f=P.funcs.size+i→MB P B i args H v H')
 hole:gE C
def hY (E:Nat→Value):Operand→Value
 | .tmp t=>E t
 | .const v=>if fJ v then v else Gn
 | .global _=>Gn
 | .func f=>.func (.func f) #[] #[]
theorem fY (E:Env):hY E.get=n3 E:=by funext x;cases x<;>rfl
theorem gP.eval {E:Nat→Value}{a:Act}(h:gP μ E a.tmps)(x:Operand):VR μ (hY E x) (a.eval x):=by
 cases x with
 |tmp t=>exact h t
 |const v=>
  show VR μ (if fJ v then v else Gn) v
  split
  ·rename_i hc;exact .closed hc
  ·exact .Gn _
 |global g=>exact .Gn _
 |func f=>exact .func _ _ _ _ _ rfl rfl rfl (λj h=>by simp at h) (λj h=>by simp at h)
theorem gP.put {E:Nat→Value}{a:Act}{v v':Value}(h:gP μ E a.tmps)(hv:VR μ v v')(d:Option Nat)(hd: ∀t,d=some t→t<a.tmps.size):
  gP μ (λt=>if d=some t then v else E t) (a.put d v').tmps:=by
 intro t;cases d with
 |none=>simpa[Act.put] using h t
 |some s=>
  simp only[Act.put];by_cases e:s=t
  ·subst e;have:=hd s rfl
   simp[this,hv]
  ·have e2:(some s:Option Nat)≠some t:=λx=>e (Option.some.inj x)
   simp only[e2,if_false];have:=h t
   simpa[Array.getD_eq_getD_getElem?,Array.getElem?_setIfInBounds_ne e] using this
theorem Env.aG (E:Env)(d:Option Nat)(v:Value)(t:Nat):(E.put d v).get t=if d=some t then v else E.get t:=by
 cases d with
 |none=>simp[Env.put]
 |some s=>
  simp only[Env.put,Env.get,Option.some.injEq];by_cases e:t=s
  ·subst e;simp
  ·rw[if_neg e,if_neg (Ne.symm e)]
theorem mB (a:Act)(d:Option Nat)(v:Value):(a.put d v).tmps.size=a.tmps.size:=by cases d<;>simp[Act.put]
theorem put_defers (a:Act)(d:Option Nat)(v:Value):(a.put d v).defers=a.defers:=by cases d<;>simp[Act.put]
def qx (ops:Array Oper)(o:Oper)(E:Nat→Value):Option Bool:=
 match o.guard with
 |none=>some true
 |some (j,want)=>match (ops[j]?).bind (·.dst) with
  |some d=>match E d with
   | .bool b=>some (b==want)
   | .tuple vs=>if vs.isEmpty then some false else none
   |_=>none
  |none=>none
theorem qy (ops:Array Oper)(o:Oper)(E:Env):qx ops o E.get=dB ops o E:=rfl
theorem lL {ops:Array Oper}{o:Oper}{E:Nat→Value}{a:Act}{b:Bool}(hE:gP μ E a.tmps)(h:qx ops o E=some b):Region.wanted o (yielded ops a.tmps)=b:=by
 unfold qx at h;unfold Region.wanted;cases hg:o.guard with
 |none=>rw[hg] at h;cases h;rfl
 |some q=>
  obtain⟨j,want⟩:=q;rw[hg] at h;simp only at h ⊢;unfold yielded;cases hd:(ops[j]?).bind (·.dst) with
  |none=>rw[hd] at h;cases h
  |some d=>
   rw[hd] at h;simp only at h;have hr:=hE d;split at h
   ·rename_i c e;cases h;rw[e] at hr;have e2:=hr.bool;have e3:a.tmps[d]? =some (.bool c):=by
     rw[Array.getD_eq_getD_getElem?] at e2;cases hx:a.tmps[d]? with
     |none=>rw[hx] at e2;simp[undef] at e2
     |some x=>rw[hx] at e2;simp at e2;rw[e2]
    simp only[Option.bind_some,e3];cases c<;>cases want<;>rfl
   ·rename_i vs e;split at h
    ·rename_i ads;cases h;rw[e] at hr;obtain⟨iU,e2,hvs⟩:=hr.z8;simp only[Option.bind_some];rw[Array.getD_eq_getD_getElem?] at e2;cases hx:a.tmps[d]? with
     |none=>cases want<;>rfl
     |some x=>rw[hx] at e2;simp at e2;subst e2;cases want<;>rfl
    ·cases h
   ·cases h
def jF (P:Program)(C:ae)(E:Nat→Value)(H:aa)(o:Oper):Option (Value×aa):=
 match o.op with
 | .call {callee:=.value f,args, .. }=>match hY E f with
  | .func (.func g) first captured=>if g<P.funcs.size then C g (first.toList++args.toList.map (hY E)++captured.toList) H else none
  | .func (.yield i) _ _=>C (P.funcs.size+i) (args.toList.map (hY E)) H
  |_=>none
 |op=>gO P (hY E) H op
theorem qz (C:ae)(E:Env)(H:aa)(o:Oper):jF P C E.get H o=gk P C E H o:=by
 obtain⟨dst,op,type,pos,after,guard⟩:=o;cases op with
 |call c=>
  obtain⟨callee,args,types⟩:=c;cases callee<;>simp only[jF,gk,fY]<;>rfl
 |_=>simp only[jF,gk,fY]
theorem rk {ro:Option Nat}{n:Nat}{C:ae}{E:Nat→Value}{o:Oper}{v:Value}{a:Act}{K:Act→World→Prop}{Q:Exit→Act→World→Prop}(hC:zx P B C)(hS:cJ P μ H w B)(hE:gP μ E a.tmps)(h:jF P C E H o=some (v,H'))(hK: ∀v' μ' w',μ.le μ'→VR μ' v v'→cJ P μ' H' w' B→eN B w w'→K (a.put o.dst v') w'):o.wpIn (FR ro) n P a w K Q:=by
 have hnd: ∀c,o.op≠ .defer c:=by
  intro c e;unfold jF at h;rw[e] at h;simp[gO] at h
 refine⟨λ_ _=>trivial,?_⟩
 rw[Oper.semAt_eq _ _ _ hnd];unfold jF at h;split at h
 ·rename_i f args argTypes ho;split at h
  ·rename_i g first captured hf
   split at h
   case isFalse=>cases h
   rename_i hgs;obtain⟨⟨fn,ze,hb,Yk⟩,Uq⟩:=(hC.told _ _ _ _ _ h).1 hgs;have kO:=hE.eval f;rw[hf] at kO;obtain⟨kQ,fK,e,h1,h2⟩:=kO.vM rfl;have ou:cT μ (first.toList++args.toList.map (hY E)++captured.toList) (kQ.toList++args.toList.map a.eval++fK.toList):=
    (h1.append (cT.map hE.eval args.toList)).append h2
   have Dt:=Uq μ w _ hS ou;have uy:(kQ.toList++args.toList.map a.eval++fK.toList).toArray=kQ++args.map a.eval++fK:=by
    rw[←Array.toList_inj];simp
   rw[uy] at Dt;have dF:(execOp a.eval o).run P w= .ok (.enter g (kQ++args.map a.eval++fK)) w:=by
    unfold execOp;rw[ho];have Mq: ¬fn.body=none:=by intro e;rw[e] at hb;simp at hb
    have Ur: ¬fn.name= "runtime.NumGoroutine" :=by simpa using Yk
    simp[resolve,Deferred.ofValue,e,invoke,callFunc,ze,Ur,Mq]
   rw[dF,Oper.uponIn_enter];refine⟨λh=>by simp[Fence.wide] at h,(MA Dt).mono ?_⟩
   rintro e w' ⟨v',μ',rfl,hle,hv,sN,hB⟩;exact hK v' μ' w' hle hv sN hB
  ·rename_i i f1 c1 hf;have kO:=hE.eval f;rw[hf] at kO;obtain⟨_,_,l,hl,e⟩:=kO.PX;have hy:=(hC.told _ _ _ _ _ h).2 i rfl ro (n-1) μ w _ l hS (cT.map hE.eval args.toList) hl;have uy:(args.toList.map a.eval).toArray=args.map a.eval:=by rw[←Array.toList_inj];simp
   rw[uy] at hy;obtain⟨fn,tmps,assign,body,dF,hR⟩:=hy;have hex:(execOp a.eval o).run P w= .ok (.round l.b fn tmps assign body) w:=by
    unfold execOp;rw[ho];simp[resolve,Deferred.ofValue,e,invoke,dF]
   rw[hex,Oper.uponIn_round];refine⟨λh=>by simp[Fence.wide] at h,hR.mono ?_⟩
   rintro e w' ⟨v',μ',rfl,hle,hv,sN,hB⟩;exact hK v' μ' w' hle hv sN hB
  ·cases h
 ·obtain⟨v',μ',w',hr,hle,hv,sN,hB⟩:=IV (o:=o) hS hE.eval h;rcases hr with hr|⟨hr,rfl⟩
  ·rw[hr];exact hK v' μ' w' hle hv sN hB
  ·rw[hr];exact hK undef μ' w' hle hv sN hB
theorem zy {ro:Option Nat}{n:Nat}{C:ae}{ops:Array Oper}{N:Nat}{Q:Exit→Act→World→Prop}(hC:zx P B C): ∀(l:List Oper) (E:Env) (H:aa) (E':Env) (H':aa) (μ:Mu) (a:Act) (w:World),
  eC P C ops l E H=some (E',H')→(∀o∈l,∀d,o.dst=some d→d<N)→N≤a.tmps.size→cJ P μ H w B→gP μ E.get a.tmps→
  (∀a' w' μ',μ.le μ'→gP μ' E'.get a'.tmps→a'.defers=a.defers→a'.tmps.size=a.tmps.size→cJ P μ' H' w' B→eN B w w'→Q .normal a' w')→wpListIn (FR ro) n P ops Q l a w:=by
 intro l;induction l with
 |nil=>
  intro E H E' H' μ a w h _ _ hS hE hQ;simp only[eC] at h;cases h;exact hQ a w μ μ.le_refl hE rfl rfl hS (eN.refl _ _)
 |cons o r ih=>
  intro E H E' H' μ a w h hd hN hS hE hQ;simp only[eC] at h;unfold wpListIn;have Us: ∀t,o.dst=some t→t<a.tmps.size:=λt ht=>Nat.lt_of_lt_of_le (hd o (by simp) t ht) hN
  split at h
  ·rename_i hw;rw[lL hE (by rw[qy];exact hw),if_pos rfl]
   cases hx:gk P C E H o with
   |none=>rw[hx] at h;cases h
   |some q=>
    obtain⟨v,H1⟩:=q;rw[hx] at h;simp only at h;rw[←qz] at hx;refine rk hC hS hE hx ?_;intro v' μ' w' hle hv sN hB;refine ih _ _ _ _ μ' _ w' h (λo ho=>hd o (by simp[ho])) (by rw[mB];exact hN) sN ?_ ?_
    ·have:=gP.put (hE.mono hle) hv o.dst Us
     intro t;rw[Env.aG];exact this t
    ·intro a' w'' Ut lW SX hdf uq Uu hB';exact hQ a' w'' Ut (Mu.le_trans hle lW) SX (by rw[hdf,put_defers]) (by rw[uq,mB]) Uu (hB.trans hB')
  ·rename_i hw;rw[lL hE (by rw[qy];exact hw)]
   simp only[Bool.false_eq_true,if_false];refine⟨λ_ _=>trivial,ih _ _ _ _ μ _ w h (λo ho=>hd o (by simp[ho])) (by rw[mB];exact hN) hS ?_ ?_⟩
   ·have:=gP.put hE (cT.tuple (c:=#[]) (c':=#[]) .nil) o.dst Us
    intro t;rw[Env.aG];exact this t
   ·intro a' w'' Ut lW SX hdf uq Uu hB';exact hQ a' w'' Ut lW SX (by rw[hdf,put_defers]) (by rw[uq,mB]) Uu hB'
  ·cases h
end Go.Proofs.YtgfgglponbmgmaaGreatA.Am
end
