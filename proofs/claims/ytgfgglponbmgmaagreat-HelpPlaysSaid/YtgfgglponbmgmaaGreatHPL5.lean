/- Texts of the proof of helpPlays_holds, put together by a small program of ours (names shortened, spaces taken out). No condition beyond the given statement. -/
import Derived.Test.YtgfgglponbmgmaaGreatHPL1
import Derived.Test.YtgfgglponbmgmaaGreatHPL4
import Derived.OrdersIn
import Derived.TacticsIn
import Derived.Sort.LoopGhostIn
import Derived.RangeFuncIn
import Derived.RangeFuncSeq
import Derived.RangeFuncRecord
set_option linter.unusedVariables false
set_option linter.unusedSimpArgs false
set_option linter.unnecessarySimpa false
noncomputable section
section
namespace Go.Proofs.YtgfgglponbmgmaaGreatA.Am
variable {P:Program} {H H':aa} {i:Nat} {b:eW}
def b9 (H:aa)(i:Nat):Prop:=H[i]? =some .hole
def aa.lay (H:aa)(i:Nat)(b:eW):aa:=H.set i (.zL b)
theorem b9.lt (h:b9 H i):i<H.length:=(List.getElem?_eq_some_iff.1 h).1
theorem b9.get (h:b9 H i):H.get i=none:=by unfold aa.get;rw[h]
theorem b9.ef (h:b9 H i):H.ef i=none:=by unfold aa.ef;rw[h]
@[simp] theorem jV:(H.lay i b).length=H.length:=by simp[aa.lay]
theorem pk (hf:b9 H i){j:Nat}{c:eW}(h:H.get j=some c):(H.lay i b).get j=some c:=by
 have e:j≠i:=by rintro rfl;rw[hf.get] at h;cases h
 rw[←h];exact aa.get_congr (List.getElem?_set_ne (Ne.symm e))
theorem lT (hf:b9 H i){j:Nat}{o:dF}(h:H.ef j=some o):(H.lay i b).ef j=some o:=by
 have e:j≠i:=by rintro rfl;rw[hf.ef] at h;cases h
 rw[←h];exact aa.jM (List.getElem?_set_ne (Ne.symm e))
theorem b9.BV (hf:b9 H i){j:Nat}{c:eW}(h:H.get j=some c):j≠i:=by rintro rfl;rw[hf.get] at h;cases h
theorem b9.wR (hf:b9 H i){j:Nat}{c:dF}(h:H.ef j=some c):j≠i:=by rintro rfl;rw[hf.ef] at h;cases h
theorem b9.set (hf:b9 H i){j:Nat}(h:j≠i)(s:Slot):b9 (H.set j s) i:=by
 unfold b9;rw[List.getElem?_set_ne h];exact hf
theorem b9.new (hf:b9 H i)(c:eW):b9 (H.new c) i:=by
 unfold b9 aa.new;rw[List.getElem?_append_left hf.lt];exact hf
theorem b9.kt (hf:b9 H i)(c:dF):b9 (H.kt c) i:=by
 unfold b9 aa.kt;rw[List.getElem?_append_left hf.lt];exact hf
theorem b9.app (hf:b9 H i)(T:aa):b9 (H++T) i:=by
 unfold b9;rw[List.getElem?_append_left hf.lt];exact hf
theorem rD (hf:b9 H i)(c:eW):(H.lay i b).new c=(H.new c).lay i b:=by
 unfold aa.lay aa.new;rw[List.set_append_left _ _ hf.lt]
theorem D6 (hf:b9 H i)(c:dF):(H.lay i b).kt c=(H.kt c).lay i b:=by
 unfold aa.lay aa.kt;rw[List.set_append_left _ _ hf.lt]
theorem Rt (hf:b9 H i)(T:aa):(H.lay i b)++T=aa.lay (H++T) i b:=by
 unfold aa.lay;rw[List.set_append_left _ _ hf.lt]
theorem rE {j:Nat}(h:j≠i)(s:Slot):(H.lay i b).set j s=aa.lay (H.set j s) i b:=by
 unfold aa.lay;rw[List.set_comm _ _ (Ne.symm h)]
theorem Ru {j:Nat}(h:j≠i)(c:eW):(H.lay i b).put j c=(H.put j c).lay i b:=rE h _
theorem rF {j:Nat}(h:j≠i)(c:dF):(H.lay i b).jK j c=(H.jK j c).lay i b:=rE h _
theorem D7 {j:Nat}(h:j≠i):(H.lay i b).kill j=(H.kill j).lay i b:=rE h _
def Up (i:Nat)(b:eW)(H:aa)(x y:Option (Value×aa)):Prop:=
 b9 H i→∀v H',x=some (v,H')→b9 H' i∧y=some (v,H'.lay i b)
theorem Up.same {x:Option Value}{y:Option Value}(h:b9 H i→∀v,x=some v→y=some v):Up i b H (x.map (·,H)) (y.map (·,H.lay i b)):=by
 intro hf v H' e;rw[Option.map_eq_some_iff] at e;obtain⟨u,hu,e⟩:=e;cases e;exact⟨hf,by rw[h hf _ hu];rfl⟩
theorem oH (hf:b9 H i){j off n:Nat}{vs:List Value}(h:aR H j off n=some vs):aR (H.lay i b) j off n=some vs:=by
 unfold aR at h ⊢;split at h
 ·rename_i c hc;rw[pk hf hc];exact h
 ·cases h
theorem lU (hf:b9 H i){j off:Nat}{vs:List Value}(h:bZ H j off vs=some H'):b9 H' i∧bZ (H.lay i b) j off vs=some (H'.lay i b):=by
 unfold bZ at h ⊢;split at h
 ·rename_i c hc;rw[pk hf hc];split at h
  ·rename_i qa;cases h;simp only[qa,if_true];exact⟨hf.set (hf.BV hc) _,by rw[Ru (hf.BV hc)]⟩
  ·cases h
 ·cases h
theorem tx (hf:b9 H i){t:TypeId}{p v:Value}(h:jj P t p H=some v):jj P t p (H.lay i b)=some v:=by
 unfold jj at h ⊢;split at h
 ·split at h
  ·split at h
   ·split at h
    ·rename_i vs hv;rw[oH hf hv];exact h
    ·cases h
   ·cases h
  ·split at h
   ·rename_i c hc;rw[pk hf hc];exact h
   ·cases h
  ·cases h
 ·cases h
theorem Ko (hf:b9 H i){t:TypeId}{p v:Value}(h:Az P t p v H=some H'):b9 H' i∧Az P t p v (H.lay i b)=some (H'.lay i b):=by
 unfold Az at h ⊢;split at h
 ·split at h
  ·split at h
   ·rename_i hc;simp only[hc,and_self,if_true];exact lU hf h
   ·cases h
  ·cases h
 ·cases h
theorem rG (hf:b9 H i){size n:Nat}{x:Value}{cs:List Value}(h:cJ H size n x=some cs):cJ (H.lay i b) size n x=some cs:=by
 unfold cJ at h ⊢;split at h
 ·split at h
  ·rename_i h0;rw[if_pos h0];exact h
  ·rename_i h0;rw[if_neg h0];exact oH hf h
 ·exact h
 ·cases h
theorem NW (hf:b9 H i){t:TypeId}{size bytes:Nat}{z x:Value}{r:Nat×List Value}(h:Ke P H t size bytes z x=some r):Ke P (H.lay i b) t size bytes z x=some r:=by
 unfold Ke at h ⊢;split at h
 ·exact h
 ·rw[Option.map_eq_some_iff] at h;obtain⟨cs,h1,h2⟩:=h;rw[rG hf h1];simp[h2]
 ·cases h
theorem D8 {ts:Array TypeId}{s x:Value}:Up i b H (pe P ts s x H) (pe P ts s x (H.lay i b)):=by
 intro hf v H' h;unfold pe at h ⊢;split at h
 case h_2=>cases h
 split at h
 case h_2=>cases h
 split at h
 case h_2=>cases h
 split at h
 case h_2=>cases h
 rename_i r n new hg;rw[NW hf hg];simp only at h ⊢;split at h
 ·rename_i hle;rw[if_pos hle];split at h
  ·cases h;exact⟨hf,rfl⟩
  ·split at h
   ·rename_i h0;cases h;rw[if_pos h0];exact⟨hf,rfl⟩
   ·rename_i h0;rw[if_neg h0];split at h
    ·rename_i c hc;rw[pk hf hc];simp only;split at h
     ·rename_i he;rw[if_pos he];rw[Option.map_eq_some_iff] at h;obtain⟨H2,h1,h2⟩:=h;cases h2;obtain⟨k1,k2⟩:=lU (b:=b) hf h1;exact⟨k1,by rw[k2];rfl⟩
     ·cases h
    ·cases h
  ·cases h
 ·rename_i hle;rw[if_neg hle];split at h
  ·rename_i hb;rw[if_pos hb];split at h
   ·split at h
    ·rename_i h0;cases h;rw[if_pos h0];exact⟨hf.new _,by rw[rD hf,jV]⟩
    ·cases h
   ·split at h
    ·rename_i c hc;rw[pk hf hc];simp only;split at h
     ·rename_i he;rw[if_pos he];split at h
      ·rename_i old hold;cases h;rw[oH hf hold];simp only;have hk:b9 (H.kill _) i:=hf.set (hf.BV hc) _;refine⟨hk.new _,?_⟩;rw[D7 (hf.BV hc),rD hk,jV]
      ·cases h
     ·cases h
    ·cases h
   ·cases h
  ·cases h
theorem Kp {ts:Array TypeId}{d s:Value}:Up i b H (AA P ts d s H) (AA P ts d s (H.lay i b)):=by
 intro hf v H' h;unfold AA at h ⊢;split at h
 case h_2=>cases h
 split at h
 case h_2=>cases h
 split at h
 case h_2=>cases h
 simp only at h ⊢;split at h
 case h_2=>cases h
 rename_i cs rp;rw[rG hf rp];simp only;split at h
 ·cases h;exact⟨hf,rfl⟩
 ·split at h
  ·rename_i h0;cases h;rw[if_pos h0];exact⟨hf,rfl⟩
  ·rename_i h0;rw[if_neg h0];rw[Option.map_eq_some_iff] at h;obtain⟨H2,h1,h2⟩:=h;cases h2;obtain⟨k1,k2⟩:=lU (b:=b) hf h1;exact⟨k1,by rw[k2];rfl⟩
 ·cases h
theorem Gc {ts:Array TypeId}{x:Value}:Up i b H (sY P ts x H) (sY P ts x (H.lay i b)):=by
 intro hf v H' h;unfold sY at h ⊢;split at h
 case h_2=>cases h
 split at h
 case h_2=>cases h
 split at h
 ·cases h;exact⟨hf,rfl⟩
 ·split at h
  ·rename_i h0;cases h;rw[if_pos h0];exact⟨hf,rfl⟩
  ·rename_i h0;rw[if_neg h0];rw[Option.map_eq_some_iff] at h;obtain⟨H2,h1,h2⟩:=h;cases h2;obtain⟨k1,k2⟩:=lU (b:=b) hf h1;exact⟨k1,by rw[k2];rfl⟩
 ·cases h
theorem wS (hf:b9 H i){t:TypeId}{x v:Value}{lo hi:Option Value}(h:oq P H t x lo hi=some v):oq P (H.lay i b) t x lo hi=some v:=by
 unfold oq at h ⊢;split at h
 case h_2=>cases h
 split at h
 case h_2=>cases h
 split at h
 case h_2=>cases h
 split at h
 case isFalse=>cases h
 rename_i hc;rw[if_pos hc];split at h
 ·exact h
 ·split at h
  ·rename_i c hc;rw[pk hf hc];exact h
  ·split at h
   case isFalse=>cases h
   rename_i hl0 hh0 hx0 hc0;cases h;obtain⟨g1,g2,g3,g4⟩:=hc;subst hc0;split
   ·split
    ·simp only[Option.some.injEq,Value.slice.injEq,Addr.mk.injEq];refine⟨⟨trivial,?_,trivial⟩,?_,?_⟩;all_goals first|omega| (rw[show Int.toNat _=0 by omega];omega)
    ·rfl
   ·rfl
 ·cases h
theorem D9 (hf:b9 H i){t:TypeId}{x v m:Value}{lo hi:Option Value}(h:pg P H t x lo hi m=some v):pg P (H.lay i b) t x lo hi m=some v:=by
 unfold pg at h ⊢;split at h
 ·split at h
  ·rename_i hc;rw[if_pos hc];exact wS hf h
  ·cases h
 ·cases h
theorem Kq (hf:b9 H i){q:IntKind}{z m x v:Value}{ok:Bool}(h:DQ q z ok m x H=some v):DQ q z ok m x (H.lay i b)=some v:=by
 unfold DQ at h ⊢;split at h
 ·split at h
  ·rename_i hc;rw[lT hf hc];exact h
  ·cases h
 ·cases h
theorem Ea (hf:b9 H i){t:TypeId}{m x v:Value}{ok:Bool}(h:pf P t m x ok H=some v):pf P t m x ok (H.lay i b)=some v:=by
 unfold pf at h ⊢;split at h
 ·exact Kq hf h
 ·cases h
theorem NX (hf:b9 H i){m v:Value}(h:Kf m H=some v):Kf m (H.lay i b)=some v:=by
 unfold Kf at h ⊢;split at h
 ·split at h
  ·rename_i hc;rw[lT hf hc];exact h
  ·cases h
 ·cases h
theorem NY (hf:b9 H i){ts:Array TypeId}{x v:Value}(h:BE P H ts x=some v):BE P (H.lay i b) ts x=some v:=by
 unfold BE at h ⊢;split at h
 ·split at h
  ·exact NX hf h
  ·exact h
  ·exact h
  ·exact h
  ·cases h
 ·cases h
theorem NZ {q:IntKind}{m x u:Value}:Up i b H (NJ q m x u H) (NJ q m x u (H.lay i b)):=by
 intro hf v H' h;unfold NJ at h ⊢;split at h
 ·split at h
  ·rename_i hc;rw[lT hf hc];simp only;split at h
   ·rename_i hq;cases h;rw[if_pos hq];exact⟨hf.set (hf.wR hc) _,by rw[rF (hf.wR hc)]⟩
   ·cases h
  ·cases h
 ·cases h
theorem N0 {q:IntKind}{m x:Value}:Up i b H (NK q m x H) (NK q m x (H.lay i b)):=by
 intro hf v H' h;unfold NK at h ⊢;split at h
 ·split at h
  ·rename_i hc;rw[lT hf hc];simp only;split at h
   ·rename_i hq;cases h;rw[if_pos hq];exact⟨hf.set (hf.wR hc) _,by rw[rF (hf.wR hc)]⟩
   ·cases h
  ·cases h
 ·cases h
theorem BW {c:Builtin}{ts:Array TypeId}{aq':List Value}:Up i b H (jY P c ts aq' H) (jY P c ts aq' (H.lay i b)):=by
 intro hf v H' h;unfold jY at h ⊢;split at h
 ·exact D8 hf v H' h
 ·exact Kp hf v H' h
 ·exact Up.same (λhf v h=>NY hf h) hf v H' h
 ·exact Gc hf v H' h
 ·unfold vq at h ⊢;split at h
  ·exact N0 hf v H' h
  ·cases h
 ·split at h
  ·cases h;exact⟨hf,rfl⟩
  ·cases h
 ·split at h
  ·rename_i hk;cases h;rw[if_pos hk];exact⟨hf,rfl⟩
  ·cases h
 ·split at h
  ·rename_i hk;cases h;rw[if_pos hk];exact⟨hf,rfl⟩
  ·cases h
 ·cases h
theorem uY {t:TypeId}{n:Nat}{ps:List (Nat×Value)}:Up i b H (ay P t n ps H) (ay P t n ps (H.lay i b)):=by
 intro hf v H' h;unfold ay at h ⊢;split at h
 ·cases h
 ·rename_i h1;rw[if_neg h1];split at h
  ·split at h
   ·split at h
    ·rename_i h2;rw[if_pos h2];split at h
     ·cases h;exact⟨hf.new _,by rw[rD hf,jV]⟩
     ·cases h
    ·cases h
   ·cases h
  ·cases h
theorem wT {t:TypeId}{l c:Value}:Up i b H (gh P t l c H) (gh P t l c (H.lay i b)):=by
 intro hf v H' h;unfold gh at h ⊢;split at h
 ·split at h
  ·split at h
   ·rename_i h2;rw[if_pos h2];cases h;exact⟨hf.new _,by rw[rD hf,jV]⟩
   ·cases h
  ·cases h
 ·cases h
theorem wU {t:TypeId}{es:Nat}{cs:List Value}:Up i b H (some (aV H t es cs)) (some (aV (H.lay i b) t es cs)):=by
 intro hf v H' h;unfold aV at h ⊢;cases h;exact⟨hf.new _,by rw[rD hf,jV]⟩
theorem pn {ρ:Operand→Value}{op:Op}:Up i b H (gU P ρ H op) (gU P ρ (H.lay i b) op):=by
 intro hf v H' h;unfold gU at h ⊢;split at h<;>try(simp only)
 ·cases h;exact⟨hf,rfl⟩
 ·cases h;exact⟨hf,rfl⟩
 ·split at h
  ·cases h;exact⟨hf,rfl⟩
  ·cases h
 ·split at h
  ·exact wU hf v H' h
  ·cases h
 ·split at h
  ·rename_i h1;rw[if_pos h1];exact wU hf v H' h
  ·cases h
 ·exact Up.same (λ_ _ h=>h) hf v H' h
 ·exact uY hf v H' h
 ·exact Up.same (λhf _ h=>tx hf h) hf v H' h
 ·rw[Option.map_eq_some_iff] at h;obtain⟨H2,h1,h2⟩:=h;cases h2;obtain⟨k1,k2⟩:=Ko (b:=b) hf h1;exact⟨k1,by rw[k2];rfl⟩
 ·split at h
  ·cases h;exact⟨hf,rfl⟩
  ·cases h;exact⟨hf,rfl⟩
  ·cases h
 ·exact Up.same (λ_ _ h=>h) hf v H' h
 ·exact Up.same (λ_ _ h=>h) hf v H' h
 ·split at h
  ·cases h;exact⟨hf,rfl⟩
  ·cases h
 ·cases h;exact⟨hf,rfl⟩
 ·exact wT hf v H' h
 ·exact Up.same (λhf _ h=>wS hf h) hf v H' h
 ·exact Up.same (λhf _ h=>D9 hf h) hf v H' h
 ·unfold q7 at h ⊢;split at h
  ·unfold mmk at h ⊢;cases h;exact⟨hf.kt _,by rw[D6 hf,jV]⟩
  ·cases h
 ·exact Up.same (λhf _ h=>Ea hf h) hf v H' h
 ·unfold mY at h ⊢;split at h
  ·exact NZ hf v H' h
  ·cases h
 ·repeat' split at h
  all_goals first| (cases h;exact⟨hf,rfl⟩)|cases h
 ·repeat' split at h
  all_goals first| (exact Up.same (λ_ _ h=>h) hf v H' h)|cases h
 ·repeat' split at h
  all_goals first| (rename_i hb;cases h;rw[if_pos hb];exact⟨hf,rfl⟩)|cases h
 ·split at h
  ·split at h
   ·split at h
    ·rename_i hb;rw[if_pos hb];exact Up.same (λ_ _ h=>h) hf v H' h
    ·cases h
   ·cases h
  ·split at h
   ·rename_i hb;rw[if_pos hb];rw[Option.map_eq_some_iff] at h;obtain⟨u,hu,e⟩:=h;cases e;exact⟨hf,by rw[hu];rfl⟩
   ·cases h
  ·cases h
 ·repeat' split at h
  all_goals first| (exact Up.same (λ_ _ h=>h) hf v H' h)|cases h
 ·exact BW hf v H' h
 ·cases h
def gK (C:ae):Prop:=∀f args H i b,Up i b H (C f args H) (C f args (H.lay i b))
theorem tz {C:ae}(hC:gK C){E:Env}{o:Oper}:Up i b H (gA P C E H o) (gA P C E (H.lay i b) o):=by
 intro hf v H' h;unfold gA at h ⊢;split at h
 ·split at h
  ·split at h
   ·rename_i h1;rw[if_pos h1];exact hC _ _ _ _ _ hf v H' h
   ·cases h
  ·exact hC _ _ _ _ _ hf v H' h
  ·cases h
 ·exact pn hf v H' h
theorem AL {ρ:Operand→Value}{op:Op}{j:Nat}(hj:j≠i):Up i b H (pY P ρ j H op) (pY P ρ j (H.lay i b) op):=by
 intro hf v H' h;unfold pY at h ⊢;have e:(H.lay i b)[j]? =H[j]? :=List.getElem?_set_ne (Ne.symm hj);rw[e];split at h
 ·split at h
  ·rename_i hb;cases h;exact⟨hf.set hj _,by simp only[rE hj]⟩
  ·cases h
 ·cases h
theorem wV {C:ae}(hC:gK C){F:List Nat}{base k:Nat}(hb:i<base){E:Env}{o:Oper}:Up i b H (dA P C F base k E H o) (dA P C F base k E (H.lay i b) o):=by
 intro hf v H' h;unfold dA at h ⊢;split at h
 ·rename_i h1;rw[if_pos h1];exact AL (by omega) hf v H' h
 ·rename_i h1;rw[if_neg h1];exact tz hC hf v H' h
theorem qB {C:ae}(hC:gK C){ops:Array Oper}: ∀(l:List Oper) (E E':Env) (H H':aa),b9 H i→eJ P C ops l E H=some (E',H')→
  b9 H' i∧eJ P C ops l E (H.lay i b)=some (E',H'.lay i b)∧trace P C ops l E (H.lay i b)=(trace P C ops l E H).map λp=>(p.1,p.2.lay i b):=by
 intro l;induction l with
 |nil=>intro E E' H H' hf h;simp only[eJ] at h;cases h;exact⟨hf,rfl,rfl⟩
 |cons o r ih=>
  intro E E' H H' hf h;simp only[eJ] at h;split at h
  ·rename_i hw;cases hx:gA P C E H o with
   |none=>rw[hx] at h;cases h
   |some q=>
    obtain⟨v,H1⟩:=q;rw[hx] at h;obtain⟨f1,e1⟩:=tz (b:=b) hC hf v H1 hx;obtain⟨f2,e2,e3⟩:=ih _ _ _ _ f1 h;exact⟨f2,by simp only[eJ,hw,e1,e2],by simp only[trace,hw,e1,hx,e3,List.map_cons]⟩
  ·rename_i hw;obtain⟨f2,e2,e3⟩:=ih _ _ _ _ hf h;exact⟨f2,by simp only[eJ,hw,e2],by simp only[trace,hw,e3,List.map_cons]⟩
  ·cases h
theorem uw {C:ae}(hC:gK C){F:List Nat}{base:Nat}(hb:i<base){ops:Array Oper}: ∀(l:List Oper) (k:Nat) (E E':Env) (H H':aa),b9 H i→c8 P C F base ops l k E H=some (E',H')→
  b9 H' i∧c8 P C F base ops l k E (H.lay i b)=some (E',H'.lay i b)∧eB P C F base ops l k E (H.lay i b)=(eB P C F base ops l k E H).map λp=>(p.1,p.2.lay i b):=by
 intro l;induction l with
 |nil=>intro k E E' H H' hf h;simp only[c8] at h;cases h;exact⟨hf,rfl,rfl⟩
 |cons o r ih=>
  intro k E E' H H' hf h;simp only[c8] at h;split at h
  ·rename_i hw;cases hx:dA P C F base k E H o with
   |none=>rw[hx] at h;cases h
   |some q=>
    obtain⟨v,H1⟩:=q;rw[hx] at h;obtain⟨f1,e1⟩:=wV (b:=b) hC hb hf v H1 hx;obtain⟨f2,e2,e3⟩:=ih _ _ _ _ _ f1 h;exact⟨f2,by simp only[c8,hw,e1,e2],by simp only[eB,hw,e1,hx,e3,List.map_cons]⟩
  ·rename_i hw;obtain⟨f2,e2,e3⟩:=ih _ _ _ _ _ hf h;exact⟨f2,by simp only[c8,hw,e2],by simp only[eB,hw,e3,List.map_cons]⟩
  ·cases h
theorem Gd {C:ae}(hC:gK C){ops:Array Oper}: ∀(l:List Oper) (E E':Env) (H H':aa),b9 H i→eJ P C ops l E H=some (E',H')→∀p∈trace P C ops l E H,b9 p.2 i:=by
 intro l;induction l with
 |nil=>intro E E' H H' hf _ p hp;simp only[trace,List.mem_singleton] at hp;subst hp;exact hf
 |cons o r ih=>
  intro E E' H H' hf h p hp;simp only[eJ] at h;split at h
  ·rename_i hw;cases hx:gA P C E H o with
   |none=>rw[hx] at h;cases h
   |some q=>
    obtain⟨v,H1⟩:=q;rw[hx] at h;obtain⟨f1,_⟩:=tz (b:=default) hC hf v H1 hx;simp only[trace,hw,hx] at hp;rcases List.mem_cons.1 hp with rfl|hp
    ·exact hf
    ·exact ih _ _ _ _ f1 h p hp
  ·rename_i hw;simp only[trace,hw] at hp;rcases List.mem_cons.1 hp with rfl|hp
   ·exact hf
   ·exact ih _ _ _ _ hf h p hp
  ·cases h
theorem Eb {C:ae}(hC:gK C){F:List Nat}{base:Nat}(hb:i<base){ops:Array Oper}: ∀(l:List Oper) (k:Nat) (E E':Env) (H H':aa),b9 H i→c8 P C F base ops l k E H=some (E',H')→∀p∈eB P C F base ops l k E H,b9 p.2 i:=by
 intro l;induction l with
 |nil=>intro k E E' H H' hf _ p hp;simp only[eB,List.mem_singleton] at hp;subst hp;exact hf
 |cons o r ih=>
  intro k E E' H H' hf h p hp;simp only[c8] at h;split at h
  ·rename_i hw;cases hx:dA P C F base k E H o with
   |none=>rw[hx] at h;cases h
   |some q=>
    obtain⟨v,H1⟩:=q;rw[hx] at h;obtain⟨f1,_⟩:=wV (b:=default) hC hb hf v H1 hx;simp only[eB,hw,hx] at hp;rcases List.mem_cons.1 hp with rfl|hp
    ·exact hf
    ·exact ih _ _ _ _ _ f1 h p hp
  ·rename_i hw;simp only[eB,hw] at hp;rcases List.mem_cons.1 hp with rfl|hp
   ·exact hf
   ·exact ih _ _ _ _ _ hf h p hp
  ·cases h
theorem wW {ops:Array Oper}{T:List (Env×aa)}{c:Nat×Nat}(hT: ∀p∈T,b9 p.2 i)(h:iV P ops T c=true):iV P ops (T.map λp=>(p.1,p.2.lay i b)) c=true:=by
 unfold iV at h ⊢;simp only[List.getElem?_map];cases h1:T[c.1]? with
 |none=>rw[h1] at h;cases h
 |some p1=>
  cases h2:T[c.2]? with
  |none=>rw[h1,h2] at h;cases h
  |some p2=>
   cases h3:T[c.2+1]? with
   |none=>rw[h1,h2,h3] at h;cases h
   |some p3=>
    rw[h1,h2,h3] at h;obtain⟨E1,H1⟩:=p1;obtain⟨E2,H2⟩:=p2;obtain⟨E3,H3⟩:=p3;simp only[Option.map_some] at h ⊢;cases h4:ops[c.1]? with
    |none=>rw[h4] at h;cases h
    |some x=>
     cases h5:ops[c.2]? with
     |none=>rw[h4,h5] at h;cases h
     |some y=>
      rw[h4,h5] at h;simp only at h ⊢;split at h
      ·have f1:=hT _ (List.mem_of_getElem? h1);have f2:=hT _ (List.mem_of_getElem? h2);have f3:=hT _ (List.mem_of_getElem? h3);split at h
       ·rename_i u K1 u1 K2 u2 K3 e1 e2 e3;rw[(pn (b:=b) f1 _ _ e1).2,(pn (b:=b) f2 _ _ e2).2,(pn (b:=b) f3 _ _ e3).2];exact h
       ·cases h
      ·exact h
      ·cases h
theorem Aa {C:ae}(hC:gK C){ops:Array Oper}{draw:Bool}{E E':Env}(hf:b9 H i)(h:fh P C ops draw E H=some (E',H')):b9 H' i∧fh P C ops draw E (H.lay i b)=some (E',H'.lay i b):=by
 unfold fh at h ⊢;cases draw with
 |false=>
  simp only[Bool.false_eq_true,if_false] at h ⊢;obtain⟨h1,h2,_⟩:=qB (b:=b) hC _ _ _ _ _ hf h;exact⟨h1,h2⟩
 |true=>
  simp only[if_true] at h ⊢;cases hF:lQ P ops with
  |nil=>
   rw[hF] at h;simp only at h ⊢;cases hc:mI P ops with
   |nil=>
    rw[hc] at h;obtain⟨h1,h2,_⟩:=qB (b:=b) hC _ _ _ _ _ hf h;exact⟨h1,h2⟩
   |cons c cs=>
    rw[hc] at h;simp only at h ⊢;split at h
    ·rename_i jy;obtain⟨h1,h2,h3⟩:=qB (b:=b) hC _ _ _ _ _ hf h;refine⟨h1,?_⟩;rw[if_pos,h2];rw[h3];rw[List.all_eq_true] at jy ⊢;exact λx hx=>wW (Gd hC _ _ _ _ _ hf h) (jy x hx)
    ·cases h
  |cons f F=>
   rw[hF] at h;have zX:b9 (H.cF (f::F).length) i:=hf.app _;have e:(H.lay i b).cF (f::F).length=(H.cF (f::F).length).lay i b:=Rt hf _;simp only[jV] at h ⊢;rw[e];cases hc:mI P ops with
   |nil=>
    rw[hc] at h;obtain⟨h1,h2,_⟩:=uw (b:=b) hC hf.lt _ _ _ _ _ _ zX h;exact⟨h1,h2⟩
   |cons c cs=>
    rw[hc] at h;simp only at h ⊢;split at h
    ·rename_i jy;obtain⟨h1,h2,h3⟩:=uw (b:=b) hC hf.lt _ _ _ _ _ _ zX h;refine⟨h1,?_⟩;rw[if_pos,h2];rw[h3];rw[List.all_eq_true] at jy ⊢;exact λx hx=>wW (Eb hC hf.lt _ _ _ _ _ _ zX h) (jy x hx)
    ·cases h
theorem BX {C:ae}(hC:gK C){keep:List Nat}{n:Nat}: ∀(c:Code) (vs:List Value) (H:aa) (r:bA×List Value×aa),b9 H i→ev P C keep n c vs H=some r→
  b9 r.2.2 i∧ev P C keep n c vs (H.lay i b)=some (r.1,r.2.1,r.2.2.lay i b):=by
 intro c;induction c with
 |skip=>intro vs H r hf h;simp only[ev] at h;cases h;exact⟨hf,rfl⟩
 |label l=>intro vs H r hf h;simp only[ev] at h;cases h;exact⟨hf,rfl⟩
 |exit id=>intro vs H r hf h;simp only[ev] at h;cases h;exact⟨hf,rfl⟩
 |ret=>intro vs H r hf h;simp only[ev] at h;cases h;exact⟨hf,rfl⟩
 |goto l=>intro vs H r hf h;simp only[ev] at h;cases h
 |refuse s=>intro vs H r hf h;simp only[ev] at h;cases h
 |rangeFunc g ps x y _ _=>
  intro vs H r hf h;simp only[ev] at h ⊢;split at h
  case h_2=>cases h
  split at h
  case isFalse=>cases h
  rename_i gH;rw[if_pos gH,jV,D6 hf];split at h
  ·rename_i u H2 hx;obtain⟨f1,e1⟩:=hC _ _ _ i b (hf.kt _) _ _ hx;rw[e1];simp only;cases ho:H2.ef H.length with
   |none=>rw[ho] at h;simp[zV] at h
   |some o=>
    have dC:H.length≠i:=by have:=hf.lt;omega
    rw[lT f1 ho,D7 dC];rw[ho] at h;have fk:b9 (H2.kill H.length) i:=f1.set dC _;unfold zV at h ⊢;cases o with
    |FG _ _=>cases h
    |loop L s=>cases s<;>simp only at h<;>cases h<;>exact⟨fk,rfl⟩
  ·cases h
 |region id ops draw=>
  intro vs H r hf h;simp only[ev] at h ⊢;split at h
  ·rename_i E H1 hr;cases h;obtain⟨f1,e1⟩:=Aa (b:=b) hC hf hr;rw[e1];exact⟨f1,rfl⟩
  ·cases h
 |seq x y VV VW=>
  intro vs H r hf h;simp only[ev] at h ⊢;cases hx:ev P C keep n x vs H with
  |none=>rw[hx] at h;cases h
  |some q=>
   obtain⟨e1,Ge,H1⟩:=q;obtain⟨f1,k1⟩:=VV _ _ _ hf hx;rw[hx] at h;rw[k1];cases e1 with
   |normal=>exact VW _ _ _ f1 h
   |exit id=>cases h;exact⟨f1,rfl⟩
   |ret=>cases h;exact⟨f1,rfl⟩
 |cond c x y VV VW=>
  intro vs H r hf h;simp only[ev] at h ⊢;split at h
  ·rename_i t _;cases t with
   |true=>exact VV _ _ _ hf h
   |false=>exact VW _ _ _ hf h
  ·cases h
 |block id c ih=>
  intro vs H r hf h;simp only[ev] at h ⊢;cases hx:ev P C keep n c vs H with
  |none=>rw[hx] at h;cases h
  |some q=>
   obtain⟨e1,Ge,H1⟩:=q;obtain⟨f1,k1⟩:=ih _ _ _ hf hx;rw[hx] at h;rw[k1];cases e1 with
   |normal=>cases h;exact⟨f1,rfl⟩
   |ret=>cases h;exact⟨f1,rfl⟩
   |exit Z6=>
    simp only at h ⊢;split at h<;>(rename_i N1;cases h;first|rw[if_pos N1]|rw[if_neg N1])<;>exact⟨f1,rfl⟩
 |scope c ih=>intro vs H r hf h;simp only[ev] at h ⊢;exact ih _ _ _ hf h
 |loop c ih=>
  intro vs H r hf h;simp only[ev] at h ⊢;have key: ∀k vs H,b9 H i→iter k (ev P C keep n c) vs H=some r→b9 r.2.2 i∧iter k (ev P C keep n c) vs (H.lay i b)=some (r.1,r.2.1,r.2.2.lay i b):=by
   intro k;induction k with
   |zero=>intro vs H _ h;simp only[iter] at h;cases h
   |succ k ihk=>
    intro vs H hf h;simp only[iter] at h ⊢;cases hx:ev P C keep n c vs H with
    |none=>rw[hx] at h;cases h
    |some q=>
     obtain⟨e1,Ge,H1⟩:=q;obtain⟨f1,k1⟩:=ih _ _ _ hf hx;rw[hx] at h;rw[k1];cases e1 with
     |normal=>exact ihk _ _ f1 h
     |exit id=>cases h;exact⟨f1,rfl⟩
     |ret=>cases h;exact⟨f1,rfl⟩
  exact key n vs H hf h
theorem Gf {C:ae}(hC:gK C){n j:Nat}{args:List Value}:Up i b H (qv P C n j args H) (qv P C n j args (H.lay i b)):=by
 intro hf v H' h;unfold qv at h ⊢;split at h
 case h_2=>cases h
 rename_i L ho;rw[lT hf ho];simp only;split at h
 case isFalse=>cases h
 rename_i hl;rw[if_pos hl];split at h
 case h_2=>cases h
 rename_i vs H1 hx;obtain⟨f1,e1⟩:=BX (b:=b) hC _ _ _ _ hf hx;rw[e1];simp only;split at h
 case h_2=>cases h
 rename_i L1 Kr;rw[lT f1 Kr];simp only;have dC:j≠i:=f1.wR Kr;rw[rF dC];split at h
 case h_2=>cases h
 rename_i e VX H2 hy;obtain⟨f2,e2⟩:=BX (b:=b) hC _ _ _ _ (f1.set dC (.ef (.loop L1 .busy))) hy;have e2':ev P C L.keep n L.body vs ((H1.jK j (.loop L1 .busy)).lay i b)=some (e,VX,H2.lay i b):=e2;rw[e2'];simp only;unfold Rl at h ⊢;split at h
 case h_2=>cases h
 rename_i L2 DC;rw[lT f2 DC];simp only;cases h;exact⟨f2.set dC _,by rw[rF dC]⟩
theorem AM {bad:List FuncId}{G:ae}(hG:gK G): ∀n,gK (gC P bad G n):=by
 intro n;induction n with
 |zero=>intro f args H i b hf v H' h;simp only[gC] at h;cases h
 |succ n ih=>
  intro f args H i b hf v H' h;simp only[gC] at h ⊢;split at h
  ·rename_i hb;rw[if_pos hb];exact hG _ _ _ _ _ hf v H' h
  ·rename_i hb;rw[if_neg hb];have res: ∀(fn:Func) (E:Env) (H2:aa) (u:Value),b9 H2 i→BG P fn E H2=some u→BG P fn E (H2.lay i b)=some u:=by
    intro fn E H2 u hf h;unfold BG at h ⊢;rw[Option.map_eq_some_iff] at h ⊢;obtain⟨vs,h1,h2⟩:=h;refine⟨vs,?_,h2⟩;revert vs
    induction fn.results.toList with
    |nil=>intro vs h1 _;exact h1
    |cons r l Q3=>
     intro vs h1 h2;rw[List.mapM_cons] at h1 ⊢;simp only[Option.bind_eq_bind,Option.bind_eq_some_iff] at h1 ⊢;obtain⟨x,hx,ys,ZG,e⟩:=h1;refine⟨x,?_,ys,?_,e⟩
     ·cases r with
      |tmp t=>exact hx
      |cell a t=>exact tx hf hx
     ·have: ∀vs,List.mapM (λ(r:ResultVar)=>match r with| .tmp t=>some (E.get t)| .cell a t=>jj P t (E.get a) H2) l=some vs→List.mapM (λ(r:ResultVar)=>match r with| .tmp t=>some (E.get t)| .cell a t=>jj P t (E.get a) (H2.lay i b)) l=some vs:=by
       clear ZG Q3 h2 e hx x ys vs;induction l with
       |nil=>intro vs h;exact h
       |cons r l Q3=>
        intro vs h1;rw[List.mapM_cons] at h1 ⊢;simp only[Option.bind_eq_bind,Option.bind_eq_some_iff] at h1 ⊢;obtain⟨x,hx,ys,ZG,e⟩:=h1;refine⟨x,?_,ys,Q3 _ ZG,e⟩;cases r with
        |tmp t=>exact hx
        |cell a t=>exact tx hf hx
      exact this _ ZG
   split at h
   ·split at h
    ·rename_i fn zP c hc;split at h
     ·rename_i vs H2 AN;obtain⟨f1,e1⟩:=BX (b:=b) ih _ _ _ _ hf AN;rw[e1];simp only;rw[Option.map_eq_some_iff] at h;obtain⟨u,hu,e⟩:=h;cases e;exact⟨f1,by rw[res _ _ _ _ f1 hu];rfl⟩
     ·rename_i vs H2 AN;obtain⟨f1,e1⟩:=BX (b:=b) ih _ _ _ _ hf AN;rw[e1];simp only;rw[Option.map_eq_some_iff] at h;obtain⟨u,hu,e⟩:=h;cases e;exact⟨f1,by rw[res _ _ _ _ f1 hu];rfl⟩
     ·cases h
    ·cases h
   ·exact Gf ih hf v H' h
end Go.Proofs.YtgfgglponbmgmaaGreatA.Am
end
section
namespace Go.Proofs.YtgfgglponbmgmaaGreatA.Am
open Go.RowKit (Below)
variable {P:Program} {μ:Mu} {H H':aa} {w:World} {B:Nat}
abbrev FR (ro:Option Nat):Fence:={Fence.wide with round:=ro}
theorem N4 {ro:Option Nat}{n:Nat}{f:FuncId}{args:Array Value}{R:Ending→World→Prop}(h:Calls P f args w R):CallsIn (FR ro) n P f args w R:=callsIn_wide (n:=n).2 h
def HT (P:Program)(B:Nat)(μ:Mu)(w:World)(v:Value)(H':aa):Ending→World→Prop:=
 λe w'=>∃v' μ',e= .returned v'∧μ.le μ'∧VR μ' v v'∧cQ P μ' H' w' B∧eX B w w'
def BY (P:Program)(B:Nat)(f:FuncId)(args:List Value)(H:aa)(v:Value)(H':aa):Prop:=
 ∀(μ:Mu) (w:World) (fC:List Value),cQ P μ H w B→cY μ args fC→Calls P f fC.toArray w (HT P B μ w v H')
def N5 (P:Program)(B:Nat)(i:Nat)(args:List Value)(H:aa)(v:Value)(H':aa):Prop:=
 ∀(ro:Option Nat) (n:Nat) (μ:Mu) (w:World) (fC:List Value) (l:Loc),cQ P μ H w B→cY μ args fC→μ i=some l→YieldAt (FR ro) n P l.b fC.toArray w (HT P B μ w v H')
structure Ab (P:Program) (B:Nat) (C:ae):Prop where
 told: ∀f args H v H',C f args H=some (v,H')→
  (f<P.funcs.size→(∃fn,P.funcs[f]? =some fn∧fn.body.isSome=true∧(fn.name== "runtime.NumGoroutine")=false)∧BY P B f args H v H')∧
  (∀i,f=P.funcs.size+i→N5 P B i args H v H')
 hole:gK C
def iy (E:Nat→Value):Operand→Value
 | .tmp t=>E t
 | .const v=>if fR v then v else HN
 | .global _=>HN
 | .func f=>.func (.func f) #[] #[]
theorem gj (E:Env):iy E.get=eF E:=by funext x;cases x<;>rfl
theorem gV.eval {E:Nat→Value}{a:Act}(h:gV μ E a.tmps)(x:Operand):VR μ (iy E x) (a.eval x):=by
 cases x with
 |tmp t=>exact h t
 |const v=>
  show VR μ (if fR v then v else HN) v
  split
  ·rename_i hc;exact .closed hc
  ·exact .HN _
 |global g=>exact .HN _
 |func f=>exact .func _ _ _ _ _ rfl rfl rfl (λj h=>by simp at h) (λj h=>by simp at h)
theorem gV.put {E:Nat→Value}{a:Act}{v v':Value}(h:gV μ E a.tmps)(hv:VR μ v v')(d:Option Nat)(hd: ∀t,d=some t→t<a.tmps.size):
  gV μ (λt=>if d=some t then v else E t) (a.put d v').tmps:=by
 intro t;cases d with
 |none=>simpa[Act.put] using h t
 |some s=>
  simp only[Act.put];by_cases e:s=t
  ·subst e;have:=hd s rfl
   simp[this,hv]
  ·have e2:(some s:Option Nat)≠some t:=λx=>e (Option.some.inj x)
   simp only[e2,if_false];have:=h t
   simpa[Array.getD_eq_getD_getElem?,Array.getElem?_setIfInBounds_ne e] using this
theorem Env.aG (E:Env)(d:Option Nat)(v:Value)(t:Nat):(E.put d v).get t=if d=some t then v else E.get t:=by
 cases d with
 |none=>simp[Env.put]
 |some s=>
  simp only[Env.put,Env.get,Option.some.injEq];by_cases e:t=s
  ·subst e;simp
  ·rw[if_neg e,if_neg (Ne.symm e)]
theorem mN (a:Act)(d:Option Nat)(v:Value):(a.put d v).tmps.size=a.tmps.size:=by cases d<;>simp[Act.put]
theorem put_defers (a:Act)(d:Option Nat)(v:Value):(a.put d v).defers=a.defers:=by cases d<;>simp[Act.put]
def qC (ops:Array Oper)(o:Oper)(E:Nat→Value):Option Bool:=
 match o.guard with
 |none=>some true
 |some (j,want)=>match (ops[j]?).bind (·.dst) with
  |some d=>match E d with
   | .bool b=>some (b==want)
   | .tuple vs=>if vs.isEmpty then some false else none
   |_=>none
  |none=>none
theorem qD (ops:Array Oper)(o:Oper)(E:Env):qC ops o E.get=dG ops o E:=rfl
theorem lV {ops:Array Oper}{o:Oper}{E:Nat→Value}{a:Act}{b:Bool}(hE:gV μ E a.tmps)(h:qC ops o E=some b):Region.wanted o (yielded ops a.tmps)=b:=by
 unfold qC at h;unfold Region.wanted;cases hg:o.guard with
 |none=>rw[hg] at h;cases h;rfl
 |some q=>
  obtain⟨j,want⟩:=q;rw[hg] at h;simp only at h ⊢;unfold yielded;cases hd:(ops[j]?).bind (·.dst) with
  |none=>rw[hd] at h;cases h
  |some d=>
   rw[hd] at h;simp only at h;have hr:=hE d;split at h
   ·rename_i c e;cases h;rw[e] at hr;have e2:=hr.bool;have e3:a.tmps[d]? =some (.bool c):=by
     rw[Array.getD_eq_getD_getElem?] at e2;cases hx:a.tmps[d]? with
     |none=>rw[hx] at e2;simp[undef] at e2
     |some x=>rw[hx] at e2;simp at e2;rw[e2]
    simp only[Option.bind_some,e3];cases c<;>cases want<;>rfl
   ·rename_i vs e;split at h
    ·rename_i aef;cases h;rw[e] at hr;obtain⟨jf,e2,hvs⟩:=hr.AD;simp only[Option.bind_some];rw[Array.getD_eq_getD_getElem?] at e2;cases hx:a.tmps[d]? with
     |none=>cases want<;>rfl
     |some x=>rw[hx] at e2;simp at e2;subst e2;cases want<;>rfl
    ·cases h
   ·cases h
def jP (P:Program)(C:ae)(E:Nat→Value)(H:aa)(o:Oper):Option (Value×aa):=
 match o.op with
 | .call {callee:=.value f,args, .. }=>match iy E f with
  | .func (.func g) first captured=>if g<P.funcs.size then C g (first.toList++args.toList.map (iy E)++captured.toList) H else none
  | .func (.yield i) _ _=>C (P.funcs.size+i) (args.toList.map (iy E)) H
  |_=>none
 |op=>gU P (iy E) H op
theorem qE (C:ae)(E:Env)(H:aa)(o:Oper):jP P C E.get H o=gA P C E H o:=by
 obtain⟨dst,op,type,pos,after,guard⟩:=o;cases op with
 |call c=>
  obtain⟨callee,args,types⟩:=c;cases callee<;>simp only[jP,gA,gj]<;>rfl
 |_=>simp only[jP,gA,gj]
theorem rH {ro:Option Nat}{n:Nat}{C:ae}{E:Nat→Value}{o:Oper}{v:Value}{a:Act}{K:Act→World→Prop}{Q:Exit→Act→World→Prop}(hC:Ab P B C)(hS:cQ P μ H w B)(hE:gV μ E a.tmps)(h:jP P C E H o=some (v,H'))(hK: ∀v' μ' w',μ.le μ'→VR μ' v v'→cQ P μ' H' w' B→eX B w w'→K (a.put o.dst v') w'):o.wpIn (FR ro) n P a w K Q:=by
 have hnd: ∀c,o.op≠ .defer c:=by
  intro c e;unfold jP at h;rw[e] at h;simp[gU] at h
 refine⟨λ_ _=>trivial,?_⟩
 rw[Oper.semAt_eq _ _ _ hnd];unfold jP at h;split at h
 ·rename_i f args argTypes ho;split at h
  ·rename_i g first captured hf
   split at h
   case isFalse=>cases h
   rename_i hgs;obtain⟨⟨fn,zP,hb,ZJ⟩,VY⟩:=(hC.told _ _ _ _ _ h).1 hgs;have lj:=hE.eval f;rw[hf] at lj;obtain⟨lk,fT,e,h1,h2⟩:=lj.wA rfl;have oF:cY μ (first.toList++args.toList.map (iy E)++captured.toList) (lk.toList++args.toList.map a.eval++fT.toList):=
    (h1.append (cY.map hE.eval args.toList)).append h2
   have Ec:=VY μ w _ hS oF;have uZ:(lk.toList++args.toList.map a.eval++fT.toList).toArray=lk++args.map a.eval++fT:=by
    rw[←Array.toList_inj];simp
   rw[uZ] at Ec;have dJ:(execOp a.eval o).run P w= .ok (.enter g (lk++args.map a.eval++fT)) w:=by
    unfold execOp;rw[ho];have NT: ¬fn.body=none:=by intro e;rw[e] at hb;simp at hb
    have VZ: ¬fn.name= "runtime.NumGoroutine" :=by simpa using ZJ
    simp[resolve,Deferred.ofValue,e,invoke,callFunc,zP,VZ,NT]
   rw[dJ,Oper.uponIn_enter];refine⟨λh=>by simp[Fence.wide] at h,(N4 Ec).mono ?_⟩
   rintro e w' ⟨v',μ',rfl,hle,hv,tm,hB⟩;exact hK v' μ' w' hle hv tm hB
  ·rename_i i f1 c1 hf;have lj:=hE.eval f;rw[hf] at lj;obtain⟨_,_,l,hl,e⟩:=lj.Rm;have hy:=(hC.told _ _ _ _ _ h).2 i rfl ro (n-1) μ w _ l hS (cY.map hE.eval args.toList) hl;have uZ:(args.toList.map a.eval).toArray=args.map a.eval:=by rw[←Array.toList_inj];simp
   rw[uZ] at hy;obtain⟨fn,tmps,assign,body,dJ,hR⟩:=hy;have hex:(execOp a.eval o).run P w= .ok (.round l.b fn tmps assign body) w:=by
    unfold execOp;rw[ho];simp[resolve,Deferred.ofValue,e,invoke,dJ]
   rw[hex,Oper.uponIn_round];refine⟨λh=>by simp[Fence.wide] at h,hR.mono ?_⟩
   rintro e w' ⟨v',μ',rfl,hle,hv,tm,hB⟩;exact hK v' μ' w' hle hv tm hB
  ·cases h
 ·obtain⟨v',μ',w',hr,hle,hv,tm,hB⟩:=Kn (o:=o) hS hE.eval h;rcases hr with hr|⟨hr,rfl⟩
  ·rw[hr];exact hK v' μ' w' hle hv tm hB
  ·rw[hr];exact hK undef μ' w' hle hv tm hB
theorem Ac {ro:Option Nat}{n:Nat}{C:ae}{ops:Array Oper}{N:Nat}{Q:Exit→Act→World→Prop}(hC:Ab P B C): ∀(l:List Oper) (E:Env) (H:aa) (E':Env) (H':aa) (μ:Mu) (a:Act) (w:World),
  eJ P C ops l E H=some (E',H')→(∀o∈l,∀d,o.dst=some d→d<N)→N≤a.tmps.size→cQ P μ H w B→gV μ E.get a.tmps→
  (∀a' w' μ',μ.le μ'→gV μ' E'.get a'.tmps→a'.defers=a.defers→a'.tmps.size=a.tmps.size→cQ P μ' H' w' B→eX B w w'→Q .normal a' w')→wpListIn (FR ro) n P ops Q l a w:=by
 intro l;induction l with
 |nil=>
  intro E H E' H' μ a w h _ _ hS hE hQ;simp only[eJ] at h;cases h;exact hQ a w μ μ.le_refl hE rfl rfl hS (eX.refl _ _)
 |cons o r ih=>
  intro E H E' H' μ a w h hd hN hS hE hQ;simp only[eJ] at h;unfold wpListIn;have V0: ∀t,o.dst=some t→t<a.tmps.size:=λt ht=>Nat.lt_of_lt_of_le (hd o (by simp) t ht) hN
  split at h
  ·rename_i hw;rw[lV hE (by rw[qD];exact hw),if_pos rfl]
   cases hx:gA P C E H o with
   |none=>rw[hx] at h;cases h
   |some q=>
    obtain⟨v,H1⟩:=q;rw[hx] at h;simp only at h;rw[←qE] at hx;refine rH hC hS hE hx ?_;intro v' μ' w' hle hv tm hB;refine ih _ _ _ _ μ' _ w' h (λo ho=>hd o (by simp[ho])) (by rw[mN];exact hN) tm ?_ ?_
    ·have:=gV.put (hE.mono hle) hv o.dst V0
     intro t;rw[Env.aG];exact this t
    ·intro a' w'' V1 mr UC hdf uU V2 hB';exact hQ a' w'' V1 (Mu.le_trans hle mr) UC (by rw[hdf,put_defers]) (by rw[uU,mN]) V2 (hB.trans hB')
  ·rename_i hw;rw[lV hE (by rw[qD];exact hw)]
   simp only[Bool.false_eq_true,if_false];refine⟨λ_ _=>trivial,ih _ _ _ _ μ _ w h (λo ho=>hd o (by simp[ho])) (by rw[mN];exact hN) hS ?_ ?_⟩
   ·have:=gV.put hE (cY.tuple (c:=#[]) (c':=#[]) .nil) o.dst V0
    intro t;rw[Env.aG];exact this t
   ·intro a' w'' V1 mr UC hdf uU V2 hB';exact hQ a' w'' V1 mr UC (by rw[hdf,put_defers]) (by rw[uU,mN]) V2 hB'
  ·cases h
end Go.Proofs.YtgfgglponbmgmaaGreatA.Am
end
