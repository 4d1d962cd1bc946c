/- Texts of the proof of linearCut_holds, put together by a small program of ours (names shortened, spaces taken out). No condition beyond the given statement. -/
import Derived.Test.YtjgmnoaalbbonaaGreatLCT1
import Derived.Test.YtjgmnoaalbbonaaGreatLCT4
import Derived.OrdersIn
import Derived.TacticsIn
import Derived.Sort.LoopGhostIn
import Derived.RangeFuncIn
import Derived.RangeFuncSeq
import Derived.RangeFuncRecord
set_option linter.unusedVariables false
set_option linter.unusedSimpArgs false
set_option linter.unnecessarySimpa false
noncomputable section
section
namespace Go.Proofs.YtjgmnoaalbbonaaGreatA.Am
variable {P:Program} {H H':aa} {i:Nat} {b:eu}
def cJ (H:aa)(i:Nat):Prop:=H[i]? =some .hole
def aa.lay (H:aa)(i:Nat)(b:eu):aa:=H.set i (.jD b)
theorem cJ.lt (h:cJ H i):i<H.length:=(List.getElem?_eq_some_iff.1 h).1
theorem cJ.get (h:cJ H i):H.get i=none:=by unfold aa.get;rw[h]
theorem cJ.cT (h:cJ H i):H.cT i=none:=by unfold aa.cT;rw[h]
@[simp] theorem jc:(H.lay i b).length=H.length:=by simp[aa.lay]
theorem lV (hf:cJ H i){j:Nat}{c:eu}(h:H.get j=some c):(H.lay i b).get j=some c:=by
 have e:j≠i:=by rintro rfl;rw[hf.get] at h;cases h
 rw[←h];exact aa.get_congr (List.getElem?_set_ne (Ne.symm e))
theorem lW (hf:cJ H i){j:Nat}{o:dg}(h:H.cT j=some o):(H.lay i b).cT j=some o:=by
 have e:j≠i:=by rintro rfl;rw[hf.cT] at h;cases h
 rw[←h];exact aa.jU (List.getElem?_set_ne (Ne.symm e))
theorem cJ.ub (hf:cJ H i){j:Nat}{c:eu}(h:H.get j=some c):j≠i:=by rintro rfl;rw[hf.get] at h;cases h
theorem cJ.wR (hf:cJ H i){j:Nat}{c:dg}(h:H.cT j=some c):j≠i:=by rintro rfl;rw[hf.cT] at h;cases h
theorem cJ.set (hf:cJ H i){j:Nat}(h:j≠i)(s:Slot):cJ (H.set j s) i:=by
 unfold cJ;rw[List.getElem?_set_ne h];exact hf
theorem cJ.new (hf:cJ H i)(c:eu):cJ (H.new c) i:=by
 unfold cJ aa.new;rw[List.getElem?_append_left hf.lt];exact hf
theorem cJ.gj (hf:cJ H i)(c:dg):cJ (H.gj c) i:=by
 unfold cJ aa.gj;rw[List.getElem?_append_left hf.lt];exact hf
theorem cJ.app (hf:cJ H i)(T:aa):cJ (H++T) i:=by
 unfold cJ;rw[List.getElem?_append_left hf.lt];exact hf
theorem nE (hf:cJ H i)(c:eu):(H.lay i b).new c=(H.new c).lay i b:=by
 unfold aa.lay aa.new;rw[List.set_append_left _ _ hf.lt]
theorem D8 (hf:cJ H i)(c:dg):(H.lay i b).gj c=(H.gj c).lay i b:=by
 unfold aa.lay aa.gj;rw[List.set_append_left _ _ hf.lt]
theorem Qr (hf:cJ H i)(T:aa):(H.lay i b)++T=aa.lay (H++T) i b:=by
 unfold aa.lay;rw[List.set_append_left _ _ hf.lt]
theorem sC {j:Nat}(h:j≠i)(s:Slot):(H.lay i b).set j s=aa.lay (H.set j s) i b:=by
 unfold aa.lay;rw[List.set_comm _ _ (Ne.symm h)]
theorem Qs {j:Nat}(h:j≠i)(c:eu):(H.lay i b).put j c=(H.put j c).lay i b:=sC h _
theorem sD {j:Nat}(h:j≠i)(c:dg):(H.lay i b).eQ j c=(H.eQ j c).lay i b:=sC h _
theorem wS {j:Nat}(h:j≠i):(H.lay i b).kill j=(H.kill j).lay i b:=sC h _
def Up (i:Nat)(b:eu)(H:aa)(x y:Option (Value×aa)):Prop:=
 cJ H i→∀v H',x=some (v,H')→cJ H' i∧y=some (v,H'.lay i b)
theorem Up.same {x:Option Value}{y:Option Value}(h:cJ H i→∀v,x=some v→y=some v):Up i b H (x.map (·,H)) (y.map (·,H.lay i b)):=by
 intro hf v H' e;rw[Option.map_eq_some_iff] at e;obtain⟨u,hu,e⟩:=e;cases e;exact⟨hf,by rw[h hf _ hu];rfl⟩
theorem lX (hf:cJ H i){j off n:Nat}{vs:List Value}(h:aw H j off n=some vs):aw (H.lay i b) j off n=some vs:=by
 unfold aw at h ⊢;split at h
 ·rename_i c hc;rw[lV hf hc];exact h
 ·cases h
theorem lY (hf:cJ H i){j off:Nat}{vs:List Value}(h:bl H j off vs=some H'):cJ H' i∧bl (H.lay i b) j off vs=some (H'.lay i b):=by
 unfold bl at h ⊢;split at h
 ·rename_i c hc;rw[lV hf hc];split at h
  ·rename_i ln;cases h;simp only[ln,if_true];exact⟨hf.set (hf.ub hc) _,by rw[Qs (hf.ub hc)]⟩
  ·cases h
 ·cases h
theorem uc (hf:cJ H i){t:TypeId}{p v:Value}(h:ju P t p H=some v):ju P t p (H.lay i b)=some v:=by
 unfold ju at h ⊢;split at h
 ·split at h
  ·split at h
   ·split at h
    ·rename_i vs hv;rw[lX hf hv];exact h
    ·cases h
   ·cases h
  ·split at h
   ·rename_i c hc;rw[lV hf hc];exact h
   ·cases h
  ·cases h
 ·cases h
theorem Jg (hf:cJ H i){t:TypeId}{p v:Value}(h:AS P t p v H=some H'):cJ H' i∧AS P t p v (H.lay i b)=some (H'.lay i b):=by
 unfold AS at h ⊢;split at h
 ·split at h
  ·split at h
   ·rename_i hc;simp only[hc,and_self,if_true];exact lY hf h
   ·cases h
  ·cases h
 ·cases h
theorem sE (hf:cJ H i){size n:Nat}{x:Value}{cs:List Value}(h:bq H size n x=some cs):bq (H.lay i b) size n x=some cs:=by
 unfold bq at h ⊢;split at h
 ·split at h
  ·rename_i h0;rw[if_pos h0];exact h
  ·rename_i h0;rw[if_neg h0];exact lX hf h
 ·exact h
 ·cases h
theorem ML (hf:cJ H i){t:TypeId}{size bytes:Nat}{z x:Value}{r:Nat×List Value}(h:DS P H t size bytes z x=some r):DS P (H.lay i b) t size bytes z x=some r:=by
 unfold DS at h ⊢;split at h
 ·exact h
 ·rw[Option.map_eq_some_iff] at h;obtain⟨cs,h1,h2⟩:=h;rw[sE hf h1];simp[h2]
 ·cases h
theorem D9 {ts:Array TypeId}{s x:Value}:Up i b H (pV P ts s x H) (pV P ts s x (H.lay i b)):=by
 intro hf v H' h;unfold pV at h ⊢;split at h
 case h_2=>cases h
 split at h
 case h_2=>cases h
 split at h
 case h_2=>cases h
 split at h
 case h_2=>cases h
 rename_i r n new hg;rw[ML hf hg];simp only at h ⊢;split at h
 ·rename_i hle;rw[if_pos hle];split at h
  ·cases h;exact⟨hf,rfl⟩
  ·split at h
   ·rename_i h0;cases h;rw[if_pos h0];exact⟨hf,rfl⟩
   ·rename_i h0;rw[if_neg h0];split at h
    ·rename_i c hc;rw[lV hf hc];simp only;split at h
     ·rename_i he;rw[if_pos he];rw[Option.map_eq_some_iff] at h;obtain⟨H2,h1,h2⟩:=h;cases h2;obtain⟨k1,k2⟩:=lY (b:=b) hf h1;exact⟨k1,by rw[k2];rfl⟩
     ·cases h
    ·cases h
  ·cases h
 ·rename_i hle;rw[if_neg hle];split at h
  ·rename_i hb;rw[if_pos hb];split at h
   ·split at h
    ·rename_i h0;cases h;rw[if_pos h0];exact⟨hf.new _,by rw[nE hf,jc]⟩
    ·cases h
   ·split at h
    ·rename_i c hc;rw[lV hf hc];simp only;split at h
     ·rename_i he;rw[if_pos he];split at h
      ·rename_i old hold;cases h;rw[lX hf hold];simp only;have hk:cJ (H.kill _) i:=hf.set (hf.ub hc) _;refine⟨hk.new _,?_⟩;rw[wS (hf.ub hc),nE hk,jc]
      ·cases h
     ·cases h
    ·cases h
   ·cases h
  ·cases h
theorem Jh {ts:Array TypeId}{d s:Value}:Up i b H (n7 P ts d s H) (n7 P ts d s (H.lay i b)):=by
 intro hf v H' h;unfold n7 at h ⊢;split at h
 case h_2=>cases h
 split at h
 case h_2=>cases h
 split at h
 case h_2=>cases h
 simp only at h ⊢;split at h
 case h_2=>cases h
 rename_i cs lK;rw[sE hf lK];simp only;split at h
 ·cases h;exact⟨hf,rfl⟩
 ·split at h
  ·rename_i h0;cases h;rw[if_pos h0];exact⟨hf,rfl⟩
  ·rename_i h0;rw[if_neg h0];rw[Option.map_eq_some_iff] at h;obtain⟨H2,h1,h2⟩:=h;cases h2;obtain⟨k1,k2⟩:=lY (b:=b) hf h1;exact⟨k1,by rw[k2];rfl⟩
 ·cases h
theorem F1 {ts:Array TypeId}{x:Value}:Up i b H (tV P ts x H) (tV P ts x (H.lay i b)):=by
 intro hf v H' h;unfold tV at h ⊢;split at h
 case h_2=>cases h
 split at h
 case h_2=>cases h
 split at h
 ·cases h;exact⟨hf,rfl⟩
 ·split at h
  ·rename_i h0;cases h;rw[if_pos h0];exact⟨hf,rfl⟩
  ·rename_i h0;rw[if_neg h0];rw[Option.map_eq_some_iff] at h;obtain⟨H2,h1,h2⟩:=h;cases h2;obtain⟨k1,k2⟩:=lY (b:=b) hf h1;exact⟨k1,by rw[k2];rfl⟩
 ·cases h
theorem wT (hf:cJ H i){t:TypeId}{x v:Value}{lo hi:Option Value}(h:oY P H t x lo hi=some v):oY P (H.lay i b) t x lo hi=some v:=by
 unfold oY at h ⊢;split at h
 case h_2=>cases h
 split at h
 case h_2=>cases h
 split at h
 case h_2=>cases h
 split at h
 case isFalse=>cases h
 rename_i hc;rw[if_pos hc];split at h
 ·exact h
 ·split at h
  ·rename_i c hc;rw[lV hf hc];exact h
  ·split at h
   case isFalse=>cases h
   rename_i ZF hh0 hx0 hc0;cases h;obtain⟨g1,g2,g3,g4⟩:=hc;subst hc0;split
   ·split
    ·simp only[Option.some.injEq,Value.slice.injEq,Addr.mk.injEq];refine⟨⟨trivial,?_,trivial⟩,?_,?_⟩;all_goals first|omega| (rw[show Int.toNat _=0 by omega];omega)
    ·rfl
   ·rfl
 ·cases h
theorem Ea (hf:cJ H i){t:TypeId}{x v m:Value}{lo hi:Option Value}(h:pX P H t x lo hi m=some v):pX P (H.lay i b) t x lo hi m=some v:=by
 unfold pX at h ⊢;split at h
 ·split at h
  ·rename_i hc;rw[if_pos hc];exact wT hf h
  ·cases h
 ·cases h
theorem Ji (hf:cJ H i){q:IntKind}{z m x v:Value}{ok:Bool}(h:n8 q z ok m x H=some v):n8 q z ok m x (H.lay i b)=some v:=by
 unfold n8 at h ⊢;split at h
 ·split at h
  ·rename_i hc;rw[lW hf hc];exact h
  ·cases h
 ·cases h
theorem Eb (hf:cJ H i){t:TypeId}{m x v:Value}{ok:Bool}(h:pW P t m x ok H=some v):pW P t m x ok (H.lay i b)=some v:=by
 unfold pW at h ⊢;split at h
 ·exact Ji hf h
 ·cases h
theorem MM (hf:cJ H i){m v:Value}(h:BH m H=some v):BH m (H.lay i b)=some v:=by
 unfold BH at h ⊢;split at h
 ·split at h
  ·rename_i hc;rw[lW hf hc];exact h
  ·cases h
 ·cases h
theorem MN (hf:cJ H i){ts:Array TypeId}{x v:Value}(h:BI P H ts x=some v):BI P (H.lay i b) ts x=some v:=by
 unfold BI at h ⊢;split at h
 ·split at h
  ·exact MM hf h
  ·exact h
  ·exact h
  ·exact h
  ·cases h
 ·cases h
theorem MO {q:IntKind}{m x u:Value}:Up i b H (jS q m x u H) (jS q m x u (H.lay i b)):=by
 intro hf v H' h;unfold jS at h ⊢;split at h
 ·split at h
  ·rename_i hc;rw[lW hf hc];simp only;split at h
   ·rename_i hq;cases h;rw[if_pos hq];exact⟨hf.set (hf.wR hc) _,by rw[sD (hf.wR hc)]⟩
   ·cases h
  ·cases h
 ·cases h
theorem MP {q:IntKind}{m x:Value}:Up i b H (mi q m x H) (mi q m x (H.lay i b)):=by
 intro hf v H' h;unfold mi at h ⊢;split at h
 ·split at h
  ·rename_i hc;rw[lW hf hc];simp only;split at h
   ·rename_i hq;cases h;rw[if_pos hq];exact⟨hf.set (hf.wR hc) _,by rw[sD (hf.wR hc)]⟩
   ·cases h
  ·cases h
 ·cases h
theorem BY {c:Builtin}{ts:Array TypeId}{as:List Value}:Up i b H (kh P c ts as H) (kh P c ts as (H.lay i b)):=by
 intro hf v H' h;unfold kh at h ⊢;split at h
 ·exact D9 hf v H' h
 ·exact Jh hf v H' h
 ·exact Up.same (λhf v h=>MN hf h) hf v H' h
 ·exact F1 hf v H' h
 ·unfold vE at h ⊢;split at h
  ·exact MP hf v H' h
  ·cases h
 ·split at h
  ·cases h;exact⟨hf,rfl⟩
  ·cases h
 ·split at h
  ·rename_i hk;cases h;rw[if_pos hk];exact⟨hf,rfl⟩
  ·cases h
 ·split at h
  ·rename_i hk;cases h;rw[if_pos hk];exact⟨hf,rfl⟩
  ·cases h
 ·cases h
theorem ve {t:TypeId}{n:Nat}{ps:List (Nat×Value)}:Up i b H (au P t n ps H) (au P t n ps (H.lay i b)):=by
 intro hf v H' h;unfold au at h ⊢;split at h
 ·cases h
 ·rename_i h1;rw[if_neg h1];split at h
  ·split at h
   ·split at h
    ·rename_i h2;rw[if_pos h2];split at h
     ·cases h;exact⟨hf.new _,by rw[nE hf,jc]⟩
     ·cases h
    ·cases h
   ·cases h
  ·cases h
theorem wU {t:TypeId}{l c:Value}:Up i b H (gL P t l c H) (gL P t l c (H.lay i b)):=by
 intro hf v H' h;unfold gL at h ⊢;split at h
 ·split at h
  ·split at h
   ·rename_i h2;rw[if_pos h2];cases h;exact⟨hf.new _,by rw[nE hf,jc]⟩
   ·cases h
  ·cases h
 ·cases h
theorem wV {t:TypeId}{es:Nat}{cs:List Value}:Up i b H (some (aO H t es cs)) (some (aO (H.lay i b) t es cs)):=by
 intro hf v H' h;unfold aO at h ⊢;cases h;exact⟨hf.new _,by rw[nE hf,jc]⟩
theorem pZ {ρ:Operand→Value}{op:Op}:Up i b H (im P ρ H op) (im P ρ (H.lay i b) op):=by
 intro hf v H' h;unfold im at h ⊢;split at h<;>try(simp only)
 ·cases h;exact⟨hf,rfl⟩
 ·cases h;exact⟨hf,rfl⟩
 ·split at h
  ·cases h;exact⟨hf,rfl⟩
  ·cases h
 ·split at h
  ·exact wV hf v H' h
  ·cases h
 ·split at h
  ·rename_i h1;rw[if_pos h1];exact wV hf v H' h
  ·cases h
 ·exact Up.same (λ_ _ h=>h) hf v H' h
 ·exact ve hf v H' h
 ·exact Up.same (λhf _ h=>uc hf h) hf v H' h
 ·rw[Option.map_eq_some_iff] at h;obtain⟨H2,h1,h2⟩:=h;cases h2;obtain⟨k1,k2⟩:=Jg (b:=b) hf h1;exact⟨k1,by rw[k2];rfl⟩
 ·split at h
  ·cases h;exact⟨hf,rfl⟩
  ·cases h;exact⟨hf,rfl⟩
  ·cases h
 ·exact Up.same (λ_ _ h=>h) hf v H' h
 ·exact Up.same (λ_ _ h=>h) hf v H' h
 ·split at h
  ·cases h;exact⟨hf,rfl⟩
  ·cases h
 ·cases h;exact⟨hf,rfl⟩
 ·exact wU hf v H' h
 ·exact Up.same (λhf _ h=>wT hf h) hf v H' h
 ·exact Up.same (λhf _ h=>Ea hf h) hf v H' h
 ·unfold rT at h ⊢;split at h
  ·unfold mmk at h ⊢;cases h;exact⟨hf.gj _,by rw[D8 hf,jc]⟩
  ·cases h
 ·exact Up.same (λhf _ h=>Eb hf h) hf v H' h
 ·unfold nr at h ⊢;split at h
  ·exact MO hf v H' h
  ·cases h
 ·repeat' split at h
  all_goals first| (cases h;exact⟨hf,rfl⟩)|cases h
 ·repeat' split at h
  all_goals first| (exact Up.same (λ_ _ h=>h) hf v H' h)|cases h
 ·repeat' split at h
  all_goals first| (rename_i hb;cases h;rw[if_pos hb];exact⟨hf,rfl⟩)|cases h
 ·split at h
  ·split at h
   ·split at h
    ·rename_i hb;rw[if_pos hb];exact Up.same (λ_ _ h=>h) hf v H' h
    ·cases h
   ·cases h
  ·split at h
   ·rename_i hb;rw[if_pos hb];rw[Option.map_eq_some_iff] at h;obtain⟨u,hu,e⟩:=h;cases e;exact⟨hf,by rw[hu];rfl⟩
   ·cases h
  ·cases h
 ·repeat' split at h
  all_goals first| (exact Up.same (λ_ _ h=>h) hf v H' h)|cases h
 ·exact BY hf v H' h
 ·cases h
def gM (C:ae):Prop:=∀f args H i b,Up i b H (C f args H) (C f args (H.lay i b))
theorem ud {C:ae}(hC:gM C){E:Env}{o:Oper}:Up i b H (gV P C E H o) (gV P C E (H.lay i b) o):=by
 intro hf v H' h;unfold gV at h ⊢;split at h
 ·split at h
  ·split at h
   ·rename_i h1;rw[if_pos h1];exact hC _ _ _ _ _ hf v H' h
   ·cases h
  ·exact hC _ _ _ _ _ hf v H' h
  ·cases h
 ·exact pZ hf v H' h
theorem Bb {ρ:Operand→Value}{op:Op}{j:Nat}(hj:j≠i):Up i b H (qN P ρ j H op) (qN P ρ j (H.lay i b) op):=by
 intro hf v H' h;unfold qN at h ⊢;have e:(H.lay i b)[j]? =H[j]? :=List.getElem?_set_ne (Ne.symm hj);rw[e];split at h
 ·split at h
  ·rename_i hb;cases h;exact⟨hf.set hj _,by simp only[sC hj]⟩
  ·cases h
 ·cases h
theorem wW {C:ae}(hC:gM C){F:List Nat}{base k:Nat}(hb:i<base){E:Env}{o:Oper}:Up i b H (dV P C F base k E H o) (dV P C F base k E (H.lay i b) o):=by
 intro hf v H' h;unfold dV at h ⊢;split at h
 ·rename_i h1;rw[if_pos h1];exact Bb (by omega) hf v H' h
 ·rename_i h1;rw[if_neg h1];exact ud hC hf v H' h
theorem rq {C:ae}(hC:gM C){ops:Array Oper}: ∀(l:List Oper) (E E':Env) (H H':aa),cJ H i→fg P C ops l E H=some (E',H')→
  cJ H' i∧fg P C ops l E (H.lay i b)=some (E',H'.lay i b)∧trace P C ops l E (H.lay i b)=(trace P C ops l E H).map λp=>(p.1,p.2.lay i b):=by
 intro l;induction l with
 |nil=>intro E E' H H' hf h;simp only[fg] at h;cases h;exact⟨hf,rfl,rfl⟩
 |cons o r ih=>
  intro E E' H H' hf h;simp only[fg] at h;split at h
  ·rename_i hw;cases hx:gV P C E H o with
   |none=>rw[hx] at h;cases h
   |some q=>
    obtain⟨v,H1⟩:=q;rw[hx] at h;obtain⟨f1,e1⟩:=ud (b:=b) hC hf v H1 hx;obtain⟨f2,e2,e3⟩:=ih _ _ _ _ f1 h;exact⟨f2,by simp only[fg,hw,e1,e2],by simp only[trace,hw,e1,hx,e3,List.map_cons]⟩
  ·rename_i hw;obtain⟨f2,e2,e3⟩:=ih _ _ _ _ hf h;exact⟨f2,by simp only[fg,hw,e2],by simp only[trace,hw,e3,List.map_cons]⟩
  ·cases h
theorem uT {C:ae}(hC:gM C){F:List Nat}{base:Nat}(hb:i<base){ops:Array Oper}: ∀(l:List Oper) (k:Nat) (E E':Env) (H H':aa),cJ H i→dI P C F base ops l k E H=some (E',H')→
  cJ H' i∧dI P C F base ops l k E (H.lay i b)=some (E',H'.lay i b)∧eW P C F base ops l k E (H.lay i b)=(eW P C F base ops l k E H).map λp=>(p.1,p.2.lay i b):=by
 intro l;induction l with
 |nil=>intro k E E' H H' hf h;simp only[dI] at h;cases h;exact⟨hf,rfl,rfl⟩
 |cons o r ih=>
  intro k E E' H H' hf h;simp only[dI] at h;split at h
  ·rename_i hw;cases hx:dV P C F base k E H o with
   |none=>rw[hx] at h;cases h
   |some q=>
    obtain⟨v,H1⟩:=q;rw[hx] at h;obtain⟨f1,e1⟩:=wW (b:=b) hC hb hf v H1 hx;obtain⟨f2,e2,e3⟩:=ih _ _ _ _ _ f1 h;exact⟨f2,by simp only[dI,hw,e1,e2],by simp only[eW,hw,e1,hx,e3,List.map_cons]⟩
  ·rename_i hw;obtain⟨f2,e2,e3⟩:=ih _ _ _ _ _ hf h;exact⟨f2,by simp only[dI,hw,e2],by simp only[eW,hw,e3,List.map_cons]⟩
  ·cases h
theorem F2 {C:ae}(hC:gM C){ops:Array Oper}: ∀(l:List Oper) (E E':Env) (H H':aa),cJ H i→fg P C ops l E H=some (E',H')→∀p∈trace P C ops l E H,cJ p.2 i:=by
 intro l;induction l with
 |nil=>intro E E' H H' hf _ p hp;simp only[trace,List.mem_singleton] at hp;subst hp;exact hf
 |cons o r ih=>
  intro E E' H H' hf h p hp;simp only[fg] at h;split at h
  ·rename_i hw;cases hx:gV P C E H o with
   |none=>rw[hx] at h;cases h
   |some q=>
    obtain⟨v,H1⟩:=q;rw[hx] at h;obtain⟨f1,_⟩:=ud (b:=default) hC hf v H1 hx;simp only[trace,hw,hx] at hp;rcases List.mem_cons.1 hp with rfl|hp
    ·exact hf
    ·exact ih _ _ _ _ f1 h p hp
  ·rename_i hw;simp only[trace,hw] at hp;rcases List.mem_cons.1 hp with rfl|hp
   ·exact hf
   ·exact ih _ _ _ _ hf h p hp
  ·cases h
theorem Ec {C:ae}(hC:gM C){F:List Nat}{base:Nat}(hb:i<base){ops:Array Oper}: ∀(l:List Oper) (k:Nat) (E E':Env) (H H':aa),cJ H i→dI P C F base ops l k E H=some (E',H')→∀p∈eW P C F base ops l k E H,cJ p.2 i:=by
 intro l;induction l with
 |nil=>intro k E E' H H' hf _ p hp;simp only[eW,List.mem_singleton] at hp;subst hp;exact hf
 |cons o r ih=>
  intro k E E' H H' hf h p hp;simp only[dI] at h;split at h
  ·rename_i hw;cases hx:dV P C F base k E H o with
   |none=>rw[hx] at h;cases h
   |some q=>
    obtain⟨v,H1⟩:=q;rw[hx] at h;obtain⟨f1,_⟩:=wW (b:=default) hC hb hf v H1 hx;simp only[eW,hw,hx] at hp;rcases List.mem_cons.1 hp with rfl|hp
    ·exact hf
    ·exact ih _ _ _ _ _ f1 h p hp
  ·rename_i hw;simp only[eW,hw] at hp;rcases List.mem_cons.1 hp with rfl|hp
   ·exact hf
   ·exact ih _ _ _ _ _ hf h p hp
  ·cases h
theorem wX {ops:Array Oper}{T:List (Env×aa)}{c:Nat×Nat}(hT: ∀p∈T,cJ p.2 i)(h:je P ops T c=true):je P ops (T.map λp=>(p.1,p.2.lay i b)) c=true:=by
 unfold je at h ⊢;simp only[List.getElem?_map];cases h1:T[c.1]? with
 |none=>rw[h1] at h;cases h
 |some p1=>
  cases h2:T[c.2]? with
  |none=>rw[h1,h2] at h;cases h
  |some p2=>
   cases h3:T[c.2+1]? with
   |none=>rw[h1,h2,h3] at h;cases h
   |some p3=>
    rw[h1,h2,h3] at h;obtain⟨E1,H1⟩:=p1;obtain⟨E2,H2⟩:=p2;obtain⟨E3,H3⟩:=p3;simp only[Option.map_some] at h ⊢;cases h4:ops[c.1]? with
    |none=>rw[h4] at h;cases h
    |some x=>
     cases h5:ops[c.2]? with
     |none=>rw[h4,h5] at h;cases h
     |some y=>
      rw[h4,h5] at h;simp only at h ⊢;split at h
      ·have f1:=hT _ (List.mem_of_getElem? h1);have f2:=hT _ (List.mem_of_getElem? h2);have f3:=hT _ (List.mem_of_getElem? h3);split at h
       ·rename_i u K1 u1 K2 u2 K3 e1 e2 e3;rw[(pZ (b:=b) f1 _ _ e1).2,(pZ (b:=b) f2 _ _ e2).2,(pZ (b:=b) f3 _ _ e3).2];exact h
       ·cases h
      ·exact h
      ·cases h
theorem Ab {C:ae}(hC:gM C){ops:Array Oper}{draw:Bool}{E E':Env}(hf:cJ H i)(h:fF P C ops draw E H=some (E',H')):cJ H' i∧fF P C ops draw E (H.lay i b)=some (E',H'.lay i b):=by
 unfold fF at h ⊢;cases draw with
 |false=>
  simp only[Bool.false_eq_true,if_false] at h ⊢;obtain⟨h1,h2,_⟩:=rq (b:=b) hC _ _ _ _ _ hf h;exact⟨h1,h2⟩
 |true=>
  simp only[if_true] at h ⊢;cases hF:lS P ops with
  |nil=>
   rw[hF] at h;simp only at h ⊢;cases hc:mK P ops with
   |nil=>
    rw[hc] at h;obtain⟨h1,h2,_⟩:=rq (b:=b) hC _ _ _ _ _ hf h;exact⟨h1,h2⟩
   |cons c cs=>
    rw[hc] at h;simp only at h ⊢;split at h
    ·rename_i fC;obtain⟨h1,h2,h3⟩:=rq (b:=b) hC _ _ _ _ _ hf h;refine⟨h1,?_⟩;rw[if_pos,h2];rw[h3];rw[List.all_eq_true] at fC ⊢;exact λx hx=>wX (F2 hC _ _ _ _ _ hf h) (fC x hx)
    ·cases h
  |cons f F=>
   rw[hF] at h;have D4:cJ (H.dr (f::F).length) i:=hf.app _;have e:(H.lay i b).dr (f::F).length=(H.dr (f::F).length).lay i b:=Qr hf _;simp only[jc] at h ⊢;rw[e];cases hc:mK P ops with
   |nil=>
    rw[hc] at h;obtain⟨h1,h2,_⟩:=uT (b:=b) hC hf.lt _ _ _ _ _ _ D4 h;exact⟨h1,h2⟩
   |cons c cs=>
    rw[hc] at h;simp only at h ⊢;split at h
    ·rename_i fC;obtain⟨h1,h2,h3⟩:=uT (b:=b) hC hf.lt _ _ _ _ _ _ D4 h;refine⟨h1,?_⟩;rw[if_pos,h2];rw[h3];rw[List.all_eq_true] at fC ⊢;exact λx hx=>wX (Ec hC hf.lt _ _ _ _ _ _ D4 h) (fC x hx)
    ·cases h
theorem BZ {C:ae}(hC:gM C){keep:List Nat}{n:Nat}: ∀(c:Code) (vs:List Value) (H:aa) (r:bJ×List Value×aa),cJ H i→ev P C keep n c vs H=some r→
  cJ r.2.2 i∧ev P C keep n c vs (H.lay i b)=some (r.1,r.2.1,r.2.2.lay i b):=by
 intro c;induction c with
 |skip=>intro vs H r hf h;simp only[ev] at h;cases h;exact⟨hf,rfl⟩
 |label l=>intro vs H r hf h;simp only[ev] at h;cases h;exact⟨hf,rfl⟩
 |exit id=>intro vs H r hf h;simp only[ev] at h;cases h;exact⟨hf,rfl⟩
 |ret=>intro vs H r hf h;simp only[ev] at h;cases h;exact⟨hf,rfl⟩
 |goto l=>intro vs H r hf h;simp only[ev] at h;cases h
 |refuse s=>intro vs H r hf h;simp only[ev] at h;cases h
 |rangeFunc g ps x y _ _=>
  intro vs H r hf h;simp only[ev] at h ⊢;split at h
  case h_2=>cases h
  split at h
  case isFalse=>cases h
  rename_i eR;rw[if_pos eR,jc,D8 hf];split at h
  ·rename_i u H2 hx;obtain⟨f1,e1⟩:=hC _ _ _ i b (hf.gj _) _ _ hx;rw[e1];simp only;cases ho:H2.cT H.length with
   |none=>rw[ho] at h;simp[zZ] at h
   |some o=>
    have dX:H.length≠i:=by have:=hf.lt;omega
    rw[lW f1 ho,wS dX];rw[ho] at h;have fk:cJ (H2.kill H.length) i:=f1.set dX _;unfold zZ at h ⊢;cases o with
    |jC _ _=>cases h
    |loop L s=>cases s<;>simp only at h<;>cases h<;>exact⟨fk,rfl⟩
  ·cases h
 |region id ops draw=>
  intro vs H r hf h;simp only[ev] at h ⊢;split at h
  ·rename_i E H1 hr;cases h;obtain⟨f1,e1⟩:=Ab (b:=b) hC hf hr;rw[e1];exact⟨f1,rfl⟩
  ·cases h
 |seq x y Ux Uy=>
  intro vs H r hf h;simp only[ev] at h ⊢;cases hx:ev P C keep n x vs H with
  |none=>rw[hx] at h;cases h
  |some q=>
   obtain⟨e1,Ed,H1⟩:=q;obtain⟨f1,k1⟩:=Ux _ _ _ hf hx;rw[hx] at h;rw[k1];cases e1 with
   |normal=>exact Uy _ _ _ f1 h
   |exit id=>cases h;exact⟨f1,rfl⟩
   |ret=>cases h;exact⟨f1,rfl⟩
 |cond c x y Ux Uy=>
  intro vs H r hf h;simp only[ev] at h ⊢;split at h
  ·rename_i t _;cases t with
   |true=>exact Ux _ _ _ hf h
   |false=>exact Uy _ _ _ hf h
  ·cases h
 |block id c ih=>
  intro vs H r hf h;simp only[ev] at h ⊢;cases hx:ev P C keep n c vs H with
  |none=>rw[hx] at h;cases h
  |some q=>
   obtain⟨e1,Ed,H1⟩:=q;obtain⟨f1,k1⟩:=ih _ _ _ hf hx;rw[hx] at h;rw[k1];cases e1 with
   |normal=>cases h;exact⟨f1,rfl⟩
   |ret=>cases h;exact⟨f1,rfl⟩
   |exit Zv=>
    simp only at h ⊢;split at h<;>(rename_i hid;cases h;first|rw[if_pos hid]|rw[if_neg hid])<;>exact⟨f1,rfl⟩
 |scope c ih=>intro vs H r hf h;simp only[ev] at h ⊢;exact ih _ _ _ hf h
 |loop c ih=>
  intro vs H r hf h;simp only[ev] at h ⊢;have key: ∀k vs H,cJ H i→iter k (ev P C keep n c) vs H=some r→cJ r.2.2 i∧iter k (ev P C keep n c) vs (H.lay i b)=some (r.1,r.2.1,r.2.2.lay i b):=by
   intro k;induction k with
   |zero=>intro vs H _ h;simp only[iter] at h;cases h
   |succ k ihk=>
    intro vs H hf h;simp only[iter] at h ⊢;cases hx:ev P C keep n c vs H with
    |none=>rw[hx] at h;cases h
    |some q=>
     obtain⟨e1,Ed,H1⟩:=q;obtain⟨f1,k1⟩:=ih _ _ _ hf hx;rw[hx] at h;rw[k1];cases e1 with
     |normal=>exact ihk _ _ f1 h
     |exit id=>cases h;exact⟨f1,rfl⟩
     |ret=>cases h;exact⟨f1,rfl⟩
  exact key n vs H hf h
theorem F3 {C:ae}(hC:gM C){n j:Nat}{args:List Value}:Up i b H (pb P C n j args H) (pb P C n j args (H.lay i b)):=by
 intro hf v H' h;unfold pb at h ⊢;split at h
 case h_2=>cases h
 rename_i L ho;rw[lW hf ho];simp only;split at h
 case isFalse=>cases h
 rename_i hl;rw[if_pos hl];split at h
 case h_2=>cases h
 rename_i vs H1 hx;obtain⟨f1,e1⟩:=BZ (b:=b) hC _ _ _ _ hf hx;rw[e1];simp only;split at h
 case h_2=>cases h
 rename_i L1 Qt;rw[lW f1 Qt];simp only;have dX:j≠i:=f1.wR Qt;rw[sD dX];split at h
 case h_2=>cases h
 rename_i e Uz H2 hy;obtain⟨f2,e2⟩:=BZ (b:=b) hC _ _ _ _ (f1.set dX (.cT (.loop L1 .busy))) hy;have e2':ev P C L.keep n L.body vs ((H1.eQ j (.loop L1 .busy)).lay i b)=some (e,Uz,H2.lay i b):=e2;rw[e2'];simp only;unfold BK at h ⊢;split at h
 case h_2=>cases h
 rename_i L2 Ee;rw[lW f2 Ee];simp only;cases h;exact⟨f2.set dX _,by rw[sD dX]⟩
theorem Bc {bad:List FuncId}{G:ae}(hG:gM G): ∀n,gM (fh P bad G n):=by
 intro n;induction n with
 |zero=>intro f args H i b hf v H' h;simp only[fh] at h;cases h
 |succ n ih=>
  intro f args H i b hf v H' h;simp only[fh] at h ⊢;split at h
  ·rename_i hb;rw[if_pos hb];exact hG _ _ _ _ _ hf v H' h
  ·rename_i hb;rw[if_neg hb];have res: ∀(fn:Func) (E:Env) (H2:aa) (u:Value),cJ H2 i→BL P fn E H2=some u→BL P fn E (H2.lay i b)=some u:=by
    intro fn E H2 u hf h;unfold BL at h ⊢;rw[Option.map_eq_some_iff] at h ⊢;obtain⟨vs,h1,h2⟩:=h;refine⟨vs,?_,h2⟩;revert vs
    induction fn.results.toList with
    |nil=>intro vs h1 _;exact h1
    |cons r l P5=>
     intro vs h1 h2;rw[List.mapM_cons] at h1 ⊢;simp only[Option.bind_eq_bind,Option.bind_eq_some_iff] at h1 ⊢;obtain⟨x,hx,ys,Y4,e⟩:=h1;refine⟨x,?_,ys,?_,e⟩
     ·cases r with
      |tmp t=>exact hx
      |cell a t=>exact uc hf hx
     ·have: ∀vs,List.mapM (λ(r:ResultVar)=>match r with| .tmp t=>some (E.get t)| .cell a t=>ju P t (E.get a) H2) l=some vs→List.mapM (λ(r:ResultVar)=>match r with| .tmp t=>some (E.get t)| .cell a t=>ju P t (E.get a) (H2.lay i b)) l=some vs:=by
       clear Y4 P5 h2 e hx x ys vs;induction l with
       |nil=>intro vs h;exact h
       |cons r l P5=>
        intro vs h1;rw[List.mapM_cons] at h1 ⊢;simp only[Option.bind_eq_bind,Option.bind_eq_some_iff] at h1 ⊢;obtain⟨x,hx,ys,Y4,e⟩:=h1;refine⟨x,?_,ys,P5 _ Y4,e⟩;cases r with
        |tmp t=>exact hx
        |cell a t=>exact uc hf hx
      exact this _ Y4
   split at h
   ·split at h
    ·rename_i fn zV c hc;split at h
     ·rename_i vs H2 Bd;obtain⟨f1,e1⟩:=BZ (b:=b) ih _ _ _ _ hf Bd;rw[e1];simp only;rw[Option.map_eq_some_iff] at h;obtain⟨u,hu,e⟩:=h;cases e;exact⟨f1,by rw[res _ _ _ _ f1 hu];rfl⟩
     ·rename_i vs H2 Bd;obtain⟨f1,e1⟩:=BZ (b:=b) ih _ _ _ _ hf Bd;rw[e1];simp only;rw[Option.map_eq_some_iff] at h;obtain⟨u,hu,e⟩:=h;cases e;exact⟨f1,by rw[res _ _ _ _ f1 hu];rfl⟩
     ·cases h
    ·cases h
   ·exact F3 ih hf v H' h
end Go.Proofs.YtjgmnoaalbbonaaGreatA.Am
end
section
namespace Go.Proofs.YtjgmnoaalbbonaaGreatA.Am
open Go.RowKit (Below)
variable {P:Program} {μ:Mu} {H H':aa} {w:World} {B:Nat}
abbrev FR (ro:Option Nat):Fence:={Fence.wide with round:=ro}
theorem MQ {ro:Option Nat}{n:Nat}{f:FuncId}{args:Array Value}{R:Ending→World→Prop}(h:Calls P f args w R):CallsIn (FR ro) n P f args w R:=callsIn_wide (n:=n).2 h
def Be (P:Program)(B:Nat)(μ:Mu)(w:World)(v:Value)(H':aa):Ending→World→Prop:=
 λe w'=>∃v' μ',e= .returned v'∧μ.le μ'∧VR μ' v v'∧cQ P μ' H' w' B∧fI B w w'
def ue (P:Program)(B:Nat)(f:FuncId)(args:List Value)(H:aa)(v:Value)(H':aa):Prop:=
 ∀(μ:Mu) (w:World) (dS:List Value),cQ P μ H w B→dB μ args dS→Calls P f dS.toArray w (Be P B μ w v H')
def MR (P:Program)(B:Nat)(i:Nat)(args:List Value)(H:aa)(v:Value)(H':aa):Prop:=
 ∀(ro:Option Nat) (n:Nat) (μ:Mu) (w:World) (dS:List Value) (l:Loc),cQ P μ H w B→dB μ args dS→μ i=some l→YieldAt (FR ro) n P l.b dS.toArray w (Be P B μ w v H')
structure vf (P:Program) (B:Nat) (C:ae):Prop where
 told: ∀f args H v H',C f args H=some (v,H')→
  (f<P.funcs.size→(∃fn,P.funcs[f]? =some fn∧fn.body.isSome=true∧(fn.name== "runtime.NumGoroutine")=false)∧ue P B f args H v H')∧
  (∀i,f=P.funcs.size+i→MR P B i args H v H')
 hole:gM C
def iR (E:Nat→Value):Operand→Value
 | .tmp t=>E t
 | .const v=>if gn v then v else kI
 | .global _=>kI
 | .func f=>.func (.func f) #[] #[]
theorem gN (E:Env):iR E.get=fa E:=by funext x;cases x<;>rfl
theorem fi.eval {E:Nat→Value}{a:Act}(h:fi μ E a.tmps)(x:Operand):VR μ (iR E x) (a.eval x):=by
 cases x with
 |tmp t=>exact h t
 |const v=>
  show VR μ (if gn v then v else kI) v
  split
  ·rename_i hc;exact .closed hc
  ·exact .kI _
 |global g=>exact .kI _
 |func f=>exact .func _ _ _ _ _ rfl rfl rfl (λj h=>by simp at h) (λj h=>by simp at h)
theorem fi.put {E:Nat→Value}{a:Act}{v v':Value}(h:fi μ E a.tmps)(hv:VR μ v v')(d:Option Nat)(hd: ∀t,d=some t→t<a.tmps.size):
  fi μ (λt=>if d=some t then v else E t) (a.put d v').tmps:=by
 intro t;cases d with
 |none=>simpa[Act.put] using h t
 |some s=>
  simp only[Act.put];by_cases e:s=t
  ·subst e;have:=hd s rfl
   simp[this,hv]
  ·have e2:(some s:Option Nat)≠some t:=λx=>e (Option.some.inj x)
   simp only[e2,if_false];have:=h t
   simpa[Array.getD_eq_getD_getElem?,Array.getElem?_setIfInBounds_ne e] using this
theorem Env.aD (E:Env)(d:Option Nat)(v:Value)(t:Nat):(E.put d v).get t=if d=some t then v else E.get t:=by
 cases d with
 |none=>simp[Env.put]
 |some s=>
  simp only[Env.put,Env.get,Option.some.injEq];by_cases e:t=s
  ·subst e;simp
  ·rw[if_neg e,if_neg (Ne.symm e)]
theorem cu (a:Act)(d:Option Nat)(v:Value):(a.put d v).tmps.size=a.tmps.size:=by cases d<;>simp[Act.put]
theorem put_defers (a:Act)(d:Option Nat)(v:Value):(a.put d v).defers=a.defers:=by cases d<;>simp[Act.put]
def ry (ops:Array Oper)(o:Oper)(E:Nat→Value):Option Bool:=
 match o.guard with
 |none=>some true
 |some (j,want)=>match (ops[j]?).bind (·.dst) with
  |some d=>match E d with
   | .bool b=>some (b==want)
   | .tuple vs=>if vs.isEmpty then some false else none
   |_=>none
  |none=>none
theorem rz (ops:Array Oper)(o:Oper)(E:Env):ry ops o E.get=ee ops o E:=rfl
theorem lZ {ops:Array Oper}{o:Oper}{E:Nat→Value}{a:Act}{b:Bool}(hE:fi μ E a.tmps)(h:ry ops o E=some b):Region.wanted o (yielded ops a.tmps)=b:=by
 unfold ry at h;unfold Region.wanted;cases hg:o.guard with
 |none=>rw[hg] at h;cases h;rfl
 |some q=>
  obtain⟨j,want⟩:=q;rw[hg] at h;simp only at h ⊢;unfold yielded;cases hd:(ops[j]?).bind (·.dst) with
  |none=>rw[hd] at h;cases h
  |some d=>
   rw[hd] at h;simp only at h;have hr:=hE d;split at h
   ·rename_i c e;cases h;rw[e] at hr;have e2:=hr.bool;have e3:a.tmps[d]? =some (.bool c):=by
     rw[Array.getD_eq_getD_getElem?] at e2;cases hx:a.tmps[d]? with
     |none=>rw[hx] at e2;simp[undef] at e2
     |some x=>rw[hx] at e2;simp at e2;rw[e2]
    simp only[Option.bind_some,e3];cases c<;>cases want<;>rfl
   ·rename_i vs e;split at h
    ·rename_i adP;cases h;rw[e] at hr;obtain⟨iM,e2,hvs⟩:=hr.AW;simp only[Option.bind_some];rw[Array.getD_eq_getD_getElem?] at e2;cases hx:a.tmps[d]? with
     |none=>cases want<;>rfl
     |some x=>rw[hx] at e2;simp at e2;subst e2;cases want<;>rfl
    ·cases h
   ·cases h
def jY (P:Program)(C:ae)(E:Nat→Value)(H:aa)(o:Oper):Option (Value×aa):=
 match o.op with
 | .call {callee:=.value f,args, .. }=>match iR E f with
  | .func (.func g) first captured=>if g<P.funcs.size then C g (first.toList++args.toList.map (iR E)++captured.toList) H else none
  | .func (.yield i) _ _=>C (P.funcs.size+i) (args.toList.map (iR E)) H
  |_=>none
 |op=>im P (iR E) H op
theorem rA (C:ae)(E:Env)(H:aa)(o:Oper):jY P C E.get H o=gV P C E H o:=by
 obtain⟨dst,op,type,pos,after,guard⟩:=o;cases op with
 |call c=>
  obtain⟨callee,args,types⟩:=c;cases callee<;>simp only[jY,gV,gN]<;>rfl
 |_=>simp only[jY,gV,gN]
theorem sF {ro:Option Nat}{n:Nat}{C:ae}{E:Nat→Value}{o:Oper}{v:Value}{a:Act}{K:Act→World→Prop}{Q:Exit→Act→World→Prop}(hC:vf P B C)(hS:cQ P μ H w B)(hE:fi μ E a.tmps)(h:jY P C E H o=some (v,H'))(hK: ∀v' μ' w',μ.le μ'→VR μ' v v'→cQ P μ' H' w' B→fI B w w'→K (a.put o.dst v') w'):o.wpIn (FR ro) n P a w K Q:=by
 have Tr: ∀c,o.op≠ .defer c:=by
  intro c e;unfold jY at h;rw[e] at h;simp[im] at h
 refine⟨λ_ _=>trivial,?_⟩
 rw[Oper.semAt_eq _ _ _ Tr];unfold jY at h;split at h
 ·rename_i f args argTypes ho;split at h
  ·rename_i g first captured hf
   split at h
   case isFalse=>cases h
   rename_i hgs;obtain⟨⟨fn,zV,hb,Y7⟩,UA⟩:=(hC.told _ _ _ _ _ h).1 hgs;have mr:=hE.eval f;rw[hf] at mr;obtain⟨lA,gz,e,h1,h2⟩:=mr.wD rfl;have pj:dB μ (first.toList++args.toList.map (iR E)++captured.toList) (lA.toList++args.toList.map a.eval++gz.toList):=
    (h1.append (dB.map hE.eval args.toList)).append h2
   have pr:=UA μ w _ hS pj;have vg:(lA.toList++args.toList.map a.eval++gz.toList).toArray=lA++args.map a.eval++gz:=by
    rw[←Array.toList_inj];simp
   rw[vg] at pr;have dU:(execOp a.eval o).run P w= .ok (.enter g (lA++args.map a.eval++gz)) w:=by
    unfold execOp;rw[ho];have z7: ¬fn.body=none:=by intro e;rw[e] at hb;simp at hb
    have UB: ¬fn.name= "runtime.NumGoroutine" :=by simpa using Y7
    simp[resolve,Deferred.ofValue,e,invoke,callFunc,zV,UB,z7]
   rw[dU,Oper.uponIn_enter];refine⟨λh=>by simp[Fence.wide] at h,(MQ pr).mono ?_⟩
   rintro e w' ⟨v',μ',rfl,hle,hv,pg,hB⟩;exact hK v' μ' w' hle hv pg hB
  ·rename_i i f1 c1 hf;have mr:=hE.eval f;rw[hf] at mr;obtain⟨_,_,l,hl,e⟩:=mr.Qm;have hy:=(hC.told _ _ _ _ _ h).2 i rfl ro (n-1) μ w _ l hS (dB.map hE.eval args.toList) hl;have vg:(args.toList.map a.eval).toArray=args.map a.eval:=by rw[←Array.toList_inj];simp
   rw[vg] at hy;obtain⟨fn,tmps,assign,body,dU,hR⟩:=hy;have hex:(execOp a.eval o).run P w= .ok (.round l.b fn tmps assign body) w:=by
    unfold execOp;rw[ho];simp[resolve,Deferred.ofValue,e,invoke,dU]
   rw[hex,Oper.uponIn_round];refine⟨λh=>by simp[Fence.wide] at h,hR.mono ?_⟩
   rintro e w' ⟨v',μ',rfl,hle,hv,pg,hB⟩;exact hK v' μ' w' hle hv pg hB
  ·cases h
 ·obtain⟨v',μ',w',hr,hle,hv,pg,hB⟩:=Je (o:=o) hS hE.eval h;rcases hr with hr|⟨hr,rfl⟩
  ·rw[hr];exact hK v' μ' w' hle hv pg hB
  ·rw[hr];exact hK undef μ' w' hle hv pg hB
theorem Ac {ro:Option Nat}{n:Nat}{C:ae}{ops:Array Oper}{N:Nat}{Q:Exit→Act→World→Prop}(hC:vf P B C): ∀(l:List Oper) (E:Env) (H:aa) (E':Env) (H':aa) (μ:Mu) (a:Act) (w:World),
  fg P C ops l E H=some (E',H')→(∀o∈l,∀d,o.dst=some d→d<N)→N≤a.tmps.size→cQ P μ H w B→fi μ E.get a.tmps→
  (∀a' w' μ',μ.le μ'→fi μ' E'.get a'.tmps→a'.defers=a.defers→a'.tmps.size=a.tmps.size→cQ P μ' H' w' B→fI B w w'→Q .normal a' w')→wpListIn (FR ro) n P ops Q l a w:=by
 intro l;induction l with
 |nil=>
  intro E H E' H' μ a w h _ _ hS hE hQ;simp only[fg] at h;cases h;exact hQ a w μ μ.le_refl hE rfl rfl hS (fI.refl _ _)
 |cons o r ih=>
  intro E H E' H' μ a w h hd hN hS hE hQ;simp only[fg] at h;unfold wpListIn;have ZN: ∀t,o.dst=some t→t<a.tmps.size:=λt ht=>Nat.lt_of_lt_of_le (hd o (by simp) t ht) hN
  split at h
  ·rename_i hw;rw[lZ hE (by rw[rz];exact hw),if_pos rfl]
   cases hx:gV P C E H o with
   |none=>rw[hx] at h;cases h
   |some q=>
    obtain⟨v,H1⟩:=q;rw[hx] at h;simp only at h;rw[←rA] at hx;refine sF hC hS hE hx ?_;intro v' μ' w' hle hv pg hB;refine ih _ _ _ _ μ' _ w' h (λo ho=>hd o (by simp[ho])) (by rw[cu];exact hN) pg ?_ ?_
    ·have:=fi.put (hE.mono hle) hv o.dst ZN
     intro t;rw[Env.aD];exact this t
    ·intro a' Ad mR jW hE' hdf nA qC ZO;exact hQ a' Ad mR (Mu.le_trans hle jW) hE' (by rw[hdf,put_defers]) (by rw[nA,cu]) qC (hB.trans ZO)
  ·rename_i hw;rw[lZ hE (by rw[rz];exact hw)]
   simp only[Bool.false_eq_true,if_false];refine⟨λ_ _=>trivial,ih _ _ _ _ μ _ w h (λo ho=>hd o (by simp[ho])) (by rw[cu];exact hN) hS ?_ ?_⟩
   ·have:=fi.put hE (dB.tuple (c:=#[]) (c':=#[]) .nil) o.dst ZN
    intro t;rw[Env.aD];exact this t
   ·intro a' Ad mR jW hE' hdf nA qC ZO;exact hQ a' Ad mR jW hE' (by rw[hdf,put_defers]) (by rw[nA,cu]) qC ZO
  ·cases h
end Go.Proofs.YtjgmnoaalbbonaaGreatA.Am
end
