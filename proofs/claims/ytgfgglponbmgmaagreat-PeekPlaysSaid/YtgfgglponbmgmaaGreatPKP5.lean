/- Texts of the proof of peekPlays_holds, put together by a small program of ours (names shortened, spaces taken out). No condition beyond the given statement. -/
import Derived.Test.YtgfgglponbmgmaaGreatPKP1
import Derived.Test.YtgfgglponbmgmaaGreatPKP4
import Derived.OrdersIn
import Derived.TacticsIn
import Derived.Sort.LoopGhostIn
import Derived.RangeFuncIn
import Derived.RangeFuncSeq
import Derived.RangeFuncRecord
set_option linter.unusedVariables false
set_option linter.unusedSimpArgs false
set_option linter.unnecessarySimpa false
noncomputable section
section
namespace Go.Proofs.YtgfgglponbmgmaaGreatA.Am
variable {P:Program} {H H':aa} {i:Nat} {b:eU}
def ca (H:aa)(i:Nat):Prop:=H[i]? =some .hole
def aa.lay (H:aa)(i:Nat)(b:eU):aa:=H.set i (.zA b)
theorem ca.lt (h:ca H i):i<H.length:=(List.getElem?_eq_some_iff.1 h).1
theorem ca.get (h:ca H i):H.get i=none:=by unfold aa.get;rw[h]
theorem ca.dW (h:ca H i):H.dW i=none:=by unfold aa.dW;rw[h]
@[simp] theorem jN:(H.lay i b).length=H.length:=by simp[aa.lay]
theorem pe (hf:ca H i){j:Nat}{c:eU}(h:H.get j=some c):(H.lay i b).get j=some c:=by
 have e:j≠i:=by rintro rfl;rw[hf.get] at h;cases h
 rw[←h];exact aa.get_congr (List.getElem?_set_ne (Ne.symm e))
theorem lN (hf:ca H i){j:Nat}{o:dB}(h:H.dW j=some o):(H.lay i b).dW j=some o:=by
 have e:j≠i:=by rintro rfl;rw[hf.dW] at h;cases h
 rw[←h];exact aa.jH (List.getElem?_set_ne (Ne.symm e))
theorem ca.BM (hf:ca H i){j:Nat}{c:eU}(h:H.get j=some c):j≠i:=by rintro rfl;rw[hf.get] at h;cases h
theorem ca.wJ (hf:ca H i){j:Nat}{c:dB}(h:H.dW j=some c):j≠i:=by rintro rfl;rw[hf.dW] at h;cases h
theorem ca.set (hf:ca H i){j:Nat}(h:j≠i)(s:Slot):ca (H.set j s) i:=by
 unfold ca;rw[List.getElem?_set_ne h];exact hf
theorem ca.new (hf:ca H i)(c:eU):ca (H.new c) i:=by
 unfold ca aa.new;rw[List.getElem?_append_left hf.lt];exact hf
theorem ca.kg (hf:ca H i)(c:dB):ca (H.kg c) i:=by
 unfold ca aa.kg;rw[List.getElem?_append_left hf.lt];exact hf
theorem ca.app (hf:ca H i)(T:aa):ca (H++T) i:=by
 unfold ca;rw[List.getElem?_append_left hf.lt];exact hf
theorem rk (hf:ca H i)(c:eU):(H.lay i b).new c=(H.new c).lay i b:=by
 unfold aa.lay aa.new;rw[List.set_append_left _ _ hf.lt]
theorem DF (hf:ca H i)(c:dB):(H.lay i b).kg c=(H.kg c).lay i b:=by
 unfold aa.lay aa.kg;rw[List.set_append_left _ _ hf.lt]
theorem QL (hf:ca H i)(T:aa):(H.lay i b)++T=aa.lay (H++T) i b:=by
 unfold aa.lay;rw[List.set_append_left _ _ hf.lt]
theorem rl {j:Nat}(h:j≠i)(s:Slot):(H.lay i b).set j s=aa.lay (H.set j s) i b:=by
 unfold aa.lay;rw[List.set_comm _ _ (Ne.symm h)]
theorem QM {j:Nat}(h:j≠i)(c:eU):(H.lay i b).put j c=(H.put j c).lay i b:=rl h _
theorem rp {j:Nat}(h:j≠i)(c:dB):(H.lay i b).jF j c=(H.jF j c).lay i b:=rl h _
theorem DG {j:Nat}(h:j≠i):(H.lay i b).kill j=(H.kill j).lay i b:=rl h _
def Up (i:Nat)(b:eU)(H:aa)(x y:Option (Value×aa)):Prop:=
 ca H i→∀v H',x=some (v,H')→ca H' i∧y=some (v,H'.lay i b)
theorem Up.same {x:Option Value}{y:Option Value}(h:ca H i→∀v,x=some v→y=some v):Up i b H (x.map (·,H)) (y.map (·,H.lay i b)):=by
 intro hf v H' e;rw[Option.map_eq_some_iff] at e;obtain⟨u,hu,e⟩:=e;cases e;exact⟨hf,by rw[h hf _ hu];rfl⟩
theorem oF (hf:ca H i){j off n:Nat}{vs:List Value}(h:aR H j off n=some vs):aR (H.lay i b) j off n=some vs:=by
 unfold aR at h ⊢;split at h
 ·rename_i c hc;rw[pe hf hc];exact h
 ·cases h
theorem lO (hf:ca H i){j off:Nat}{vs:List Value}(h:bX H j off vs=some H'):ca H' i∧bX (H.lay i b) j off vs=some (H'.lay i b):=by
 unfold bX at h ⊢;split at h
 ·rename_i c hc;rw[pe hf hc];split at h
  ·rename_i pW;cases h;simp only[pW,if_true];exact⟨hf.set (hf.BM hc) _,by rw[QM (hf.BM hc)]⟩
  ·cases h
 ·cases h
theorem s9 (hf:ca H i){t:TypeId}{p v:Value}(h:jd P t p H=some v):jd P t p (H.lay i b)=some v:=by
 unfold jd at h ⊢;split at h
 ·split at h
  ·split at h
   ·split at h
    ·rename_i vs hv;rw[oF hf hv];exact h
    ·cases h
   ·cases h
  ·split at h
   ·rename_i c hc;rw[pe hf hc];exact h
   ·cases h
  ·cases h
 ·cases h
theorem Jt (hf:ca H i){t:TypeId}{p v:Value}(h:Ar P t p v H=some H'):ca H' i∧Ar P t p v (H.lay i b)=some (H'.lay i b):=by
 unfold Ar at h ⊢;split at h
 ·split at h
  ·split at h
   ·rename_i hc;simp only[hc,and_self,if_true];exact lO hf h
   ·cases h
  ·cases h
 ·cases h
theorem rq (hf:ca H i){size n:Nat}{x:Value}{cs:List Value}(h:cI H size n x=some cs):cI (H.lay i b) size n x=some cs:=by
 unfold cI at h ⊢;split at h
 ·split at h
  ·rename_i h0;rw[if_pos h0];exact h
  ·rename_i h0;rw[if_neg h0];exact oF hf h
 ·exact h
 ·cases h
theorem Na (hf:ca H i){t:TypeId}{size bytes:Nat}{z x:Value}{r:Nat×List Value}(h:Jj P H t size bytes z x=some r):Jj P (H.lay i b) t size bytes z x=some r:=by
 unfold Jj at h ⊢;split at h
 ·exact h
 ·rw[Option.map_eq_some_iff] at h;obtain⟨cs,h1,h2⟩:=h;rw[rq hf h1];simp[h2]
 ·cases h
theorem DH {ts:Array TypeId}{s x:Value}:Up i b H (oZ P ts s x H) (oZ P ts s x (H.lay i b)):=by
 intro hf v H' h;unfold oZ at h ⊢;split at h
 case h_2=>cases h
 split at h
 case h_2=>cases h
 split at h
 case h_2=>cases h
 split at h
 case h_2=>cases h
 rename_i r n new hg;rw[Na hf hg];simp only at h ⊢;split at h
 ·rename_i hle;rw[if_pos hle];split at h
  ·cases h;exact⟨hf,rfl⟩
  ·split at h
   ·rename_i h0;cases h;rw[if_pos h0];exact⟨hf,rfl⟩
   ·rename_i h0;rw[if_neg h0];split at h
    ·rename_i c hc;rw[pe hf hc];simp only;split at h
     ·rename_i he;rw[if_pos he];rw[Option.map_eq_some_iff] at h;obtain⟨H2,h1,h2⟩:=h;cases h2;obtain⟨k1,k2⟩:=lO (b:=b) hf h1;exact⟨k1,by rw[k2];rfl⟩
     ·cases h
    ·cases h
  ·cases h
 ·rename_i hle;rw[if_neg hle];split at h
  ·rename_i hb;rw[if_pos hb];split at h
   ·split at h
    ·rename_i h0;cases h;rw[if_pos h0];exact⟨hf.new _,by rw[rk hf,jN]⟩
    ·cases h
   ·split at h
    ·rename_i c hc;rw[pe hf hc];simp only;split at h
     ·rename_i he;rw[if_pos he];split at h
      ·rename_i old hold;cases h;rw[oF hf hold];simp only;have hk:ca (H.kill _) i:=hf.set (hf.BM hc) _;refine⟨hk.new _,?_⟩;rw[DG (hf.BM hc),rk hk,jN]
      ·cases h
     ·cases h
    ·cases h
   ·cases h
  ·cases h
theorem Ju {ts:Array TypeId}{d s:Value}:Up i b H (As P ts d s H) (As P ts d s (H.lay i b)):=by
 intro hf v H' h;unfold As at h ⊢;split at h
 case h_2=>cases h
 split at h
 case h_2=>cases h
 split at h
 case h_2=>cases h
 simp only at h ⊢;split at h
 case h_2=>cases h
 rename_i cs q8;rw[rq hf q8];simp only;split at h
 ·cases h;exact⟨hf,rfl⟩
 ·split at h
  ·rename_i h0;cases h;rw[if_pos h0];exact⟨hf,rfl⟩
  ·rename_i h0;rw[if_neg h0];rw[Option.map_eq_some_iff] at h;obtain⟨H2,h1,h2⟩:=h;cases h2;obtain⟨k1,k2⟩:=lO (b:=b) hf h1;exact⟨k1,by rw[k2];rfl⟩
 ·cases h
theorem FA {ts:Array TypeId}{x:Value}:Up i b H (sQ P ts x H) (sQ P ts x (H.lay i b)):=by
 intro hf v H' h;unfold sQ at h ⊢;split at h
 case h_2=>cases h
 split at h
 case h_2=>cases h
 split at h
 ·cases h;exact⟨hf,rfl⟩
 ·split at h
  ·rename_i h0;cases h;rw[if_pos h0];exact⟨hf,rfl⟩
  ·rename_i h0;rw[if_neg h0];rw[Option.map_eq_some_iff] at h;obtain⟨H2,h1,h2⟩:=h;cases h2;obtain⟨k1,k2⟩:=lO (b:=b) hf h1;exact⟨k1,by rw[k2];rfl⟩
 ·cases h
theorem wK (hf:ca H i){t:TypeId}{x v:Value}{lo hi:Option Value}(h:om P H t x lo hi=some v):om P (H.lay i b) t x lo hi=some v:=by
 unfold om at h ⊢;split at h
 case h_2=>cases h
 split at h
 case h_2=>cases h
 split at h
 case h_2=>cases h
 split at h
 case isFalse=>cases h
 rename_i hc;rw[if_pos hc];split at h
 ·exact h
 ·split at h
  ·rename_i c hc;rw[pe hf hc];exact h
  ·split at h
   case isFalse=>cases h
   rename_i ZP hh0 hx0 hc0;cases h;obtain⟨g1,g2,g3,g4⟩:=hc;subst hc0;split
   ·split
    ·simp only[Option.some.injEq,Value.slice.injEq,Addr.mk.injEq];refine⟨⟨trivial,?_,trivial⟩,?_,?_⟩;all_goals first|omega| (rw[show Int.toNat _=0 by omega];omega)
    ·rfl
   ·rfl
 ·cases h
theorem DI (hf:ca H i){t:TypeId}{x v m:Value}{lo hi:Option Value}(h:pc P H t x lo hi m=some v):pc P (H.lay i b) t x lo hi m=some v:=by
 unfold pc at h ⊢;split at h
 ·split at h
  ·rename_i hc;rw[if_pos hc];exact wK hf h
  ·cases h
 ·cases h
theorem Jv (hf:ca H i){q:IntKind}{z m x v:Value}{ok:Bool}(h:Dn q z ok m x H=some v):Dn q z ok m x (H.lay i b)=some v:=by
 unfold Dn at h ⊢;split at h
 ·split at h
  ·rename_i hc;rw[lN hf hc];exact h
  ·cases h
 ·cases h
theorem DJ (hf:ca H i){t:TypeId}{m x v:Value}{ok:Bool}(h:pb P t m x ok H=some v):pb P t m x ok (H.lay i b)=some v:=by
 unfold pb at h ⊢;split at h
 ·exact Jv hf h
 ·cases h
theorem Nb (hf:ca H i){m v:Value}(h:Jk m H=some v):Jk m (H.lay i b)=some v:=by
 unfold Jk at h ⊢;split at h
 ·split at h
  ·rename_i hc;rw[lN hf hc];exact h
  ·cases h
 ·cases h
theorem Nc (hf:ca H i){ts:Array TypeId}{x v:Value}(h:Bw P H ts x=some v):Bw P (H.lay i b) ts x=some v:=by
 unfold Bw at h ⊢;split at h
 ·split at h
  ·exact Nb hf h
  ·exact h
  ·exact h
  ·exact h
  ·cases h
 ·cases h
theorem Nd {q:IntKind}{m x u:Value}:Up i b H (MT q m x u H) (MT q m x u (H.lay i b)):=by
 intro hf v H' h;unfold MT at h ⊢;split at h
 ·split at h
  ·rename_i hc;rw[lN hf hc];simp only;split at h
   ·rename_i hq;cases h;rw[if_pos hq];exact⟨hf.set (hf.wJ hc) _,by rw[rp (hf.wJ hc)]⟩
   ·cases h
  ·cases h
 ·cases h
theorem Nf {q:IntKind}{m x:Value}:Up i b H (MU q m x H) (MU q m x (H.lay i b)):=by
 intro hf v H' h;unfold MU at h ⊢;split at h
 ·split at h
  ·rename_i hc;rw[lN hf hc];simp only;split at h
   ·rename_i hq;cases h;rw[if_pos hq];exact⟨hf.set (hf.wJ hc) _,by rw[rp (hf.wJ hc)]⟩
   ·cases h
  ·cases h
 ·cases h
theorem BN {c:Builtin}{ts:Array TypeId}{aq':List Value}:Up i b H (jQ P c ts aq' H) (jQ P c ts aq' (H.lay i b)):=by
 intro hf v H' h;unfold jQ at h ⊢;split at h
 ·exact DH hf v H' h
 ·exact Ju hf v H' h
 ·exact Up.same (λhf v h=>Nc hf h) hf v H' h
 ·exact FA hf v H' h
 ·unfold ve at h ⊢;split at h
  ·exact Nf hf v H' h
  ·cases h
 ·split at h
  ·cases h;exact⟨hf,rfl⟩
  ·cases h
 ·split at h
  ·rename_i hk;cases h;rw[if_pos hk];exact⟨hf,rfl⟩
  ·cases h
 ·split at h
  ·rename_i hk;cases h;rw[if_pos hk];exact⟨hf,rfl⟩
  ·cases h
 ·cases h
theorem uN {t:TypeId}{n:Nat}{ps:List (Nat×Value)}:Up i b H (ay P t n ps H) (ay P t n ps (H.lay i b)):=by
 intro hf v H' h;unfold ay at h ⊢;split at h
 ·cases h
 ·rename_i h1;rw[if_neg h1];split at h
  ·split at h
   ·split at h
    ·rename_i h2;rw[if_pos h2];split at h
     ·cases h;exact⟨hf.new _,by rw[rk hf,jN]⟩
     ·cases h
    ·cases h
   ·cases h
  ·cases h
theorem wL {t:TypeId}{l c:Value}:Up i b H (gg P t l c H) (gg P t l c (H.lay i b)):=by
 intro hf v H' h;unfold gg at h ⊢;split at h
 ·split at h
  ·split at h
   ·rename_i h2;rw[if_pos h2];cases h;exact⟨hf.new _,by rw[rk hf,jN]⟩
   ·cases h
  ·cases h
 ·cases h
theorem wM {t:TypeId}{es:Nat}{cs:List Value}:Up i b H (some (aS H t es cs)) (some (aS (H.lay i b) t es cs)):=by
 intro hf v H' h;unfold aS at h ⊢;cases h;exact⟨hf.new _,by rw[rk hf,jN]⟩
theorem pf {ρ:Operand→Value}{op:Op}:Up i b H (gU P ρ H op) (gU P ρ (H.lay i b) op):=by
 intro hf v H' h;unfold gU at h ⊢;split at h<;>try(simp only)
 ·cases h;exact⟨hf,rfl⟩
 ·cases h;exact⟨hf,rfl⟩
 ·split at h
  ·cases h;exact⟨hf,rfl⟩
  ·cases h
 ·split at h
  ·exact wM hf v H' h
  ·cases h
 ·split at h
  ·rename_i h1;rw[if_pos h1];exact wM hf v H' h
  ·cases h
 ·exact Up.same (λ_ _ h=>h) hf v H' h
 ·exact uN hf v H' h
 ·exact Up.same (λhf _ h=>s9 hf h) hf v H' h
 ·rw[Option.map_eq_some_iff] at h;obtain⟨H2,h1,h2⟩:=h;cases h2;obtain⟨k1,k2⟩:=Jt (b:=b) hf h1;exact⟨k1,by rw[k2];rfl⟩
 ·split at h
  ·cases h;exact⟨hf,rfl⟩
  ·cases h;exact⟨hf,rfl⟩
  ·cases h
 ·exact Up.same (λ_ _ h=>h) hf v H' h
 ·exact Up.same (λ_ _ h=>h) hf v H' h
 ·split at h
  ·cases h;exact⟨hf,rfl⟩
  ·cases h
 ·cases h;exact⟨hf,rfl⟩
 ·exact wL hf v H' h
 ·exact Up.same (λhf _ h=>wK hf h) hf v H' h
 ·exact Up.same (λhf _ h=>DI hf h) hf v H' h
 ·unfold qS at h ⊢;split at h
  ·unfold mmk at h ⊢;cases h;exact⟨hf.kg _,by rw[DF hf,jN]⟩
  ·cases h
 ·exact Up.same (λhf _ h=>DJ hf h) hf v H' h
 ·unfold mR at h ⊢;split at h
  ·exact Nd hf v H' h
  ·cases h
 ·repeat' split at h
  all_goals first| (cases h;exact⟨hf,rfl⟩)|cases h
 ·repeat' split at h
  all_goals first| (exact Up.same (λ_ _ h=>h) hf v H' h)|cases h
 ·repeat' split at h
  all_goals first| (rename_i hb;cases h;rw[if_pos hb];exact⟨hf,rfl⟩)|cases h
 ·split at h
  ·split at h
   ·split at h
    ·rename_i hb;rw[if_pos hb];exact Up.same (λ_ _ h=>h) hf v H' h
    ·cases h
   ·cases h
  ·split at h
   ·rename_i hb;rw[if_pos hb];rw[Option.map_eq_some_iff] at h;obtain⟨u,hu,e⟩:=h;cases e;exact⟨hf,by rw[hu];rfl⟩
   ·cases h
  ·cases h
 ·repeat' split at h
  all_goals first| (exact Up.same (λ_ _ h=>h) hf v H' h)|cases h
 ·exact BN hf v H' h
 ·cases h
def gK (C:ae):Prop:=∀f args H i b,Up i b H (C f args H) (C f args (H.lay i b))
theorem td {C:ae}(hC:gK C){E:Env}{o:Oper}:Up i b H (gz P C E H o) (gz P C E (H.lay i b) o):=by
 intro hf v H' h;unfold gz at h ⊢;split at h
 ·split at h
  ·split at h
   ·rename_i h1;rw[if_pos h1];exact hC _ _ _ _ _ hf v H' h
   ·cases h
  ·exact hC _ _ _ _ _ hf v H' h
  ·cases h
 ·exact pf hf v H' h
theorem AD {ρ:Operand→Value}{op:Op}{j:Nat}(hj:j≠i):Up i b H (pR P ρ j H op) (pR P ρ j (H.lay i b) op):=by
 intro hf v H' h;unfold pR at h ⊢;have e:(H.lay i b)[j]? =H[j]? :=List.getElem?_set_ne (Ne.symm hj);rw[e];split at h
 ·split at h
  ·rename_i hb;cases h;exact⟨hf.set hj _,by simp only[rl hj]⟩
  ·cases h
 ·cases h
theorem wN {C:ae}(hC:gK C){F:List Nat}{base k:Nat}(hb:i<base){E:Env}{o:Oper}:Up i b H (dw P C F base k E H o) (dw P C F base k E (H.lay i b) o):=by
 intro hf v H' h;unfold dw at h ⊢;split at h
 ·rename_i h1;rw[if_pos h1];exact AD (by omega) hf v H' h
 ·rename_i h1;rw[if_neg h1];exact td hC hf v H' h
theorem qy {C:ae}(hC:gK C){ops:Array Oper}: ∀(l:List Oper) (E E':Env) (H H':aa),ca H i→eF P C ops l E H=some (E',H')→
  ca H' i∧eF P C ops l E (H.lay i b)=some (E',H'.lay i b)∧trace P C ops l E (H.lay i b)=(trace P C ops l E H).map λp=>(p.1,p.2.lay i b):=by
 intro l;induction l with
 |nil=>intro E E' H H' hf h;simp only[eF] at h;cases h;exact⟨hf,rfl,rfl⟩
 |cons o r ih=>
  intro E E' H H' hf h;simp only[eF] at h;split at h
  ·rename_i hw;cases hx:gz P C E H o with
   |none=>rw[hx] at h;cases h
   |some q=>
    obtain⟨v,H1⟩:=q;rw[hx] at h;obtain⟨f1,e1⟩:=td (b:=b) hC hf v H1 hx;obtain⟨f2,e2,e3⟩:=ih _ _ _ _ f1 h;exact⟨f2,by simp only[eF,hw,e1,e2],by simp only[trace,hw,e1,hx,e3,List.map_cons]⟩
  ·rename_i hw;obtain⟨f2,e2,e3⟩:=ih _ _ _ _ hf h;exact⟨f2,by simp only[eF,hw,e2],by simp only[trace,hw,e3,List.map_cons]⟩
  ·cases h
theorem ui {C:ae}(hC:gK C){F:List Nat}{base:Nat}(hb:i<base){ops:Array Oper}: ∀(l:List Oper) (k:Nat) (E E':Env) (H H':aa),ca H i→cX P C F base ops l k E H=some (E',H')→
  ca H' i∧cX P C F base ops l k E (H.lay i b)=some (E',H'.lay i b)∧eo P C F base ops l k E (H.lay i b)=(eo P C F base ops l k E H).map λp=>(p.1,p.2.lay i b):=by
 intro l;induction l with
 |nil=>intro k E E' H H' hf h;simp only[cX] at h;cases h;exact⟨hf,rfl,rfl⟩
 |cons o r ih=>
  intro k E E' H H' hf h;simp only[cX] at h;split at h
  ·rename_i hw;cases hx:dw P C F base k E H o with
   |none=>rw[hx] at h;cases h
   |some q=>
    obtain⟨v,H1⟩:=q;rw[hx] at h;obtain⟨f1,e1⟩:=wN (b:=b) hC hb hf v H1 hx;obtain⟨f2,e2,e3⟩:=ih _ _ _ _ _ f1 h;exact⟨f2,by simp only[cX,hw,e1,e2],by simp only[eo,hw,e1,hx,e3,List.map_cons]⟩
  ·rename_i hw;obtain⟨f2,e2,e3⟩:=ih _ _ _ _ _ hf h;exact⟨f2,by simp only[cX,hw,e2],by simp only[eo,hw,e3,List.map_cons]⟩
  ·cases h
theorem FB {C:ae}(hC:gK C){ops:Array Oper}: ∀(l:List Oper) (E E':Env) (H H':aa),ca H i→eF P C ops l E H=some (E',H')→∀p∈trace P C ops l E H,ca p.2 i:=by
 intro l;induction l with
 |nil=>intro E E' H H' hf _ p hp;simp only[trace,List.mem_singleton] at hp;subst hp;exact hf
 |cons o r ih=>
  intro E E' H H' hf h p hp;simp only[eF] at h;split at h
  ·rename_i hw;cases hx:gz P C E H o with
   |none=>rw[hx] at h;cases h
   |some q=>
    obtain⟨v,H1⟩:=q;rw[hx] at h;obtain⟨f1,_⟩:=td (b:=default) hC hf v H1 hx;simp only[trace,hw,hx] at hp;rcases List.mem_cons.1 hp with rfl|hp
    ·exact hf
    ·exact ih _ _ _ _ f1 h p hp
  ·rename_i hw;simp only[trace,hw] at hp;rcases List.mem_cons.1 hp with rfl|hp
   ·exact hf
   ·exact ih _ _ _ _ hf h p hp
  ·cases h
theorem DK {C:ae}(hC:gK C){F:List Nat}{base:Nat}(hb:i<base){ops:Array Oper}: ∀(l:List Oper) (k:Nat) (E E':Env) (H H':aa),ca H i→cX P C F base ops l k E H=some (E',H')→∀p∈eo P C F base ops l k E H,ca p.2 i:=by
 intro l;induction l with
 |nil=>intro k E E' H H' hf _ p hp;simp only[eo,List.mem_singleton] at hp;subst hp;exact hf
 |cons o r ih=>
  intro k E E' H H' hf h p hp;simp only[cX] at h;split at h
  ·rename_i hw;cases hx:dw P C F base k E H o with
   |none=>rw[hx] at h;cases h
   |some q=>
    obtain⟨v,H1⟩:=q;rw[hx] at h;obtain⟨f1,_⟩:=wN (b:=default) hC hb hf v H1 hx;simp only[eo,hw,hx] at hp;rcases List.mem_cons.1 hp with rfl|hp
    ·exact hf
    ·exact ih _ _ _ _ _ f1 h p hp
  ·rename_i hw;simp only[eo,hw] at hp;rcases List.mem_cons.1 hp with rfl|hp
   ·exact hf
   ·exact ih _ _ _ _ _ hf h p hp
  ·cases h
theorem wO {ops:Array Oper}{T:List (Env×aa)}{c:Nat×Nat}(hT: ∀p∈T,ca p.2 i)(h:iO P ops T c=true):iO P ops (T.map λp=>(p.1,p.2.lay i b)) c=true:=by
 unfold iO at h ⊢;simp only[List.getElem?_map];cases h1:T[c.1]? with
 |none=>rw[h1] at h;cases h
 |some p1=>
  cases h2:T[c.2]? with
  |none=>rw[h1,h2] at h;cases h
  |some p2=>
   cases h3:T[c.2+1]? with
   |none=>rw[h1,h2,h3] at h;cases h
   |some p3=>
    rw[h1,h2,h3] at h;obtain⟨E1,H1⟩:=p1;obtain⟨E2,H2⟩:=p2;obtain⟨E3,H3⟩:=p3;simp only[Option.map_some] at h ⊢;cases h4:ops[c.1]? with
    |none=>rw[h4] at h;cases h
    |some x=>
     cases h5:ops[c.2]? with
     |none=>rw[h4,h5] at h;cases h
     |some y=>
      rw[h4,h5] at h;simp only at h ⊢;split at h
      ·have f1:=hT _ (List.mem_of_getElem? h1);have f2:=hT _ (List.mem_of_getElem? h2);have f3:=hT _ (List.mem_of_getElem? h3);split at h
       ·rename_i u K1 u1 K2 u2 K3 e1 e2 e3;rw[(pf (b:=b) f1 _ _ e1).2,(pf (b:=b) f2 _ _ e2).2,(pf (b:=b) f3 _ _ e3).2];exact h
       ·cases h
      ·exact h
      ·cases h
theorem zR {C:ae}(hC:gK C){ops:Array Oper}{draw:Bool}{E E':Env}(hf:ca H i)(h:fe P C ops draw E H=some (E',H')):ca H' i∧fe P C ops draw E (H.lay i b)=some (E',H'.lay i b):=by
 unfold fe at h ⊢;cases draw with
 |false=>
  simp only[Bool.false_eq_true,if_false] at h ⊢;obtain⟨h1,h2,_⟩:=qy (b:=b) hC _ _ _ _ _ hf h;exact⟨h1,h2⟩
 |true=>
  simp only[if_true] at h ⊢;cases hF:lK P ops with
  |nil=>
   rw[hF] at h;simp only at h ⊢;cases hc:mB P ops with
   |nil=>
    rw[hc] at h;obtain⟨h1,h2,_⟩:=qy (b:=b) hC _ _ _ _ _ hf h;exact⟨h1,h2⟩
   |cons c cs=>
    rw[hc] at h;simp only at h ⊢;split at h
    ·rename_i jt;obtain⟨h1,h2,h3⟩:=qy (b:=b) hC _ _ _ _ _ hf h;refine⟨h1,?_⟩;rw[if_pos,h2];rw[h3];rw[List.all_eq_true] at jt ⊢;exact λx hx=>wO (FB hC _ _ _ _ _ hf h) (jt x hx)
    ·cases h
  |cons f F=>
   rw[hF] at h;have zL:ca (H.cE (f::F).length) i:=hf.app _;have e:(H.lay i b).cE (f::F).length=(H.cE (f::F).length).lay i b:=QL hf _;simp only[jN] at h ⊢;rw[e];cases hc:mB P ops with
   |nil=>
    rw[hc] at h;obtain⟨h1,h2,_⟩:=ui (b:=b) hC hf.lt _ _ _ _ _ _ zL h;exact⟨h1,h2⟩
   |cons c cs=>
    rw[hc] at h;simp only at h ⊢;split at h
    ·rename_i jt;obtain⟨h1,h2,h3⟩:=ui (b:=b) hC hf.lt _ _ _ _ _ _ zL h;refine⟨h1,?_⟩;rw[if_pos,h2];rw[h3];rw[List.all_eq_true] at jt ⊢;exact λx hx=>wO (DK hC hf.lt _ _ _ _ _ _ zL h) (jt x hx)
    ·cases h
theorem BO {C:ae}(hC:gK C){keep:List Nat}{n:Nat}: ∀(c:Code) (vs:List Value) (H:aa) (r:bD×List Value×aa),ca H i→ev P C keep n c vs H=some r→
  ca r.2.2 i∧ev P C keep n c vs (H.lay i b)=some (r.1,r.2.1,r.2.2.lay i b):=by
 intro c;induction c with
 |skip=>intro vs H r hf h;simp only[ev] at h;cases h;exact⟨hf,rfl⟩
 |label l=>intro vs H r hf h;simp only[ev] at h;cases h;exact⟨hf,rfl⟩
 |exit id=>intro vs H r hf h;simp only[ev] at h;cases h;exact⟨hf,rfl⟩
 |ret=>intro vs H r hf h;simp only[ev] at h;cases h;exact⟨hf,rfl⟩
 |goto l=>intro vs H r hf h;simp only[ev] at h;cases h
 |refuse s=>intro vs H r hf h;simp only[ev] at h;cases h
 |rangeFunc g ps x y _ _=>
  intro vs H r hf h;simp only[ev] at h ⊢;split at h
  case h_2=>cases h
  split at h
  case isFalse=>cases h
  rename_i gG;rw[if_pos gG,jN,DF hf];split at h
  ·rename_i u H2 hx;obtain⟨f1,e1⟩:=hC _ _ _ i b (hf.kg _) _ _ hx;rw[e1];simp only;cases ho:H2.dW H.length with
   |none=>rw[ho] at h;simp[zJ] at h
   |some o=>
    have dz:H.length≠i:=by have:=hf.lt;omega
    rw[lN f1 ho,DG dz];rw[ho] at h;have fk:ca (H2.kill H.length) i:=f1.set dz _;unfold zJ at h ⊢;cases o with
    |E8 _ _=>cases h
    |loop L s=>cases s<;>simp only at h<;>cases h<;>exact⟨fk,rfl⟩
  ·cases h
 |region id ops draw=>
  intro vs H r hf h;simp only[ev] at h ⊢;split at h
  ·rename_i E H1 hr;cases h;obtain⟨f1,e1⟩:=zR (b:=b) hC hf hr;rw[e1];exact⟨f1,rfl⟩
  ·cases h
 |seq x y Vq Vr=>
  intro vs H r hf h;simp only[ev] at h ⊢;cases hx:ev P C keep n x vs H with
  |none=>rw[hx] at h;cases h
  |some q=>
   obtain⟨e1,FC,H1⟩:=q;obtain⟨f1,k1⟩:=Vq _ _ _ hf hx;rw[hx] at h;rw[k1];cases e1 with
   |normal=>exact Vr _ _ _ f1 h
   |exit id=>cases h;exact⟨f1,rfl⟩
   |ret=>cases h;exact⟨f1,rfl⟩
 |cond c x y Vq Vr=>
  intro vs H r hf h;simp only[ev] at h ⊢;split at h
  ·rename_i t _;cases t with
   |true=>exact Vq _ _ _ hf h
   |false=>exact Vr _ _ _ hf h
  ·cases h
 |block id c ih=>
  intro vs H r hf h;simp only[ev] at h ⊢;cases hx:ev P C keep n c vs H with
  |none=>rw[hx] at h;cases h
  |some q=>
   obtain⟨e1,FC,H1⟩:=q;obtain⟨f1,k1⟩:=ih _ _ _ hf hx;rw[hx] at h;rw[k1];cases e1 with
   |normal=>cases h;exact⟨f1,rfl⟩
   |ret=>cases h;exact⟨f1,rfl⟩
   |exit ZC=>
    simp only at h ⊢;split at h<;>(rename_i Ng;cases h;first|rw[if_pos Ng]|rw[if_neg Ng])<;>exact⟨f1,rfl⟩
 |scope c ih=>intro vs H r hf h;simp only[ev] at h ⊢;exact ih _ _ _ hf h
 |loop c ih=>
  intro vs H r hf h;simp only[ev] at h ⊢;have key: ∀k vs H,ca H i→iter k (ev P C keep n c) vs H=some r→ca r.2.2 i∧iter k (ev P C keep n c) vs (H.lay i b)=some (r.1,r.2.1,r.2.2.lay i b):=by
   intro k;induction k with
   |zero=>intro vs H _ h;simp only[iter] at h;cases h
   |succ k ihk=>
    intro vs H hf h;simp only[iter] at h ⊢;cases hx:ev P C keep n c vs H with
    |none=>rw[hx] at h;cases h
    |some q=>
     obtain⟨e1,FC,H1⟩:=q;obtain⟨f1,k1⟩:=ih _ _ _ hf hx;rw[hx] at h;rw[k1];cases e1 with
     |normal=>exact ihk _ _ f1 h
     |exit id=>cases h;exact⟨f1,rfl⟩
     |ret=>cases h;exact⟨f1,rfl⟩
  exact key n vs H hf h
theorem FD {C:ae}(hC:gK C){n j:Nat}{args:List Value}:Up i b H (qo P C n j args H) (qo P C n j args (H.lay i b)):=by
 intro hf v H' h;unfold qo at h ⊢;split at h
 case h_2=>cases h
 rename_i L ho;rw[lN hf ho];simp only;split at h
 case isFalse=>cases h
 rename_i hl;rw[if_pos hl];split at h
 case h_2=>cases h
 rename_i vs H1 hx;obtain⟨f1,e1⟩:=BO (b:=b) hC _ _ _ _ hf hx;rw[e1];simp only;split at h
 case h_2=>cases h
 rename_i L1 Jw;rw[lN f1 Jw];simp only;have dz:j≠i:=f1.wJ Jw;rw[rp dz];split at h
 case h_2=>cases h
 rename_i e Vs H2 hy;obtain⟨f2,e2⟩:=BO (b:=b) hC _ _ _ _ (f1.set dz (.dW (.loop L1 .busy))) hy;have e2':ev P C L.keep n L.body vs ((H1.jF j (.loop L1 .busy)).lay i b)=some (e,Vs,H2.lay i b):=e2;rw[e2'];simp only;unfold QD at h ⊢;split at h
 case h_2=>cases h
 rename_i L2 Di;rw[lN f2 Di];simp only;cases h;exact⟨f2.set dz _,by rw[rp dz]⟩
theorem AE {bad:List FuncId}{G:ae}(hG:gK G): ∀n,gK (gB P bad G n):=by
 intro n;induction n with
 |zero=>intro f args H i b hf v H' h;simp only[gB] at h;cases h
 |succ n ih=>
  intro f args H i b hf v H' h;simp only[gB] at h ⊢;split at h
  ·rename_i hb;rw[if_pos hb];exact hG _ _ _ _ _ hf v H' h
  ·rename_i hb;rw[if_neg hb];have res: ∀(fn:Func) (E:Env) (H2:aa) (u:Value),ca H2 i→By P fn E H2=some u→By P fn E (H2.lay i b)=some u:=by
    intro fn E H2 u hf h;unfold By at h ⊢;rw[Option.map_eq_some_iff] at h ⊢;obtain⟨vs,h1,h2⟩:=h;refine⟨vs,?_,h2⟩;revert vs
    induction fn.results.toList with
    |nil=>intro vs h1 _;exact h1
    |cons r l Qp=>
     intro vs h1 h2;rw[List.mapM_cons] at h1 ⊢;simp only[Option.bind_eq_bind,Option.bind_eq_some_iff] at h1 ⊢;obtain⟨x,hx,ys,Y6,e⟩:=h1;refine⟨x,?_,ys,?_,e⟩
     ·cases r with
      |tmp t=>exact hx
      |cell a t=>exact s9 hf hx
     ·have: ∀vs,List.mapM (λ(r:ResultVar)=>match r with| .tmp t=>some (E.get t)| .cell a t=>jd P t (E.get a) H2) l=some vs→List.mapM (λ(r:ResultVar)=>match r with| .tmp t=>some (E.get t)| .cell a t=>jd P t (E.get a) (H2.lay i b)) l=some vs:=by
       clear Y6 Qp h2 e hx x ys vs;induction l with
       |nil=>intro vs h;exact h
       |cons r l Qp=>
        intro vs h1;rw[List.mapM_cons] at h1 ⊢;simp only[Option.bind_eq_bind,Option.bind_eq_some_iff] at h1 ⊢;obtain⟨x,hx,ys,Y6,e⟩:=h1;refine⟨x,?_,ys,Qp _ Y6,e⟩;cases r with
        |tmp t=>exact hx
        |cell a t=>exact s9 hf hx
      exact this _ Y6
   split at h
   ·split at h
    ·rename_i fn zE c hc;split at h
     ·rename_i vs H2 AF;obtain⟨f1,e1⟩:=BO (b:=b) ih _ _ _ _ hf AF;rw[e1];simp only;rw[Option.map_eq_some_iff] at h;obtain⟨u,hu,e⟩:=h;cases e;exact⟨f1,by rw[res _ _ _ _ f1 hu];rfl⟩
     ·rename_i vs H2 AF;obtain⟨f1,e1⟩:=BO (b:=b) ih _ _ _ _ hf AF;rw[e1];simp only;rw[Option.map_eq_some_iff] at h;obtain⟨u,hu,e⟩:=h;cases e;exact⟨f1,by rw[res _ _ _ _ f1 hu];rfl⟩
     ·cases h
    ·cases h
   ·exact FD ih hf v H' h
end Go.Proofs.YtgfgglponbmgmaaGreatA.Am
end
section
namespace Go.Proofs.YtgfgglponbmgmaaGreatA.Am
open Go.RowKit (Below)
variable {P:Program} {μ:Mu} {H H':aa} {w:World} {B:Nat}
abbrev FR (ro:Option Nat):Fence:={Fence.wide with round:=ro}
theorem Nh {ro:Option Nat}{n:Nat}{f:FuncId}{args:Array Value}{R:Ending→World→Prop}(h:Calls P f args w R):CallsIn (FR ro) n P f args w R:=callsIn_wide (n:=n).2 h
def Hd (P:Program)(B:Nat)(μ:Mu)(w:World)(v:Value)(H':aa):Ending→World→Prop:=
 λe w'=>∃v' μ',e= .returned v'∧μ.le μ'∧VR μ' v v'∧cO P μ' H' w' B∧eV B w w'
def BP (P:Program)(B:Nat)(f:FuncId)(args:List Value)(H:aa)(v:Value)(H':aa):Prop:=
 ∀(μ:Mu) (w:World) (fm:List Value),cO P μ H w B→cW μ args fm→Calls P f fm.toArray w (Hd P B μ w v H')
def Ni (P:Program)(B:Nat)(i:Nat)(args:List Value)(H:aa)(v:Value)(H':aa):Prop:=
 ∀(ro:Option Nat) (n:Nat) (μ:Mu) (w:World) (fm:List Value) (l:Loc),cO P μ H w B→cW μ args fm→μ i=some l→YieldAt (FR ro) n P l.b fm.toArray w (Hd P B μ w v H')
structure zS (P:Program) (B:Nat) (C:ae):Prop where
 told: ∀f args H v H',C f args H=some (v,H')→
  (f<P.funcs.size→(∃fn,P.funcs[f]? =some fn∧fn.body.isSome=true∧(fn.name== "runtime.NumGoroutine")=false)∧BP P B f args H v H')∧
  (∀i,f=P.funcs.size+i→Ni P B i args H v H')
 hole:gK C
def iq (E:Nat→Value):Operand→Value
 | .tmp t=>E t
 | .const v=>if fP v then v else GY
 | .global _=>GY
 | .func f=>.func (.func f) #[] #[]
theorem gi (E:Env):iq E.get=eB E:=by funext x;cases x<;>rfl
theorem gV.eval {E:Nat→Value}{a:Act}(h:gV μ E a.tmps)(x:Operand):VR μ (iq E x) (a.eval x):=by
 cases x with
 |tmp t=>exact h t
 |const v=>
  show VR μ (if fP v then v else GY) v
  split
  ·rename_i hc;exact .closed hc
  ·exact .GY _
 |global g=>exact .GY _
 |func f=>exact .func _ _ _ _ _ rfl rfl rfl (λj h=>by simp at h) (λj h=>by simp at h)
theorem gV.put {E:Nat→Value}{a:Act}{v v':Value}(h:gV μ E a.tmps)(hv:VR μ v v')(d:Option Nat)(hd: ∀t,d=some t→t<a.tmps.size):
  gV μ (λt=>if d=some t then v else E t) (a.put d v').tmps:=by
 intro t;cases d with
 |none=>simpa[Act.put] using h t
 |some s=>
  simp only[Act.put];by_cases e:s=t
  ·subst e;have:=hd s rfl
   simp[this,hv]
  ·have e2:(some s:Option Nat)≠some t:=λx=>e (Option.some.inj x)
   simp only[e2,if_false];have:=h t
   simpa[Array.getD_eq_getD_getElem?,Array.getElem?_setIfInBounds_ne e] using this
theorem Env.aG (E:Env)(d:Option Nat)(v:Value)(t:Nat):(E.put d v).get t=if d=some t then v else E.get t:=by
 cases d with
 |none=>simp[Env.put]
 |some s=>
  simp only[Env.put,Env.get,Option.some.injEq];by_cases e:t=s
  ·subst e;simp
  ·rw[if_neg e,if_neg (Ne.symm e)]
theorem mG (a:Act)(d:Option Nat)(v:Value):(a.put d v).tmps.size=a.tmps.size:=by cases d<;>simp[Act.put]
theorem put_defers (a:Act)(d:Option Nat)(v:Value):(a.put d v).defers=a.defers:=by cases d<;>simp[Act.put]
def qz (ops:Array Oper)(o:Oper)(E:Nat→Value):Option Bool:=
 match o.guard with
 |none=>some true
 |some (j,want)=>match (ops[j]?).bind (·.dst) with
  |some d=>match E d with
   | .bool b=>some (b==want)
   | .tuple vs=>if vs.isEmpty then some false else none
   |_=>none
  |none=>none
theorem qA (ops:Array Oper)(o:Oper)(E:Env):qz ops o E.get=dC ops o E:=rfl
theorem lP {ops:Array Oper}{o:Oper}{E:Nat→Value}{a:Act}{b:Bool}(hE:gV μ E a.tmps)(h:qz ops o E=some b):Region.wanted o (yielded ops a.tmps)=b:=by
 unfold qz at h;unfold Region.wanted;cases hg:o.guard with
 |none=>rw[hg] at h;cases h;rfl
 |some q=>
  obtain⟨j,want⟩:=q;rw[hg] at h;simp only at h ⊢;unfold yielded;cases hd:(ops[j]?).bind (·.dst) with
  |none=>rw[hd] at h;cases h
  |some d=>
   rw[hd] at h;simp only at h;have hr:=hE d;split at h
   ·rename_i c e;cases h;rw[e] at hr;have e2:=hr.bool;have e3:a.tmps[d]? =some (.bool c):=by
     rw[Array.getD_eq_getD_getElem?] at e2;cases hx:a.tmps[d]? with
     |none=>rw[hx] at e2;simp[undef] at e2
     |some x=>rw[hx] at e2;simp at e2;rw[e2]
    simp only[Option.bind_some,e3];cases c<;>cases want<;>rfl
   ·rename_i vs e;split at h
    ·rename_i aen;cases h;rw[e] at hr;obtain⟨ja,e2,hvs⟩:=hr.Au;simp only[Option.bind_some];rw[Array.getD_eq_getD_getElem?] at e2;cases hx:a.tmps[d]? with
     |none=>cases want<;>rfl
     |some x=>rw[hx] at e2;simp at e2;subst e2;cases want<;>rfl
    ·cases h
   ·cases h
def jK (P:Program)(C:ae)(E:Nat→Value)(H:aa)(o:Oper):Option (Value×aa):=
 match o.op with
 | .call {callee:=.value f,args, .. }=>match iq E f with
  | .func (.func g) first captured=>if g<P.funcs.size then C g (first.toList++args.toList.map (iq E)++captured.toList) H else none
  | .func (.yield i) _ _=>C (P.funcs.size+i) (args.toList.map (iq E)) H
  |_=>none
 |op=>gU P (iq E) H op
theorem qB (C:ae)(E:Env)(H:aa)(o:Oper):jK P C E.get H o=gz P C E H o:=by
 obtain⟨dst,op,type,pos,after,guard⟩:=o;cases op with
 |call c=>
  obtain⟨callee,args,types⟩:=c;cases callee<;>simp only[jK,gz,gi]<;>rfl
 |_=>simp only[jK,gz,gi]
theorem ry {ro:Option Nat}{n:Nat}{C:ae}{E:Nat→Value}{o:Oper}{v:Value}{a:Act}{K:Act→World→Prop}{Q:Exit→Act→World→Prop}(hC:zS P B C)(hS:cO P μ H w B)(hE:gV μ E a.tmps)(h:jK P C E H o=some (v,H'))(hK: ∀v' μ' w',μ.le μ'→VR μ' v v'→cO P μ' H' w' B→eV B w w'→K (a.put o.dst v') w'):o.wpIn (FR ro) n P a w K Q:=by
 have hnd: ∀c,o.op≠ .defer c:=by
  intro c e;unfold jK at h;rw[e] at h;simp[gU] at h
 refine⟨λ_ _=>trivial,?_⟩
 rw[Oper.semAt_eq _ _ _ hnd];unfold jK at h;split at h
 ·rename_i f args argTypes ho;split at h
  ·rename_i g first captured hf
   split at h
   case isFalse=>cases h
   rename_i hgs;obtain⟨⟨fn,zE,hb,Za⟩,Vt⟩:=(hC.told _ _ _ _ _ h).1 hgs;have kU:=hE.eval f;rw[hf] at kU;obtain⟨kV,fQ,e,h1,h2⟩:=kU.we rfl;have oD:cW μ (first.toList++args.toList.map (iq E)++captured.toList) (kV.toList++args.toList.map a.eval++fQ.toList):=
    (h1.append (cW.map hE.eval args.toList)).append h2
   have DL:=Vt μ w _ hS oD;have uO:(kV.toList++args.toList.map a.eval++fQ.toList).toArray=kV++args.map a.eval++fQ:=by
    rw[←Array.toList_inj];simp
   rw[uO] at DL;have dH:(execOp a.eval o).run P w= .ok (.enter g (kV++args.map a.eval++fQ)) w:=by
    unfold execOp;rw[ho];have M7: ¬fn.body=none:=by intro e;rw[e] at hb;simp at hb
    have Vu: ¬fn.name= "runtime.NumGoroutine" :=by simpa using Za
    simp[resolve,Deferred.ofValue,e,invoke,callFunc,zE,Vu,M7]
   rw[dH,Oper.uponIn_enter];refine⟨λh=>by simp[Fence.wide] at h,(Nh DL).mono ?_⟩
   rintro e w' ⟨v',μ',rfl,hle,hv,sW,hB⟩;exact hK v' μ' w' hle hv sW hB
  ·rename_i i f1 c1 hf;have kU:=hE.eval f;rw[hf] at kU;obtain⟨_,_,l,hl,e⟩:=kU.QE;have hy:=(hC.told _ _ _ _ _ h).2 i rfl ro (n-1) μ w _ l hS (cW.map hE.eval args.toList) hl;have uO:(args.toList.map a.eval).toArray=args.map a.eval:=by rw[←Array.toList_inj];simp
   rw[uO] at hy;obtain⟨fn,tmps,assign,body,dH,hR⟩:=hy;have hex:(execOp a.eval o).run P w= .ok (.round l.b fn tmps assign body) w:=by
    unfold execOp;rw[ho];simp[resolve,Deferred.ofValue,e,invoke,dH]
   rw[hex,Oper.uponIn_round];refine⟨λh=>by simp[Fence.wide] at h,hR.mono ?_⟩
   rintro e w' ⟨v',μ',rfl,hle,hv,sW,hB⟩;exact hK v' μ' w' hle hv sW hB
  ·cases h
 ·obtain⟨v',μ',w',hr,hle,hv,sW,hB⟩:=Js (o:=o) hS hE.eval h;rcases hr with hr|⟨hr,rfl⟩
  ·rw[hr];exact hK v' μ' w' hle hv sW hB
  ·rw[hr];exact hK undef μ' w' hle hv sW hB
theorem zT {ro:Option Nat}{n:Nat}{C:ae}{ops:Array Oper}{N:Nat}{Q:Exit→Act→World→Prop}(hC:zS P B C): ∀(l:List Oper) (E:Env) (H:aa) (E':Env) (H':aa) (μ:Mu) (a:Act) (w:World),
  eF P C ops l E H=some (E',H')→(∀o∈l,∀d,o.dst=some d→d<N)→N≤a.tmps.size→cO P μ H w B→gV μ E.get a.tmps→
  (∀a' w' μ',μ.le μ'→gV μ' E'.get a'.tmps→a'.defers=a.defers→a'.tmps.size=a.tmps.size→cO P μ' H' w' B→eV B w w'→Q .normal a' w')→wpListIn (FR ro) n P ops Q l a w:=by
 intro l;induction l with
 |nil=>
  intro E H E' H' μ a w h _ _ hS hE hQ;simp only[eF] at h;cases h;exact hQ a w μ μ.le_refl hE rfl rfl hS (eV.refl _ _)
 |cons o r ih=>
  intro E H E' H' μ a w h hd hN hS hE hQ;simp only[eF] at h;unfold wpListIn;have Vv: ∀t,o.dst=some t→t<a.tmps.size:=λt ht=>Nat.lt_of_lt_of_le (hd o (by simp) t ht) hN
  split at h
  ·rename_i hw;rw[lP hE (by rw[qA];exact hw),if_pos rfl]
   cases hx:gz P C E H o with
   |none=>rw[hx] at h;cases h
   |some q=>
    obtain⟨v,H1⟩:=q;rw[hx] at h;simp only at h;rw[←qB] at hx;refine ry hC hS hE hx ?_;intro v' μ' w' hle hv sW hB;refine ih _ _ _ _ μ' _ w' h (λo ho=>hd o (by simp[ho])) (by rw[mG];exact hN) sW ?_ ?_
    ·have:=gV.put (hE.mono hle) hv o.dst Vv
     intro t;rw[Env.aG];exact this t
    ·intro a' w'' Vw mf TZ hdf uJ Vx hB';exact hQ a' w'' Vw (Mu.le_trans hle mf) TZ (by rw[hdf,put_defers]) (by rw[uJ,mG]) Vx (hB.trans hB')
  ·rename_i hw;rw[lP hE (by rw[qA];exact hw)]
   simp only[Bool.false_eq_true,if_false];refine⟨λ_ _=>trivial,ih _ _ _ _ μ _ w h (λo ho=>hd o (by simp[ho])) (by rw[mG];exact hN) hS ?_ ?_⟩
   ·have:=gV.put hE (cW.tuple (c:=#[]) (c':=#[]) .nil) o.dst Vv
    intro t;rw[Env.aG];exact this t
   ·intro a' w'' Vw mf TZ hdf uJ Vx hB';exact hQ a' w'' Vw mf TZ (by rw[hdf,put_defers]) (by rw[uJ,mG]) Vx hB'
  ·cases h
end Go.Proofs.YtgfgglponbmgmaaGreatA.Am
end
