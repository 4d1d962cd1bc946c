/- Texts of the proof of dcssPlays_holds, put together by a small program of ours (names shortened, spaces taken out). No condition beyond the given statement. -/
import Derived.Test.YtgfgglponbmgmaaGreatDCP1
import Derived.Test.YtgfgglponbmgmaaGreatDCP4
import Derived.OrdersIn
import Derived.TacticsIn
import Derived.Sort.LoopGhostIn
import Derived.RangeFuncIn
import Derived.RangeFuncSeq
import Derived.RangeFuncRecord
set_option linter.unusedVariables false
set_option linter.unusedSimpArgs false
set_option linter.unnecessarySimpa false
noncomputable section
section
namespace Go.Proofs.YtgfgglponbmgmaaGreatA.Am
variable {P:Program} {H H':aa} {i:Nat} {b:eS}
def ca (H:aa)(i:Nat):Prop:=H[i]? =some .hole
def aa.lay (H:aa)(i:Nat)(b:eS):aa:=H.set i (.zK b)
theorem ca.lt (h:ca H i):i<H.length:=(List.getElem?_eq_some_iff.1 h).1
theorem ca.get (h:ca H i):H.get i=none:=by unfold aa.get;rw[h]
theorem ca.dZ (h:ca H i):H.dZ i=none:=by unfold aa.dZ;rw[h]
@[simp] theorem jS:(H.lay i b).length=H.length:=by simp[aa.lay]
theorem pb (hf:ca H i){j:Nat}{c:eS}(h:H.get j=some c):(H.lay i b).get j=some c:=by
 have e:j≠i:=by rintro rfl;rw[hf.get] at h;cases h
 rw[←h];exact aa.get_congr (List.getElem?_set_ne (Ne.symm e))
theorem lP (hf:ca H i){j:Nat}{o:dD}(h:H.dZ j=some o):(H.lay i b).dZ j=some o:=by
 have e:j≠i:=by rintro rfl;rw[hf.dZ] at h;cases h
 rw[←h];exact aa.jL (List.getElem?_set_ne (Ne.symm e))
theorem ca.BQ (hf:ca H i){j:Nat}{c:eS}(h:H.get j=some c):j≠i:=by rintro rfl;rw[hf.get] at h;cases h
theorem ca.wP (hf:ca H i){j:Nat}{c:dD}(h:H.dZ j=some c):j≠i:=by rintro rfl;rw[hf.dZ] at h;cases h
theorem ca.set (hf:ca H i){j:Nat}(h:j≠i)(s:Slot):ca (H.set j s) i:=by
 unfold ca;rw[List.getElem?_set_ne h];exact hf
theorem ca.new (hf:ca H i)(c:eS):ca (H.new c) i:=by
 unfold ca aa.new;rw[List.getElem?_append_left hf.lt];exact hf
theorem ca.km (hf:ca H i)(c:dD):ca (H.km c) i:=by
 unfold ca aa.km;rw[List.getElem?_append_left hf.lt];exact hf
theorem ca.app (hf:ca H i)(T:aa):ca (H++T) i:=by
 unfold ca;rw[List.getElem?_append_left hf.lt];exact hf
theorem rq (hf:ca H i)(c:eS):(H.lay i b).new c=(H.new c).lay i b:=by
 unfold aa.lay aa.new;rw[List.set_append_left _ _ hf.lt]
theorem DS (hf:ca H i)(c:dD):(H.lay i b).km c=(H.km c).lay i b:=by
 unfold aa.lay aa.km;rw[List.set_append_left _ _ hf.lt]
theorem Rv (hf:ca H i)(T:aa):(H.lay i b)++T=aa.lay (H++T) i b:=by
 unfold aa.lay;rw[List.set_append_left _ _ hf.lt]
theorem ry {j:Nat}(h:j≠i)(s:Slot):(H.lay i b).set j s=aa.lay (H.set j s) i b:=by
 unfold aa.lay;rw[List.set_comm _ _ (Ne.symm h)]
theorem Rw {j:Nat}(h:j≠i)(c:eS):(H.lay i b).put j c=(H.put j c).lay i b:=ry h _
theorem rz {j:Nat}(h:j≠i)(c:dD):(H.lay i b).jJ j c=(H.jJ j c).lay i b:=ry h _
theorem DT {j:Nat}(h:j≠i):(H.lay i b).kill j=(H.kill j).lay i b:=ry h _
def Up (i:Nat)(b:eS)(H:aa)(x y:Option (Value×aa)):Prop:=
 ca H i→∀v H',x=some (v,H')→ca H' i∧y=some (v,H'.lay i b)
theorem Up.same {x:Option Value}{y:Option Value}(h:ca H i→∀v,x=some v→y=some v):Up i b H (x.map (·,H)) (y.map (·,H.lay i b)):=by
 intro hf v H' e;rw[Option.map_eq_some_iff] at e;obtain⟨u,hu,e⟩:=e;cases e;exact⟨hf,by rw[h hf _ hu];rfl⟩
theorem oD (hf:ca H i){j off n:Nat}{vs:List Value}(h:aQ H j off n=some vs):aQ (H.lay i b) j off n=some vs:=by
 unfold aQ at h ⊢;split at h
 ·rename_i c hc;rw[pb hf hc];exact h
 ·cases h
theorem lQ (hf:ca H i){j off:Nat}{vs:List Value}(h:bZ H j off vs=some H'):ca H' i∧bZ (H.lay i b) j off vs=some (H'.lay i b):=by
 unfold bZ at h ⊢;split at h
 ·rename_i c hc;rw[pb hf hc];split at h
  ·rename_i pR;cases h;simp only[pR,if_true];exact⟨hf.set (hf.BQ hc) _,by rw[Rw (hf.BQ hc)]⟩
  ·cases h
 ·cases h
theorem tq (hf:ca H i){t:TypeId}{p v:Value}(h:jf P t p H=some v):jf P t p (H.lay i b)=some v:=by
 unfold jf at h ⊢;split at h
 ·split at h
  ·split at h
   ·split at h
    ·rename_i vs hv;rw[oD hf hv];exact h
    ·cases h
   ·cases h
  ·split at h
   ·rename_i c hc;rw[pb hf hc];exact h
   ·cases h
  ·cases h
 ·cases h
theorem Ka (hf:ca H i){t:TypeId}{p v:Value}(h:Ay P t p v H=some H'):ca H' i∧Ay P t p v (H.lay i b)=some (H'.lay i b):=by
 unfold Ay at h ⊢;split at h
 ·split at h
  ·split at h
   ·rename_i hc;simp only[hc,and_self,if_true];exact lQ hf h
   ·cases h
  ·cases h
 ·cases h
theorem rA (hf:ca H i){size n:Nat}{x:Value}{cs:List Value}(h:cI H size n x=some cs):cI (H.lay i b) size n x=some cs:=by
 unfold cI at h ⊢;split at h
 ·split at h
  ·rename_i h0;rw[if_pos h0];exact h
  ·rename_i h0;rw[if_neg h0];exact oD hf h
 ·exact h
 ·cases h
theorem NM (hf:ca H i){t:TypeId}{size bytes:Nat}{z x:Value}{r:Nat×List Value}(h:JU P H t size bytes z x=some r):JU P (H.lay i b) t size bytes z x=some r:=by
 unfold JU at h ⊢;split at h
 ·exact h
 ·rw[Option.map_eq_some_iff] at h;obtain⟨cs,h1,h2⟩:=h;rw[rA hf h1];simp[h2]
 ·cases h
theorem DU {ts:Array TypeId}{s x:Value}:Up i b H (oW P ts s x H) (oW P ts s x (H.lay i b)):=by
 intro hf v H' h;unfold oW at h ⊢;split at h
 case h_2=>cases h
 split at h
 case h_2=>cases h
 split at h
 case h_2=>cases h
 split at h
 case h_2=>cases h
 rename_i r n new hg;rw[NM hf hg];simp only at h ⊢;split at h
 ·rename_i hle;rw[if_pos hle];split at h
  ·cases h;exact⟨hf,rfl⟩
  ·split at h
   ·rename_i h0;cases h;rw[if_pos h0];exact⟨hf,rfl⟩
   ·rename_i h0;rw[if_neg h0];split at h
    ·rename_i c hc;rw[pb hf hc];simp only;split at h
     ·rename_i he;rw[if_pos he];rw[Option.map_eq_some_iff] at h;obtain⟨H2,h1,h2⟩:=h;cases h2;obtain⟨k1,k2⟩:=lQ (b:=b) hf h1;exact⟨k1,by rw[k2];rfl⟩
     ·cases h
    ·cases h
  ·cases h
 ·rename_i hle;rw[if_neg hle];split at h
  ·rename_i hb;rw[if_pos hb];split at h
   ·split at h
    ·rename_i h0;cases h;rw[if_pos h0];exact⟨hf.new _,by rw[rq hf,jS]⟩
    ·cases h
   ·split at h
    ·rename_i c hc;rw[pb hf hc];simp only;split at h
     ·rename_i he;rw[if_pos he];split at h
      ·rename_i old hold;cases h;rw[oD hf hold];simp only;have hk:ca (H.kill _) i:=hf.set (hf.BQ hc) _;refine⟨hk.new _,?_⟩;rw[DT (hf.BQ hc),rq hk,jS]
      ·cases h
     ·cases h
    ·cases h
   ·cases h
  ·cases h
theorem Kb {ts:Array TypeId}{d s:Value}:Up i b H (Az P ts d s H) (Az P ts d s (H.lay i b)):=by
 intro hf v H' h;unfold Az at h ⊢;split at h
 case h_2=>cases h
 split at h
 case h_2=>cases h
 split at h
 case h_2=>cases h
 simp only at h ⊢;split at h
 case h_2=>cases h
 rename_i cs rb;rw[rA hf rb];simp only;split at h
 ·cases h;exact⟨hf,rfl⟩
 ·split at h
  ·rename_i h0;cases h;rw[if_pos h0];exact⟨hf,rfl⟩
  ·rename_i h0;rw[if_neg h0];rw[Option.map_eq_some_iff] at h;obtain⟨H2,h1,h2⟩:=h;cases h2;obtain⟨k1,k2⟩:=lQ (b:=b) hf h1;exact⟨k1,by rw[k2];rfl⟩
 ·cases h
theorem FZ {ts:Array TypeId}{x:Value}:Up i b H (sV P ts x H) (sV P ts x (H.lay i b)):=by
 intro hf v H' h;unfold sV at h ⊢;split at h
 case h_2=>cases h
 split at h
 case h_2=>cases h
 split at h
 ·cases h;exact⟨hf,rfl⟩
 ·split at h
  ·rename_i h0;cases h;rw[if_pos h0];exact⟨hf,rfl⟩
  ·rename_i h0;rw[if_neg h0];rw[Option.map_eq_some_iff] at h;obtain⟨H2,h1,h2⟩:=h;cases h2;obtain⟨k1,k2⟩:=lQ (b:=b) hf h1;exact⟨k1,by rw[k2];rfl⟩
 ·cases h
theorem wQ (hf:ca H i){t:TypeId}{x v:Value}{lo hi:Option Value}(h:oh P H t x lo hi=some v):oh P (H.lay i b) t x lo hi=some v:=by
 unfold oh at h ⊢;split at h
 case h_2=>cases h
 split at h
 case h_2=>cases h
 split at h
 case h_2=>cases h
 split at h
 case isFalse=>cases h
 rename_i hc;rw[if_pos hc];split at h
 ·exact h
 ·split at h
  ·rename_i c hc;rw[pb hf hc];exact h
  ·split at h
   case isFalse=>cases h
   rename_i hl0 hh0 hx0 hc0;cases h;obtain⟨g1,g2,g3,g4⟩:=hc;subst hc0;split
   ·split
    ·simp only[Option.some.injEq,Value.slice.injEq,Addr.mk.injEq];refine⟨⟨trivial,?_,trivial⟩,?_,?_⟩;all_goals first|omega| (rw[show Int.toNat _=0 by omega];omega)
    ·rfl
   ·rfl
 ·cases h
theorem DV (hf:ca H i){t:TypeId}{x v m:Value}{lo hi:Option Value}(h:oY P H t x lo hi m=some v):oY P (H.lay i b) t x lo hi m=some v:=by
 unfold oY at h ⊢;split at h
 ·split at h
  ·rename_i hc;rw[if_pos hc];exact wQ hf h
  ·cases h
 ·cases h
theorem Kc (hf:ca H i){q:IntKind}{z m x v:Value}{ok:Bool}(h:DB q z ok m x H=some v):DB q z ok m x (H.lay i b)=some v:=by
 unfold DB at h ⊢;split at h
 ·split at h
  ·rename_i hc;rw[lP hf hc];exact h
  ·cases h
 ·cases h
theorem DW (hf:ca H i){t:TypeId}{m x v:Value}{ok:Bool}(h:oX P t m x ok H=some v):oX P t m x ok (H.lay i b)=some v:=by
 unfold oX at h ⊢;split at h
 ·exact Kc hf h
 ·cases h
theorem NN (hf:ca H i){m v:Value}(h:JV m H=some v):JV m (H.lay i b)=some v:=by
 unfold JV at h ⊢;split at h
 ·split at h
  ·rename_i hc;rw[lP hf hc];exact h
  ·cases h
 ·cases h
theorem NO (hf:ca H i){ts:Array TypeId}{x v:Value}(h:BB P H ts x=some v):BB P (H.lay i b) ts x=some v:=by
 unfold BB at h ⊢;split at h
 ·split at h
  ·exact NN hf h
  ·exact h
  ·exact h
  ·exact h
  ·cases h
 ·cases h
theorem NP {q:IntKind}{m x u:Value}:Up i b H (Nx q m x u H) (Nx q m x u (H.lay i b)):=by
 intro hf v H' h;unfold Nx at h ⊢;split at h
 ·split at h
  ·rename_i hc;rw[lP hf hc];simp only;split at h
   ·rename_i hq;cases h;rw[if_pos hq];exact⟨hf.set (hf.wP hc) _,by rw[rz (hf.wP hc)]⟩
   ·cases h
  ·cases h
 ·cases h
theorem NQ {q:IntKind}{m x:Value}:Up i b H (Ny q m x H) (Ny q m x (H.lay i b)):=by
 intro hf v H' h;unfold Ny at h ⊢;split at h
 ·split at h
  ·rename_i hc;rw[lP hf hc];simp only;split at h
   ·rename_i hq;cases h;rw[if_pos hq];exact⟨hf.set (hf.wP hc) _,by rw[rz (hf.wP hc)]⟩
   ·cases h
  ·cases h
 ·cases h
theorem BR {c:Builtin}{ts:Array TypeId}{aq':List Value}:Up i b H (jX P c ts aq' H) (jX P c ts aq' (H.lay i b)):=by
 intro hf v H' h;unfold jX at h ⊢;split at h
 ·exact DU hf v H' h
 ·exact Kb hf v H' h
 ·exact Up.same (λhf v h=>NO hf h) hf v H' h
 ·exact FZ hf v H' h
 ·unfold vl at h ⊢;split at h
  ·exact NQ hf v H' h
  ·cases h
 ·split at h
  ·cases h;exact⟨hf,rfl⟩
  ·cases h
 ·split at h
  ·rename_i hk;cases h;rw[if_pos hk];exact⟨hf,rfl⟩
  ·cases h
 ·split at h
  ·rename_i hk;cases h;rw[if_pos hk];exact⟨hf,rfl⟩
  ·cases h
 ·cases h
theorem uW {t:TypeId}{n:Nat}{ps:List (Nat×Value)}:Up i b H (ay P t n ps H) (ay P t n ps (H.lay i b)):=by
 intro hf v H' h;unfold ay at h ⊢;split at h
 ·cases h
 ·rename_i h1;rw[if_neg h1];split at h
  ·split at h
   ·split at h
    ·rename_i h2;rw[if_pos h2];split at h
     ·cases h;exact⟨hf.new _,by rw[rq hf,jS]⟩
     ·cases h
    ·cases h
   ·cases h
  ·cases h
theorem wR {t:TypeId}{l c:Value}:Up i b H (fZ P t l c H) (fZ P t l c (H.lay i b)):=by
 intro hf v H' h;unfold fZ at h ⊢;split at h
 ·split at h
  ·split at h
   ·rename_i h2;rw[if_pos h2];cases h;exact⟨hf.new _,by rw[rq hf,jS]⟩
   ·cases h
  ·cases h
 ·cases h
theorem wS {t:TypeId}{es:Nat}{cs:List Value}:Up i b H (some (aS H t es cs)) (some (aS (H.lay i b) t es cs)):=by
 intro hf v H' h;unfold aS at h ⊢;cases h;exact⟨hf.new _,by rw[rq hf,jS]⟩
theorem pc {ρ:Operand→Value}{op:Op}:Up i b H (gV P ρ H op) (gV P ρ (H.lay i b) op):=by
 intro hf v H' h;unfold gV at h ⊢;split at h<;>try(simp only)
 ·cases h;exact⟨hf,rfl⟩
 ·cases h;exact⟨hf,rfl⟩
 ·split at h
  ·cases h;exact⟨hf,rfl⟩
  ·cases h
 ·split at h
  ·exact wS hf v H' h
  ·cases h
 ·split at h
  ·rename_i h1;rw[if_pos h1];exact wS hf v H' h
  ·cases h
 ·exact Up.same (λ_ _ h=>h) hf v H' h
 ·exact uW hf v H' h
 ·exact Up.same (λhf _ h=>tq hf h) hf v H' h
 ·rw[Option.map_eq_some_iff] at h;obtain⟨H2,h1,h2⟩:=h;cases h2;obtain⟨k1,k2⟩:=Ka (b:=b) hf h1;exact⟨k1,by rw[k2];rfl⟩
 ·split at h
  ·cases h;exact⟨hf,rfl⟩
  ·cases h;exact⟨hf,rfl⟩
  ·cases h
 ·exact Up.same (λ_ _ h=>h) hf v H' h
 ·exact Up.same (λ_ _ h=>h) hf v H' h
 ·split at h
  ·cases h;exact⟨hf,rfl⟩
  ·cases h
 ·cases h;exact⟨hf,rfl⟩
 ·exact wR hf v H' h
 ·exact Up.same (λhf _ h=>wQ hf h) hf v H' h
 ·exact Up.same (λhf _ h=>DV hf h) hf v H' h
 ·unfold qU at h ⊢;split at h
  ·unfold mmk at h ⊢;cases h;exact⟨hf.km _,by rw[DS hf,jS]⟩
  ·cases h
 ·exact Up.same (λhf _ h=>DW hf h) hf v H' h
 ·unfold mU at h ⊢;split at h
  ·exact NP hf v H' h
  ·cases h
 ·repeat' split at h
  all_goals first| (cases h;exact⟨hf,rfl⟩)|cases h
 ·repeat' split at h
  all_goals first| (exact Up.same (λ_ _ h=>h) hf v H' h)|cases h
 ·repeat' split at h
  all_goals first| (rename_i hb;cases h;rw[if_pos hb];exact⟨hf,rfl⟩)|cases h
 ·split at h
  ·split at h
   ·split at h
    ·rename_i hb;rw[if_pos hb];exact Up.same (λ_ _ h=>h) hf v H' h
    ·cases h
   ·cases h
  ·split at h
   ·rename_i hb;rw[if_pos hb];rw[Option.map_eq_some_iff] at h;obtain⟨u,hu,e⟩:=h;cases e;exact⟨hf,by rw[hu];rfl⟩
   ·cases h
  ·cases h
 ·repeat' split at h
  all_goals first| (exact Up.same (λ_ _ h=>h) hf v H' h)|cases h
 ·exact BR hf v H' h
 ·cases h
def gJ (C:ae):Prop:=∀f args H i b,Up i b H (C f args H) (C f args (H.lay i b))
theorem tu {C:ae}(hC:gJ C){E:Env}{o:Oper}:Up i b H (gA P C E H o) (gA P C E (H.lay i b) o):=by
 intro hf v H' h;unfold gA at h ⊢;split at h
 ·split at h
  ·split at h
   ·rename_i h1;rw[if_pos h1];exact hC _ _ _ _ _ hf v H' h
   ·cases h
  ·exact hC _ _ _ _ _ hf v H' h
  ·cases h
 ·exact pc hf v H' h
theorem AK {ρ:Operand→Value}{op:Op}{j:Nat}(hj:j≠i):Up i b H (pN P ρ j H op) (pN P ρ j (H.lay i b) op):=by
 intro hf v H' h;unfold pN at h ⊢;have e:(H.lay i b)[j]? =H[j]? :=List.getElem?_set_ne (Ne.symm hj);rw[e];split at h
 ·split at h
  ·rename_i hb;cases h;exact⟨hf.set hj _,by simp only[ry hj]⟩
  ·cases h
 ·cases h
theorem wT {C:ae}(hC:gJ C){F:List Nat}{base k:Nat}(hb:i<base){E:Env}{o:Oper}:Up i b H (dA P C F base k E H o) (dA P C F base k E (H.lay i b) o):=by
 intro hf v H' h;unfold dA at h ⊢;split at h
 ·rename_i h1;rw[if_pos h1];exact AK (by omega) hf v H' h
 ·rename_i h1;rw[if_neg h1];exact tu hC hf v H' h
theorem qw {C:ae}(hC:gJ C){ops:Array Oper}: ∀(l:List Oper) (E E':Env) (H H':aa),ca H i→eK P C ops l E H=some (E',H')→
  ca H' i∧eK P C ops l E (H.lay i b)=some (E',H'.lay i b)∧trace P C ops l E (H.lay i b)=(trace P C ops l E H).map λp=>(p.1,p.2.lay i b):=by
 intro l;induction l with
 |nil=>intro E E' H H' hf h;simp only[eK] at h;cases h;exact⟨hf,rfl,rfl⟩
 |cons o r ih=>
  intro E E' H H' hf h;simp only[eK] at h;split at h
  ·rename_i hw;cases hx:gA P C E H o with
   |none=>rw[hx] at h;cases h
   |some q=>
    obtain⟨v,H1⟩:=q;rw[hx] at h;obtain⟨f1,e1⟩:=tu (b:=b) hC hf v H1 hx;obtain⟨f2,e2,e3⟩:=ih _ _ _ _ f1 h;exact⟨f2,by simp only[eK,hw,e1,e2],by simp only[trace,hw,e1,hx,e3,List.map_cons]⟩
  ·rename_i hw;obtain⟨f2,e2,e3⟩:=ih _ _ _ _ hf h;exact⟨f2,by simp only[eK,hw,e2],by simp only[trace,hw,e3,List.map_cons]⟩
  ·cases h
theorem uu {C:ae}(hC:gJ C){F:List Nat}{base:Nat}(hb:i<base){ops:Array Oper}: ∀(l:List Oper) (k:Nat) (E E':Env) (H H':aa),ca H i→da P C F base ops l k E H=some (E',H')→
  ca H' i∧da P C F base ops l k E (H.lay i b)=some (E',H'.lay i b)∧eB P C F base ops l k E (H.lay i b)=(eB P C F base ops l k E H).map λp=>(p.1,p.2.lay i b):=by
 intro l;induction l with
 |nil=>intro k E E' H H' hf h;simp only[da] at h;cases h;exact⟨hf,rfl,rfl⟩
 |cons o r ih=>
  intro k E E' H H' hf h;simp only[da] at h;split at h
  ·rename_i hw;cases hx:dA P C F base k E H o with
   |none=>rw[hx] at h;cases h
   |some q=>
    obtain⟨v,H1⟩:=q;rw[hx] at h;obtain⟨f1,e1⟩:=wT (b:=b) hC hb hf v H1 hx;obtain⟨f2,e2,e3⟩:=ih _ _ _ _ _ f1 h;exact⟨f2,by simp only[da,hw,e1,e2],by simp only[eB,hw,e1,hx,e3,List.map_cons]⟩
  ·rename_i hw;obtain⟨f2,e2,e3⟩:=ih _ _ _ _ _ hf h;exact⟨f2,by simp only[da,hw,e2],by simp only[eB,hw,e3,List.map_cons]⟩
  ·cases h
theorem F0 {C:ae}(hC:gJ C){ops:Array Oper}: ∀(l:List Oper) (E E':Env) (H H':aa),ca H i→eK P C ops l E H=some (E',H')→∀p∈trace P C ops l E H,ca p.2 i:=by
 intro l;induction l with
 |nil=>intro E E' H H' hf _ p hp;simp only[trace,List.mem_singleton] at hp;subst hp;exact hf
 |cons o r ih=>
  intro E E' H H' hf h p hp;simp only[eK] at h;split at h
  ·rename_i hw;cases hx:gA P C E H o with
   |none=>rw[hx] at h;cases h
   |some q=>
    obtain⟨v,H1⟩:=q;rw[hx] at h;obtain⟨f1,_⟩:=tu (b:=default) hC hf v H1 hx;simp only[trace,hw,hx] at hp;rcases List.mem_cons.1 hp with rfl|hp
    ·exact hf
    ·exact ih _ _ _ _ f1 h p hp
  ·rename_i hw;simp only[trace,hw] at hp;rcases List.mem_cons.1 hp with rfl|hp
   ·exact hf
   ·exact ih _ _ _ _ hf h p hp
  ·cases h
theorem DX {C:ae}(hC:gJ C){F:List Nat}{base:Nat}(hb:i<base){ops:Array Oper}: ∀(l:List Oper) (k:Nat) (E E':Env) (H H':aa),ca H i→da P C F base ops l k E H=some (E',H')→∀p∈eB P C F base ops l k E H,ca p.2 i:=by
 intro l;induction l with
 |nil=>intro k E E' H H' hf _ p hp;simp only[eB,List.mem_singleton] at hp;subst hp;exact hf
 |cons o r ih=>
  intro k E E' H H' hf h p hp;simp only[da] at h;split at h
  ·rename_i hw;cases hx:dA P C F base k E H o with
   |none=>rw[hx] at h;cases h
   |some q=>
    obtain⟨v,H1⟩:=q;rw[hx] at h;obtain⟨f1,_⟩:=wT (b:=default) hC hb hf v H1 hx;simp only[eB,hw,hx] at hp;rcases List.mem_cons.1 hp with rfl|hp
    ·exact hf
    ·exact ih _ _ _ _ _ f1 h p hp
  ·rename_i hw;simp only[eB,hw] at hp;rcases List.mem_cons.1 hp with rfl|hp
   ·exact hf
   ·exact ih _ _ _ _ _ hf h p hp
  ·cases h
theorem wU {ops:Array Oper}{T:List (Env×aa)}{c:Nat×Nat}(hT: ∀p∈T,ca p.2 i)(h:iN P ops T c=true):iN P ops (T.map λp=>(p.1,p.2.lay i b)) c=true:=by
 unfold iN at h ⊢;simp only[List.getElem?_map];cases h1:T[c.1]? with
 |none=>rw[h1] at h;cases h
 |some p1=>
  cases h2:T[c.2]? with
  |none=>rw[h1,h2] at h;cases h
  |some p2=>
   cases h3:T[c.2+1]? with
   |none=>rw[h1,h2,h3] at h;cases h
   |some p3=>
    rw[h1,h2,h3] at h;obtain⟨E1,H1⟩:=p1;obtain⟨E2,H2⟩:=p2;obtain⟨E3,H3⟩:=p3;simp only[Option.map_some] at h ⊢;cases h4:ops[c.1]? with
    |none=>rw[h4] at h;cases h
    |some x=>
     cases h5:ops[c.2]? with
     |none=>rw[h4,h5] at h;cases h
     |some y=>
      rw[h4,h5] at h;simp only at h ⊢;split at h
      ·have f1:=hT _ (List.mem_of_getElem? h1);have f2:=hT _ (List.mem_of_getElem? h2);have f3:=hT _ (List.mem_of_getElem? h3);split at h
       ·rename_i u K1 u1 K2 u2 K3 e1 e2 e3;rw[(pc (b:=b) f1 _ _ e1).2,(pc (b:=b) f2 _ _ e2).2,(pc (b:=b) f3 _ _ e3).2];exact h
       ·cases h
      ·exact h
      ·cases h
theorem z8 {C:ae}(hC:gJ C){ops:Array Oper}{draw:Bool}{E E':Env}(hf:ca H i)(h:fg P C ops draw E H=some (E',H')):ca H' i∧fg P C ops draw E (H.lay i b)=some (E',H'.lay i b):=by
 unfold fg at h ⊢;cases draw with
 |false=>
  simp only[Bool.false_eq_true,if_false] at h ⊢;obtain⟨h1,h2,_⟩:=qw (b:=b) hC _ _ _ _ _ hf h;exact⟨h1,h2⟩
 |true=>
  simp only[if_true] at h ⊢;cases hF:lM P ops with
  |nil=>
   rw[hF] at h;simp only at h ⊢;cases hc:mE P ops with
   |nil=>
    rw[hc] at h;obtain⟨h1,h2,_⟩:=qw (b:=b) hC _ _ _ _ _ hf h;exact⟨h1,h2⟩
   |cons c cs=>
    rw[hc] at h;simp only at h ⊢;split at h
    ·rename_i jz;obtain⟨h1,h2,h3⟩:=qw (b:=b) hC _ _ _ _ _ hf h;refine⟨h1,?_⟩;rw[if_pos,h2];rw[h3];rw[List.all_eq_true] at jz ⊢;exact λx hx=>wU (F0 hC _ _ _ _ _ hf h) (jz x hx)
    ·cases h
  |cons f F=>
   rw[hF] at h;have zV:ca (H.cE (f::F).length) i:=hf.app _;have e:(H.lay i b).cE (f::F).length=(H.cE (f::F).length).lay i b:=Rv hf _;simp only[jS] at h ⊢;rw[e];cases hc:mE P ops with
   |nil=>
    rw[hc] at h;obtain⟨h1,h2,_⟩:=uu (b:=b) hC hf.lt _ _ _ _ _ _ zV h;exact⟨h1,h2⟩
   |cons c cs=>
    rw[hc] at h;simp only at h ⊢;split at h
    ·rename_i jz;obtain⟨h1,h2,h3⟩:=uu (b:=b) hC hf.lt _ _ _ _ _ _ zV h;refine⟨h1,?_⟩;rw[if_pos,h2];rw[h3];rw[List.all_eq_true] at jz ⊢;exact λx hx=>wU (DX hC hf.lt _ _ _ _ _ _ zV h) (jz x hx)
    ·cases h
theorem BS {C:ae}(hC:gJ C){keep:List Nat}{n:Nat}: ∀(c:Code) (vs:List Value) (H:aa) (r:bG×List Value×aa),ca H i→ev P C keep n c vs H=some r→
  ca r.2.2 i∧ev P C keep n c vs (H.lay i b)=some (r.1,r.2.1,r.2.2.lay i b):=by
 intro c;induction c with
 |skip=>intro vs H r hf h;simp only[ev] at h;cases h;exact⟨hf,rfl⟩
 |label l=>intro vs H r hf h;simp only[ev] at h;cases h;exact⟨hf,rfl⟩
 |exit id=>intro vs H r hf h;simp only[ev] at h;cases h;exact⟨hf,rfl⟩
 |ret=>intro vs H r hf h;simp only[ev] at h;cases h;exact⟨hf,rfl⟩
 |goto l=>intro vs H r hf h;simp only[ev] at h;cases h
 |refuse s=>intro vs H r hf h;simp only[ev] at h;cases h
 |rangeFunc g ps x y _ _=>
  intro vs H r hf h;simp only[ev] at h ⊢;split at h
  case h_2=>cases h
  split at h
  case isFalse=>cases h
  rename_i gF;rw[if_pos gF,jS,DS hf];split at h
  ·rename_i u H2 hx;obtain⟨f1,e1⟩:=hC _ _ _ i b (hf.km _) _ _ hx;rw[e1];simp only;cases ho:H2.dZ H.length with
   |none=>rw[ho] at h;simp[zT] at h
   |some o=>
    have dx:H.length≠i:=by have:=hf.lt;omega
    rw[lP f1 ho,DT dx];rw[ho] at h;have fk:ca (H2.kill H.length) i:=f1.set dx _;unfold zT at h ⊢;cases o with
    |Fv _ _=>cases h
    |loop L s=>cases s<;>simp only at h<;>cases h<;>exact⟨fk,rfl⟩
  ·cases h
 |region id ops draw=>
  intro vs H r hf h;simp only[ev] at h ⊢;split at h
  ·rename_i E H1 hr;cases h;obtain⟨f1,e1⟩:=z8 (b:=b) hC hf hr;rw[e1];exact⟨f1,rfl⟩
  ·cases h
 |seq x y Wm Wn=>
  intro vs H r hf h;simp only[ev] at h ⊢;cases hx:ev P C keep n x vs H with
  |none=>rw[hx] at h;cases h
  |some q=>
   obtain⟨e1,F1,H1⟩:=q;obtain⟨f1,k1⟩:=Wm _ _ _ hf hx;rw[hx] at h;rw[k1];cases e1 with
   |normal=>exact Wn _ _ _ f1 h
   |exit id=>cases h;exact⟨f1,rfl⟩
   |ret=>cases h;exact⟨f1,rfl⟩
 |cond c x y Wm Wn=>
  intro vs H r hf h;simp only[ev] at h ⊢;split at h
  ·rename_i t _;cases t with
   |true=>exact Wm _ _ _ hf h
   |false=>exact Wn _ _ _ hf h
  ·cases h
 |block id c ih=>
  intro vs H r hf h;simp only[ev] at h ⊢;cases hx:ev P C keep n c vs H with
  |none=>rw[hx] at h;cases h
  |some q=>
   obtain⟨e1,F1,H1⟩:=q;obtain⟨f1,k1⟩:=ih _ _ _ hf hx;rw[hx] at h;rw[k1];cases e1 with
   |normal=>cases h;exact⟨f1,rfl⟩
   |ret=>cases h;exact⟨f1,rfl⟩
   |exit id'=>
    simp only at h ⊢;split at h<;>(rename_i NR;cases h;first|rw[if_pos NR]|rw[if_neg NR])<;>exact⟨f1,rfl⟩
 |scope c ih=>intro vs H r hf h;simp only[ev] at h ⊢;exact ih _ _ _ hf h
 |loop c ih=>
  intro vs H r hf h;simp only[ev] at h ⊢;have key: ∀k vs H,ca H i→iter k (ev P C keep n c) vs H=some r→ca r.2.2 i∧iter k (ev P C keep n c) vs (H.lay i b)=some (r.1,r.2.1,r.2.2.lay i b):=by
   intro k;induction k with
   |zero=>intro vs H _ h;simp only[iter] at h;cases h
   |succ k ihk=>
    intro vs H hf h;simp only[iter] at h ⊢;cases hx:ev P C keep n c vs H with
    |none=>rw[hx] at h;cases h
    |some q=>
     obtain⟨e1,F1,H1⟩:=q;obtain⟨f1,k1⟩:=ih _ _ _ hf hx;rw[hx] at h;rw[k1];cases e1 with
     |normal=>exact ihk _ _ f1 h
     |exit id=>cases h;exact⟨f1,rfl⟩
     |ret=>cases h;exact⟨f1,rfl⟩
  exact key n vs H hf h
theorem F2 {C:ae}(hC:gJ C){n j:Nat}{args:List Value}:Up i b H (ql P C n j args H) (ql P C n j args (H.lay i b)):=by
 intro hf v H' h;unfold ql at h ⊢;split at h
 case h_2=>cases h
 rename_i L ho;rw[lP hf ho];simp only;split at h
 case isFalse=>cases h
 rename_i hl;rw[if_pos hl];split at h
 case h_2=>cases h
 rename_i vs H1 hx;obtain⟨f1,e1⟩:=BS (b:=b) hC _ _ _ _ hf hx;rw[e1];simp only;split at h
 case h_2=>cases h
 rename_i L1 Kd;rw[lP f1 Kd];simp only;have dx:j≠i:=f1.wP Kd;rw[rz dx];split at h
 case h_2=>cases h
 rename_i e Wo H2 hy;obtain⟨f2,e2⟩:=BS (b:=b) hC _ _ _ _ (f1.set dx (.dZ (.loop L1 .busy))) hy;have e2':ev P C L.keep n L.body vs ((H1.jJ j (.loop L1 .busy)).lay i b)=some (e,Wo,H2.lay i b):=e2;rw[e2'];simp only;unfold Rn at h ⊢;split at h
 case h_2=>cases h
 rename_i L2 Dx;rw[lP f2 Dx];simp only;cases h;exact⟨f2.set dx _,by rw[rz dx]⟩
theorem AL {bad:List FuncId}{G:ae}(hG:gJ G): ∀n,gJ (gC P bad G n):=by
 intro n;induction n with
 |zero=>intro f args H i b hf v H' h;simp only[gC] at h;cases h
 |succ n ih=>
  intro f args H i b hf v H' h;simp only[gC] at h ⊢;split at h
  ·rename_i hb;rw[if_pos hb];exact hG _ _ _ _ _ hf v H' h
  ·rename_i hb;rw[if_neg hb];have res: ∀(fn:Func) (E:Env) (H2:aa) (u:Value),ca H2 i→BD P fn E H2=some u→BD P fn E (H2.lay i b)=some u:=by
    intro fn E H2 u hf h;unfold BD at h ⊢;rw[Option.map_eq_some_iff] at h ⊢;obtain⟨vs,h1,h2⟩:=h;refine⟨vs,?_,h2⟩;revert vs
    induction fn.results.toList with
    |nil=>intro vs h1 _;exact h1
    |cons r l Q7=>
     intro vs h1 h2;rw[List.mapM_cons] at h1 ⊢;simp only[Option.bind_eq_bind,Option.bind_eq_some_iff] at h1 ⊢;obtain⟨x,hx,ys,hys,e⟩:=h1;refine⟨x,?_,ys,?_,e⟩
     ·cases r with
      |tmp t=>exact hx
      |cell a t=>exact tq hf hx
     ·have: ∀vs,List.mapM (λ(r:ResultVar)=>match r with| .tmp t=>some (E.get t)| .cell a t=>jf P t (E.get a) H2) l=some vs→List.mapM (λ(r:ResultVar)=>match r with| .tmp t=>some (E.get t)| .cell a t=>jf P t (E.get a) (H2.lay i b)) l=some vs:=by
       clear hys Q7 h2 e hx x ys vs;induction l with
       |nil=>intro vs h;exact h
       |cons r l Q7=>
        intro vs h1;rw[List.mapM_cons] at h1 ⊢;simp only[Option.bind_eq_bind,Option.bind_eq_some_iff] at h1 ⊢;obtain⟨x,hx,ys,hys,e⟩:=h1;refine⟨x,?_,ys,Q7 _ hys,e⟩;cases r with
        |tmp t=>exact hx
        |cell a t=>exact tq hf hx
      exact this _ hys
   split at h
   ·split at h
    ·rename_i fn zO c hc;split at h
     ·rename_i vs H2 AM;obtain⟨f1,e1⟩:=BS (b:=b) ih _ _ _ _ hf AM;rw[e1];simp only;rw[Option.map_eq_some_iff] at h;obtain⟨u,hu,e⟩:=h;cases e;exact⟨f1,by rw[res _ _ _ _ f1 hu];rfl⟩
     ·rename_i vs H2 AM;obtain⟨f1,e1⟩:=BS (b:=b) ih _ _ _ _ hf AM;rw[e1];simp only;rw[Option.map_eq_some_iff] at h;obtain⟨u,hu,e⟩:=h;cases e;exact⟨f1,by rw[res _ _ _ _ f1 hu];rfl⟩
     ·cases h
    ·cases h
   ·exact F2 ih hf v H' h
end Go.Proofs.YtgfgglponbmgmaaGreatA.Am
end
section
namespace Go.Proofs.YtgfgglponbmgmaaGreatA.Am
open Go.RowKit (Below)
variable {P:Program} {μ:Mu} {H H':aa} {w:World} {B:Nat}
abbrev FR (ro:Option Nat):Fence:={Fence.wide with round:=ro}
theorem NS {ro:Option Nat}{n:Nat}{f:FuncId}{args:Array Value}{R:Ending→World→Prop}(h:Calls P f args w R):CallsIn (FR ro) n P f args w R:=callsIn_wide (n:=n).2 h
def HL (P:Program)(B:Nat)(μ:Mu)(w:World)(v:Value)(H':aa):Ending→World→Prop:=
 λe w'=>∃v' μ',e= .returned v'∧μ.le μ'∧VR μ' v v'∧cO P μ' H' w' B∧eW B w w'
def BU (P:Program)(B:Nat)(f:FuncId)(args:List Value)(H:aa)(v:Value)(H':aa):Prop:=
 ∀(μ:Mu) (w:World) (fq:List Value),cO P μ H w B→cU μ args fq→Calls P f fq.toArray w (HL P B μ w v H')
def NT (P:Program)(B:Nat)(i:Nat)(args:List Value)(H:aa)(v:Value)(H':aa):Prop:=
 ∀(ro:Option Nat) (n:Nat) (μ:Mu) (w:World) (fq:List Value) (l:Loc),cO P μ H w B→cU μ args fq→μ i=some l→YieldAt (FR ro) n P l.b fq.toArray w (HL P B μ w v H')
structure z9 (P:Program) (B:Nat) (C:ae):Prop where
 told: ∀f args H v H',C f args H=some (v,H')→
  (f<P.funcs.size→(∃fn,P.funcs[f]? =some fn∧fn.body.isSome=true∧(fn.name== "runtime.NumGoroutine")=false)∧BU P B f args H v H')∧
  (∀i,f=P.funcs.size+i→NT P B i args H v H')
 hole:gJ C
def iu (E:Nat→Value):Operand→Value
 | .tmp t=>E t
 | .const v=>if fO v then v else HF
 | .global _=>HF
 | .func f=>.func (.func f) #[] #[]
theorem gg (E:Env):iu E.get=eF E:=by funext x;cases x<;>rfl
theorem gW.eval {E:Nat→Value}{a:Act}(h:gW μ E a.tmps)(x:Operand):VR μ (iu E x) (a.eval x):=by
 cases x with
 |tmp t=>exact h t
 |const v=>
  show VR μ (if fO v then v else HF) v
  split
  ·rename_i hc;exact .closed hc
  ·exact .HF _
 |global g=>exact .HF _
 |func f=>exact .func _ _ _ _ _ rfl rfl rfl (λj h=>by simp at h) (λj h=>by simp at h)
theorem gW.put {E:Nat→Value}{a:Act}{v v':Value}(h:gW μ E a.tmps)(hv:VR μ v v')(d:Option Nat)(hd: ∀t,d=some t→t<a.tmps.size):
  gW μ (λt=>if d=some t then v else E t) (a.put d v').tmps:=by
 intro t;cases d with
 |none=>simpa[Act.put] using h t
 |some s=>
  simp only[Act.put];by_cases e:s=t
  ·subst e;have:=hd s rfl
   simp[this,hv]
  ·have e2:(some s:Option Nat)≠some t:=λx=>e (Option.some.inj x)
   simp only[e2,if_false];have:=h t
   simpa[Array.getD_eq_getD_getElem?,Array.getElem?_setIfInBounds_ne e] using this
theorem Env.aH (E:Env)(d:Option Nat)(v:Value)(t:Nat):(E.put d v).get t=if d=some t then v else E.get t:=by
 cases d with
 |none=>simp[Env.put]
 |some s=>
  simp only[Env.put,Env.get,Option.some.injEq];by_cases e:t=s
  ·subst e;simp
  ·rw[if_neg e,if_neg (Ne.symm e)]
theorem mJ (a:Act)(d:Option Nat)(v:Value):(a.put d v).tmps.size=a.tmps.size:=by cases d<;>simp[Act.put]
theorem put_defers (a:Act)(d:Option Nat)(v:Value):(a.put d v).defers=a.defers:=by cases d<;>simp[Act.put]
def qx (ops:Array Oper)(o:Oper)(E:Nat→Value):Option Bool:=
 match o.guard with
 |none=>some true
 |some (j,want)=>match (ops[j]?).bind (·.dst) with
  |some d=>match E d with
   | .bool b=>some (b==want)
   | .tuple vs=>if vs.isEmpty then some false else none
   |_=>none
  |none=>none
theorem qy (ops:Array Oper)(o:Oper)(E:Env):qx ops o E.get=dE ops o E:=rfl
theorem lR {ops:Array Oper}{o:Oper}{E:Nat→Value}{a:Act}{b:Bool}(hE:gW μ E a.tmps)(h:qx ops o E=some b):Region.wanted o (yielded ops a.tmps)=b:=by
 unfold qx at h;unfold Region.wanted;cases hg:o.guard with
 |none=>rw[hg] at h;cases h;rfl
 |some q=>
  obtain⟨j,want⟩:=q;rw[hg] at h;simp only at h ⊢;unfold yielded;cases hd:(ops[j]?).bind (·.dst) with
  |none=>rw[hd] at h;cases h
  |some d=>
   rw[hd] at h;simp only at h;have hr:=hE d;split at h
   ·rename_i c e;cases h;rw[e] at hr;have e2:=hr.bool;have e3:a.tmps[d]? =some (.bool c):=by
     rw[Array.getD_eq_getD_getElem?] at e2;cases hx:a.tmps[d]? with
     |none=>rw[hx] at e2;simp[undef] at e2
     |some x=>rw[hx] at e2;simp at e2;rw[e2]
    simp only[Option.bind_some,e3];cases c<;>cases want<;>rfl
   ·rename_i vs e;split at h
    ·rename_i aec;cases h;rw[e] at hr;obtain⟨iY,e2,hvs⟩:=hr.AB;simp only[Option.bind_some];rw[Array.getD_eq_getD_getElem?] at e2;cases hx:a.tmps[d]? with
     |none=>cases want<;>rfl
     |some x=>rw[hx] at e2;simp at e2;subst e2;cases want<;>rfl
    ·cases h
   ·cases h
def jO (P:Program)(C:ae)(E:Nat→Value)(H:aa)(o:Oper):Option (Value×aa):=
 match o.op with
 | .call {callee:=.value f,args, .. }=>match iu E f with
  | .func (.func g) first captured=>if g<P.funcs.size then C g (first.toList++args.toList.map (iu E)++captured.toList) H else none
  | .func (.yield i) _ _=>C (P.funcs.size+i) (args.toList.map (iu E)) H
  |_=>none
 |op=>gV P (iu E) H op
theorem qz (C:ae)(E:Env)(H:aa)(o:Oper):jO P C E.get H o=gA P C E H o:=by
 obtain⟨dst,op,type,pos,after,guard⟩:=o;cases op with
 |call c=>
  obtain⟨callee,args,types⟩:=c;cases callee<;>simp only[jO,gA,gg]<;>rfl
 |_=>simp only[jO,gA,gg]
theorem rB {ro:Option Nat}{n:Nat}{C:ae}{E:Nat→Value}{o:Oper}{v:Value}{a:Act}{K:Act→World→Prop}{Q:Exit→Act→World→Prop}(hC:z9 P B C)(hS:cO P μ H w B)(hE:gW μ E a.tmps)(h:jO P C E H o=some (v,H'))(hK: ∀v' μ' w',μ.le μ'→VR μ' v v'→cO P μ' H' w' B→eW B w w'→K (a.put o.dst v') w'):o.wpIn (FR ro) n P a w K Q:=by
 have hnd: ∀c,o.op≠ .defer c:=by
  intro c e;unfold jO at h;rw[e] at h;simp[gV] at h
 refine⟨λ_ _=>trivial,?_⟩
 rw[Oper.semAt_eq _ _ _ hnd];unfold jO at h;split at h
 ·rename_i f args argTypes ho;split at h
  ·rename_i g first captured hf
   split at h
   case isFalse=>cases h
   rename_i hgs;obtain⟨⟨fn,zO,hb,hnm⟩,Wp⟩:=(hC.told _ _ _ _ _ h).1 hgs;have kW:=hE.eval f;rw[hf] at kW;obtain⟨kX,fQ,e,h1,h2⟩:=kW.wu rfl;have oB:cU μ (first.toList++args.toList.map (iu E)++captured.toList) (kX.toList++args.toList.map a.eval++fQ.toList):=
    (h1.append (cU.map hE.eval args.toList)).append h2
   have DY:=Wp μ w _ hS oB;have uX:(kX.toList++args.toList.map a.eval++fQ.toList).toArray=kX++args.map a.eval++fQ:=by
    rw[←Array.toList_inj];simp
   rw[uX] at DY;have dI:(execOp a.eval o).run P w= .ok (.enter g (kX++args.map a.eval++fQ)) w:=by
    unfold execOp;rw[ho];have NJ: ¬fn.body=none:=by intro e;rw[e] at hb;simp at hb
    have Wq: ¬fn.name= "runtime.NumGoroutine" :=by simpa using hnm
    simp[resolve,Deferred.ofValue,e,invoke,callFunc,zO,Wq,NJ]
   rw[dI,Oper.uponIn_enter];refine⟨λh=>by simp[Fence.wide] at h,(NS DY).mono ?_⟩
   rintro e w' ⟨v',μ',rfl,hle,hv,s9,hB⟩;exact hK v' μ' w' hle hv s9 hB
  ·rename_i i f1 c1 hf;have kW:=hE.eval f;rw[hf] at kW;obtain⟨_,_,l,hl,e⟩:=kW.Ro;have hy:=(hC.told _ _ _ _ _ h).2 i rfl ro (n-1) μ w _ l hS (cU.map hE.eval args.toList) hl;have uX:(args.toList.map a.eval).toArray=args.map a.eval:=by rw[←Array.toList_inj];simp
   rw[uX] at hy;obtain⟨fn,tmps,assign,body,dI,hR⟩:=hy;have hex:(execOp a.eval o).run P w= .ok (.round l.b fn tmps assign body) w:=by
    unfold execOp;rw[ho];simp[resolve,Deferred.ofValue,e,invoke,dI]
   rw[hex,Oper.uponIn_round];refine⟨λh=>by simp[Fence.wide] at h,hR.mono ?_⟩
   rintro e w' ⟨v',μ',rfl,hle,hv,s9,hB⟩;exact hK v' μ' w' hle hv s9 hB
  ·cases h
 ·obtain⟨v',μ',w',hr,hle,hv,s9,hB⟩:=J9 (o:=o) hS hE.eval h;rcases hr with hr|⟨hr,rfl⟩
  ·rw[hr];exact hK v' μ' w' hle hv s9 hB
  ·rw[hr];exact hK undef μ' w' hle hv s9 hB
theorem Aa {ro:Option Nat}{n:Nat}{C:ae}{ops:Array Oper}{N:Nat}{Q:Exit→Act→World→Prop}(hC:z9 P B C): ∀(l:List Oper) (E:Env) (H:aa) (E':Env) (H':aa) (μ:Mu) (a:Act) (w:World),
  eK P C ops l E H=some (E',H')→(∀o∈l,∀d,o.dst=some d→d<N)→N≤a.tmps.size→cO P μ H w B→gW μ E.get a.tmps→
  (∀a' w' μ',μ.le μ'→gW μ' E'.get a'.tmps→a'.defers=a.defers→a'.tmps.size=a.tmps.size→cO P μ' H' w' B→eW B w w'→Q .normal a' w')→wpListIn (FR ro) n P ops Q l a w:=by
 intro l;induction l with
 |nil=>
  intro E H E' H' μ a w h _ _ hS hE hQ;simp only[eK] at h;cases h;exact hQ a w μ μ.le_refl hE rfl rfl hS (eW.refl _ _)
 |cons o r ih=>
  intro E H E' H' μ a w h hd hN hS hE hQ;simp only[eK] at h;unfold wpListIn;have Wr: ∀t,o.dst=some t→t<a.tmps.size:=λt ht=>Nat.lt_of_lt_of_le (hd o (by simp) t ht) hN
  split at h
  ·rename_i hw;rw[lR hE (by rw[qy];exact hw),if_pos rfl]
   cases hx:gA P C E H o with
   |none=>rw[hx] at h;cases h
   |some q=>
    obtain⟨v,H1⟩:=q;rw[hx] at h;simp only at h;rw[←qz] at hx;refine rB hC hS hE hx ?_;intro v' μ' w' hle hv s9 hB;refine ih _ _ _ _ μ' _ w' h (λo ho=>hd o (by simp[ho])) (by rw[mJ];exact hN) s9 ?_ ?_
    ·have:=gW.put (hE.mono hle) hv o.dst Wr
     intro t;rw[Env.aH];exact this t
    ·intro a' w'' Ws ml UQ hdf uS Wt hB';exact hQ a' w'' Ws (Mu.le_trans hle ml) UQ (by rw[hdf,put_defers]) (by rw[uS,mJ]) Wt (hB.trans hB')
  ·rename_i hw;rw[lR hE (by rw[qy];exact hw)]
   simp only[Bool.false_eq_true,if_false];refine⟨λ_ _=>trivial,ih _ _ _ _ μ _ w h (λo ho=>hd o (by simp[ho])) (by rw[mJ];exact hN) hS ?_ ?_⟩
   ·have:=gW.put hE (cU.tuple (c:=#[]) (c':=#[]) .nil) o.dst Wr
    intro t;rw[Env.aH];exact this t
   ·intro a' w'' Ws ml UQ hdf uS Wt hB';exact hQ a' w'' Ws ml UQ (by rw[hdf,put_defers]) (by rw[uS,mJ]) Wt hB'
  ·cases h
end Go.Proofs.YtgfgglponbmgmaaGreatA.Am
end
