/- Texts of the proof of linearChecks_holds, put together by a small program of ours (names shortened, spaces taken out). No condition beyond the given statement. -/
import Derived.Test.YtjgmnoaalbbonaaGreatLCQ1
import Derived.Test.YtjgmnoaalbbonaaGreatLCQ4
import Derived.OrdersIn
import Derived.TacticsIn
import Derived.Sort.LoopGhostIn
import Derived.RangeFuncIn
import Derived.RangeFuncSeq
import Derived.RangeFuncRecord
set_option linter.unusedVariables false
set_option linter.unusedSimpArgs false
set_option linter.unnecessarySimpa false
noncomputable section
section
namespace Go.Proofs.YtjgmnoaalbbonaaGreatA.Am
variable {P:Program} {H H':ae} {i:Nat} {b:eY}
def cX (H:ae)(i:Nat):Prop:=H[i]? =some .hole
def ae.lay (H:ae)(i:Nat)(b:eY):ae:=H.set i (.hZ b)
theorem cX.lt (h:cX H i):i<H.length:=(List.getElem?_eq_some_iff.1 h).1
theorem cX.get (h:cX H i):H.get i=none:=by unfold ae.get;rw[h]
theorem cX.db (h:cX H i):H.db i=none:=by unfold ae.db;rw[h]
@[simp] theorem jK:(H.lay i b).length=H.length:=by simp[ae.lay]
theorem nj (hf:cX H i){j:Nat}{c:eY}(h:H.get j=some c):(H.lay i b).get j=some c:=by
 have e:j≠i:=by rintro rfl;rw[hf.get] at h;cases h
 rw[←h];exact ae.get_congr (List.getElem?_set_ne (Ne.symm e))
theorem nm (hf:cX H i){j:Nat}{o:dq}(h:H.db j=some o):(H.lay i b).db j=some o:=by
 have e:j≠i:=by rintro rfl;rw[hf.db] at h;cases h
 rw[←h];exact ae.kN (List.getElem?_set_ne (Ne.symm e))
theorem cX.vY (hf:cX H i){j:Nat}{c:eY}(h:H.get j=some c):j≠i:=by rintro rfl;rw[hf.get] at h;cases h
theorem cX.zu (hf:cX H i){j:Nat}{c:dq}(h:H.db j=some c):j≠i:=by rintro rfl;rw[hf.db] at h;cases h
theorem cX.set (hf:cX H i){j:Nat}(h:j≠i)(s:Slot):cX (H.set j s) i:=by
 unfold cX;rw[List.getElem?_set_ne h];exact hf
theorem cX.new (hf:cX H i)(c:eY):cX (H.new c) i:=by
 unfold cX ae.new;rw[List.getElem?_append_left hf.lt];exact hf
theorem cX.gX (hf:cX H i)(c:dq):cX (H.gX c) i:=by
 unfold cX ae.gX;rw[List.getElem?_append_left hf.lt];exact hf
theorem cX.app (hf:cX H i)(T:ae):cX (H++T) i:=by
 unfold cX;rw[List.getElem?_append_left hf.lt];exact hf
theorem pc (hf:cX H i)(c:eY):(H.lay i b).new c=(H.new c).lay i b:=by
 unfold ae.lay ae.new;rw[List.set_append_left _ _ hf.lt]
theorem G6 (hf:cX H i)(c:dq):(H.lay i b).gX c=(H.gX c).lay i b:=by
 unfold ae.lay ae.gX;rw[List.set_append_left _ _ hf.lt]
theorem US (hf:cX H i)(T:ae):(H.lay i b)++T=ae.lay (H++T) i b:=by
 unfold ae.lay;rw[List.set_append_left _ _ hf.lt]
theorem uy {j:Nat}(h:j≠i)(s:Slot):(H.lay i b).set j s=ae.lay (H.set j s) i b:=by
 unfold ae.lay;rw[List.set_comm _ _ (Ne.symm h)]
theorem UT {j:Nat}(h:j≠i)(c:eY):(H.lay i b).put j c=(H.put j c).lay i b:=uy h _
theorem uz {j:Nat}(h:j≠i)(c:dq):(H.lay i b).fC j c=(H.fC j c).lay i b:=uy h _
theorem zx {j:Nat}(h:j≠i):(H.lay i b).kill j=(H.kill j).lay i b:=uy h _
def Up (i:Nat)(b:eY)(H:ae)(x y:Option (Value×ae)):Prop:=
 cX H i→∀v H',x=some (v,H')→cX H' i∧y=some (v,H'.lay i b)
theorem Up.same {x:Option Value}{y:Option Value}(h:cX H i→∀v,x=some v→y=some v):Up i b H (x.map (·,H)) (y.map (·,H.lay i b)):=by
 intro hf v H' e;rw[Option.map_eq_some_iff] at e;obtain⟨u,hu,e⟩:=e;cases e;exact⟨hf,by rw[h hf _ hu];rfl⟩
theorem nr (hf:cX H i){j off n:Nat}{vs:List Value}(h:aA H j off n=some vs):aA (H.lay i b) j off n=some vs:=by
 unfold aA at h ⊢;split at h
 ·rename_i c hc;rw[nj hf hc];exact h
 ·cases h
theorem ns (hf:cX H i){j off:Nat}{vs:List Value}(h:bG H j off vs=some H'):cX H' i∧bG (H.lay i b) j off vs=some (H'.lay i b):=by
 unfold bG at h ⊢;split at h
 ·rename_i c hc;rw[nj hf hc];split at h
  ·rename_i jS;cases h;simp only[jS,if_true];exact⟨hf.set (hf.vY hc) _,by rw[UT (hf.vY hc)]⟩
  ·cases h
 ·cases h
theorem vZ (hf:cX H i){t:TypeId}{p v:Value}(h:ke P t p H=some v):ke P t p (H.lay i b)=some v:=by
 unfold ke at h ⊢;split at h
 ·split at h
  ·split at h
   ·split at h
    ·rename_i vs hv;rw[nr hf hv];exact h
    ·cases h
   ·cases h
  ·split at h
   ·rename_i c hc;rw[nj hf hc];exact h
   ·cases h
  ·cases h
 ·cases h
theorem Ns (hf:cX H i){t:TypeId}{p v:Value}(h:Dm P t p v H=some H'):cX H' i∧Dm P t p v (H.lay i b)=some (H'.lay i b):=by
 unfold Dm at h ⊢;split at h
 ·split at h
  ·split at h
   ·rename_i hc;simp only[hc,and_self,if_true];exact ns hf h
   ·cases h
  ·cases h
 ·cases h
theorem uA (hf:cX H i){size n:Nat}{x:Value}{cs:List Value}(h:bp H size n x=some cs):bp (H.lay i b) size n x=some cs:=by
 unfold bp at h ⊢;split at h
 ·split at h
  ·rename_i h0;rw[if_pos h0];exact h
  ·rename_i h0;rw[if_neg h0];exact nr hf h
 ·exact h
 ·cases h
theorem Qv (hf:cX H i){t:TypeId}{size bytes:Nat}{z x:Value}{r:Nat×List Value}(h:GQ P H t size bytes z x=some r):GQ P (H.lay i b) t size bytes z x=some r:=by
 unfold GQ at h ⊢;split at h
 ·exact h
 ·rw[Option.map_eq_some_iff] at h;obtain⟨cs,h1,h2⟩:=h;rw[uA hf h1];simp[h2]
 ·cases h
theorem G7 {ts:Array TypeId}{s x:Value}:Up i b H (rD P ts s x H) (rD P ts s x (H.lay i b)):=by
 intro hf v H' h;unfold rD at h ⊢;split at h
 case h_2=>cases h
 split at h
 case h_2=>cases h
 split at h
 case h_2=>cases h
 split at h
 case h_2=>cases h
 rename_i r n new hg;rw[Qv hf hg];simp only at h ⊢;split at h
 ·rename_i hle;rw[if_pos hle];split at h
  ·cases h;exact⟨hf,rfl⟩
  ·split at h
   ·rename_i h0;cases h;rw[if_pos h0];exact⟨hf,rfl⟩
   ·rename_i h0;rw[if_neg h0];split at h
    ·rename_i c hc;rw[nj hf hc];simp only;split at h
     ·rename_i he;rw[if_pos he];rw[Option.map_eq_some_iff] at h;obtain⟨H2,h1,h2⟩:=h;cases h2;obtain⟨k1,k2⟩:=ns (b:=b) hf h1;exact⟨k1,by rw[k2];rfl⟩
     ·cases h
    ·cases h
  ·cases h
 ·rename_i hle;rw[if_neg hle];split at h
  ·rename_i hb;rw[if_pos hb];split at h
   ·split at h
    ·rename_i h0;cases h;rw[if_pos h0];exact⟨hf.new _,by rw[pc hf,jK]⟩
    ·cases h
   ·split at h
    ·rename_i c hc;rw[nj hf hc];simp only;split at h
     ·rename_i he;rw[if_pos he];split at h
      ·rename_i old hold;cases h;rw[nr hf hold];simp only;have hk:cX (H.kill _) i:=hf.set (hf.vY hc) _;refine⟨hk.new _,?_⟩;rw[zx (hf.vY hc),pc hk,jK]
      ·cases h
     ·cases h
    ·cases h
   ·cases h
  ·cases h
theorem Nt {ts:Array TypeId}{d s:Value}:Up i b H (pN P ts d s H) (pN P ts d s (H.lay i b)):=by
 intro hf v H' h;unfold pN at h ⊢;split at h
 case h_2=>cases h
 split at h
 case h_2=>cases h
 split at h
 case h_2=>cases h
 simp only at h ⊢;split at h
 case h_2=>cases h
 rename_i cs lQ;rw[uA hf lQ];simp only;split at h
 ·cases h;exact⟨hf,rfl⟩
 ·split at h
  ·rename_i h0;cases h;rw[if_pos h0];exact⟨hf,rfl⟩
  ·rename_i h0;rw[if_neg h0];rw[Option.map_eq_some_iff] at h;obtain⟨H2,h1,h2⟩:=h;cases h2;obtain⟨k1,k2⟩:=ns (b:=b) hf h1;exact⟨k1,by rw[k2];rfl⟩
 ·cases h
theorem Ji {ts:Array TypeId}{x:Value}:Up i b H (vR P ts x H) (vR P ts x (H.lay i b)):=by
 intro hf v H' h;unfold vR at h ⊢;split at h
 case h_2=>cases h
 split at h
 case h_2=>cases h
 split at h
 ·cases h;exact⟨hf,rfl⟩
 ·split at h
  ·rename_i h0;cases h;rw[if_pos h0];exact⟨hf,rfl⟩
  ·rename_i h0;rw[if_neg h0];rw[Option.map_eq_some_iff] at h;obtain⟨H2,h1,h2⟩:=h;cases h2;obtain⟨k1,k2⟩:=ns (b:=b) hf h1;exact⟨k1,by rw[k2];rfl⟩
 ·cases h
theorem zy (hf:cX H i){t:TypeId}{x v:Value}{lo hi:Option Value}(h:qx P H t x lo hi=some v):qx P (H.lay i b) t x lo hi=some v:=by
 unfold qx at h ⊢;split at h
 case h_2=>cases h
 split at h
 case h_2=>cases h
 split at h
 case h_2=>cases h
 split at h
 case isFalse=>cases h
 rename_i hc;rw[if_pos hc];split at h
 ·exact h
 ·split at h
  ·rename_i c hc;rw[nj hf hc];exact h
  ·split at h
   case isFalse=>cases h
   rename_i hl0 hh0 hx0 YZ;cases h;obtain⟨g1,g2,g3,g4⟩:=hc;subst YZ;split
   ·split
    ·simp only[Option.some.injEq,Value.slice.injEq,Addr.mk.injEq];refine⟨⟨trivial,?_,trivial⟩,?_,?_⟩;all_goals first|omega| (rw[show Int.toNat _=0 by omega];omega)
    ·rfl
   ·rfl
 ·cases h
theorem G8 (hf:cX H i){t:TypeId}{x v m:Value}{lo hi:Option Value}(h:rF P H t x lo hi m=some v):rF P (H.lay i b) t x lo hi m=some v:=by
 unfold rF at h ⊢;split at h
 ·split at h
  ·rename_i hc;rw[if_pos hc];exact zy hf h
  ·cases h
 ·cases h
theorem Nu (hf:cX H i){q:IntKind}{z m x v:Value}{ok:Bool}(h:pO q z ok m x H=some v):pO q z ok m x (H.lay i b)=some v:=by
 unfold pO at h ⊢;split at h
 ·split at h
  ·rename_i hc;rw[nm hf hc];exact h
  ·cases h
 ·cases h
theorem G9 (hf:cX H i){t:TypeId}{m x v:Value}{ok:Bool}(h:rE P t m x ok H=some v):rE P t m x ok (H.lay i b)=some v:=by
 unfold rE at h ⊢;split at h
 ·exact Nu hf h
 ·cases h
theorem Qw (hf:cX H i){m v:Value}(h:vQ m H=some v):vQ m (H.lay i b)=some v:=by
 unfold vQ at h ⊢;split at h
 ·split at h
  ·rename_i hc;rw[nm hf hc];exact h
  ·cases h
 ·cases h
theorem Qx (hf:cX H i){ts:Array TypeId}{x v:Value}(h:Ef P H ts x=some v):Ef P (H.lay i b) ts x=some v:=by
 unfold Ef at h ⊢;split at h
 ·split at h
  ·exact Qw hf h
  ·exact h
  ·exact h
  ·exact h
  ·cases h
 ·cases h
theorem Qy {q:IntKind}{m x u:Value}:Up i b H (jM q m x u H) (jM q m x u (H.lay i b)):=by
 intro hf v H' h;unfold jM at h ⊢;split at h
 ·split at h
  ·rename_i hc;rw[nm hf hc];simp only;split at h
   ·rename_i hq;cases h;rw[if_pos hq];exact⟨hf.set (hf.zu hc) _,by rw[uz (hf.zu hc)]⟩
   ·cases h
  ·cases h
 ·cases h
theorem Qz {q:IntKind}{m x:Value}:Up i b H (lz q m x H) (lz q m x (H.lay i b)):=by
 intro hf v H' h;unfold lz at h ⊢;split at h
 ·split at h
  ·rename_i hc;rw[nm hf hc];simp only;split at h
   ·rename_i hq;cases h;rw[if_pos hq];exact⟨hf.set (hf.zu hc) _,by rw[uz (hf.zu hc)]⟩
   ·cases h
  ·cases h
 ·cases h
theorem EA {c:Builtin}{ts:Array TypeId}{as:List Value}:Up i b H (lA P c ts as H) (lA P c ts as (H.lay i b)):=by
 intro hf v H' h;unfold lA at h ⊢;split at h
 ·exact G7 hf v H' h
 ·exact Nt hf v H' h
 ·exact Up.same (λhf v h=>Qx hf h) hf v H' h
 ·exact Ji hf v H' h
 ·unfold yh at h ⊢;split at h
  ·exact Qz hf v H' h
  ·cases h
 ·split at h
  ·cases h;exact⟨hf,rfl⟩
  ·cases h
 ·split at h
  ·rename_i hk;cases h;rw[if_pos hk];exact⟨hf,rfl⟩
  ·cases h
 ·split at h
  ·rename_i hk;cases h;rw[if_pos hk];exact⟨hf,rfl⟩
  ·cases h
 ·cases h
theorem xJ {t:TypeId}{n:Nat}{ps:List (Nat×Value)}:Up i b H (aw P t n ps H) (aw P t n ps (H.lay i b)):=by
 intro hf v H' h;unfold aw at h ⊢;split at h
 ·cases h
 ·rename_i h1;rw[if_neg h1];split at h
  ·split at h
   ·split at h
    ·rename_i h2;rw[if_pos h2];split at h
     ·cases h;exact⟨hf.new _,by rw[pc hf,jK]⟩
     ·cases h
    ·cases h
   ·cases h
  ·cases h
theorem zz {t:TypeId}{l c:Value}:Up i b H (il P t l c H) (il P t l c (H.lay i b)):=by
 intro hf v H' h;unfold il at h ⊢;split at h
 ·split at h
  ·split at h
   ·rename_i h2;rw[if_pos h2];cases h;exact⟨hf.new _,by rw[pc hf,jK]⟩
   ·cases h
  ·cases h
 ·cases h
theorem zA {t:TypeId}{es:Nat}{cs:List Value}:Up i b H (some (aO H t es cs)) (some (aO (H.lay i b) t es cs)):=by
 intro hf v H' h;unfold aO at h ⊢;cases h;exact⟨hf.new _,by rw[pc hf,jK]⟩
theorem rH {ρ:Operand→Value}{op:Op}:Up i b H (iW P ρ H op) (iW P ρ (H.lay i b) op):=by
 intro hf v H' h;unfold iW at h ⊢;split at h<;>try(simp only)
 ·cases h;exact⟨hf,rfl⟩
 ·cases h;exact⟨hf,rfl⟩
 ·split at h
  ·cases h;exact⟨hf,rfl⟩
  ·cases h
 ·split at h
  ·exact zA hf v H' h
  ·cases h
 ·split at h
  ·rename_i h1;rw[if_pos h1];exact zA hf v H' h
  ·cases h
 ·exact Up.same (λ_ _ h=>h) hf v H' h
 ·exact xJ hf v H' h
 ·exact Up.same (λhf _ h=>vZ hf h) hf v H' h
 ·rw[Option.map_eq_some_iff] at h;obtain⟨H2,h1,h2⟩:=h;cases h2;obtain⟨k1,k2⟩:=Ns (b:=b) hf h1;exact⟨k1,by rw[k2];rfl⟩
 ·split at h
  ·cases h;exact⟨hf,rfl⟩
  ·cases h;exact⟨hf,rfl⟩
  ·cases h
 ·exact Up.same (λ_ _ h=>h) hf v H' h
 ·exact Up.same (λ_ _ h=>h) hf v H' h
 ·split at h
  ·cases h;exact⟨hf,rfl⟩
  ·cases h
 ·cases h;exact⟨hf,rfl⟩
 ·exact zz hf v H' h
 ·exact Up.same (λhf _ h=>zy hf h) hf v H' h
 ·exact Up.same (λhf _ h=>G8 hf h) hf v H' h
 ·unfold tW at h ⊢;split at h
  ·unfold mmk at h ⊢;cases h;exact⟨hf.gX _,by rw[G6 hf,jK]⟩
  ·cases h
 ·exact Up.same (λhf _ h=>G9 hf h) hf v H' h
 ·unfold oT at h ⊢;split at h
  ·exact Qy hf v H' h
  ·cases h
 ·repeat' split at h
  all_goals first| (cases h;exact⟨hf,rfl⟩)|cases h
 ·repeat' split at h
  all_goals first| (exact Up.same (λ_ _ h=>h) hf v H' h)|cases h
 ·repeat' split at h
  all_goals first| (rename_i hb;cases h;rw[if_pos hb];exact⟨hf,rfl⟩)|cases h
 ·split at h
  ·split at h
   ·split at h
    ·rename_i hb;rw[if_pos hb];exact Up.same (λ_ _ h=>h) hf v H' h
    ·cases h
   ·cases h
  ·split at h
   ·rename_i hb;rw[if_pos hb];rw[Option.map_eq_some_iff] at h;obtain⟨u,hu,e⟩:=h;cases e;exact⟨hf,by rw[hu];rfl⟩
   ·cases h
  ·cases h
 ·repeat' split at h
  all_goals first| (exact Up.same (λ_ _ h=>h) hf v H' h)|cases h
 ·exact EA hf v H' h
 ·cases h
def im (C:ag):Prop:=∀f args H i b,Up i b H (C f args H) (C f args (H.lay i b))
theorem wa {C:ag}(hC:im C){E:Env}{o:Oper}:Up i b H (iC P C E H o) (iC P C E (H.lay i b) o):=by
 intro hf v H' h;unfold iC at h ⊢;split at h
 ·split at h
  ·split at h
   ·rename_i h1;rw[if_pos h1];exact hC _ _ _ _ _ hf v H' h
   ·cases h
  ·exact hC _ _ _ _ _ hf v H' h
  ·cases h
 ·exact rH hf v H' h
theorem DA {ρ:Operand→Value}{op:Op}{j:Nat}(hj:j≠i):Up i b H (sF P ρ j H op) (sF P ρ j (H.lay i b) op):=by
 intro hf v H' h;unfold sF at h ⊢;have e:(H.lay i b)[j]? =H[j]? :=List.getElem?_set_ne (Ne.symm hj);rw[e];split at h
 ·split at h
  ·rename_i hb;cases h;exact⟨hf.set hj _,by simp only[uy hj]⟩
  ·cases h
 ·cases h
theorem zB {C:ag}(hC:im C){F:List Nat}{base k:Nat}(hb:i<base){E:Env}{o:Oper}:Up i b H (eQ P C F base k E H o) (eQ P C F base k E (H.lay i b) o):=by
 intro hf v H' h;unfold eQ at h ⊢;split at h
 ·rename_i h1;rw[if_pos h1];exact DA (by omega) hf v H' h
 ·rename_i h1;rw[if_neg h1];exact wa hC hf v H' h
theorem s8 {C:ag}(hC:im C){ops:Array Oper}: ∀(l:List Oper) (E E':Env) (H H':ae),cX H i→fV P C ops l E H=some (E',H')→
  cX H' i∧fV P C ops l E (H.lay i b)=some (E',H'.lay i b)∧trace P C ops l E (H.lay i b)=(trace P C ops l E H).map λp=>(p.1,p.2.lay i b):=by
 intro l;induction l with
 |nil=>intro E E' H H' hf h;simp only[fV] at h;cases h;exact⟨hf,rfl,rfl⟩
 |cons o r ih=>
  intro E E' H H' hf h;simp only[fV] at h;split at h
  ·rename_i hw;cases hx:iC P C E H o with
   |none=>rw[hx] at h;cases h
   |some q=>
    obtain⟨v,H1⟩:=q;rw[hx] at h;obtain⟨f1,e1⟩:=wa (b:=b) hC hf v H1 hx;obtain⟨f2,e2,e3⟩:=ih _ _ _ _ f1 h;exact⟨f2,by simp only[fV,hw,e1,e2],by simp only[trace,hw,e1,hx,e3,List.map_cons]⟩
  ·rename_i hw;obtain⟨f2,e2,e3⟩:=ih _ _ _ _ hf h;exact⟨f2,by simp only[fV,hw,e2],by simp only[trace,hw,e3,List.map_cons]⟩
  ·cases h
theorem xd {C:ag}(hC:im C){F:List Nat}{base:Nat}(hb:i<base){ops:Array Oper}: ∀(l:List Oper) (k:Nat) (E E':Env) (H H':ae),cX H i→eo P C F base ops l k E H=some (E',H')→
  cX H' i∧eo P C F base ops l k E (H.lay i b)=some (E',H'.lay i b)∧fJ P C F base ops l k E (H.lay i b)=(fJ P C F base ops l k E H).map λp=>(p.1,p.2.lay i b):=by
 intro l;induction l with
 |nil=>intro k E E' H H' hf h;simp only[eo] at h;cases h;exact⟨hf,rfl,rfl⟩
 |cons o r ih=>
  intro k E E' H H' hf h;simp only[eo] at h;split at h
  ·rename_i hw;cases hx:eQ P C F base k E H o with
   |none=>rw[hx] at h;cases h
   |some q=>
    obtain⟨v,H1⟩:=q;rw[hx] at h;obtain⟨f1,e1⟩:=zB (b:=b) hC hb hf v H1 hx;obtain⟨f2,e2,e3⟩:=ih _ _ _ _ _ f1 h;exact⟨f2,by simp only[eo,hw,e1,e2],by simp only[fJ,hw,e1,hx,e3,List.map_cons]⟩
  ·rename_i hw;obtain⟨f2,e2,e3⟩:=ih _ _ _ _ _ hf h;exact⟨f2,by simp only[eo,hw,e2],by simp only[fJ,hw,e3,List.map_cons]⟩
  ·cases h
theorem Jj {C:ag}(hC:im C){ops:Array Oper}: ∀(l:List Oper) (E E':Env) (H H':ae),cX H i→fV P C ops l E H=some (E',H')→∀p∈trace P C ops l E H,cX p.2 i:=by
 intro l;induction l with
 |nil=>intro E E' H H' hf _ p hp;simp only[trace,List.mem_singleton] at hp;subst hp;exact hf
 |cons o r ih=>
  intro E E' H H' hf h p hp;simp only[fV] at h;split at h
  ·rename_i hw;cases hx:iC P C E H o with
   |none=>rw[hx] at h;cases h
   |some q=>
    obtain⟨v,H1⟩:=q;rw[hx] at h;obtain⟨f1,_⟩:=wa (b:=default) hC hf v H1 hx;simp only[trace,hw,hx] at hp;rcases List.mem_cons.1 hp with rfl|hp
    ·exact hf
    ·exact ih _ _ _ _ f1 h p hp
  ·rename_i hw;simp only[trace,hw] at hp;rcases List.mem_cons.1 hp with rfl|hp
   ·exact hf
   ·exact ih _ _ _ _ hf h p hp
  ·cases h
theorem Ha {C:ag}(hC:im C){F:List Nat}{base:Nat}(hb:i<base){ops:Array Oper}: ∀(l:List Oper) (k:Nat) (E E':Env) (H H':ae),cX H i→eo P C F base ops l k E H=some (E',H')→∀p∈fJ P C F base ops l k E H,cX p.2 i:=by
 intro l;induction l with
 |nil=>intro k E E' H H' hf _ p hp;simp only[fJ,List.mem_singleton] at hp;subst hp;exact hf
 |cons o r ih=>
  intro k E E' H H' hf h p hp;simp only[eo] at h;split at h
  ·rename_i hw;cases hx:eQ P C F base k E H o with
   |none=>rw[hx] at h;cases h
   |some q=>
    obtain⟨v,H1⟩:=q;rw[hx] at h;obtain⟨f1,_⟩:=zB (b:=default) hC hb hf v H1 hx;simp only[fJ,hw,hx] at hp;rcases List.mem_cons.1 hp with rfl|hp
    ·exact hf
    ·exact ih _ _ _ _ _ f1 h p hp
  ·rename_i hw;simp only[fJ,hw] at hp;rcases List.mem_cons.1 hp with rfl|hp
   ·exact hf
   ·exact ih _ _ _ _ _ hf h p hp
  ·cases h
theorem zC {ops:Array Oper}{T:List (Env×ae)}{c:Nat×Nat}(hT: ∀p∈T,cX p.2 i)(h:jN P ops T c=true):jN P ops (T.map λp=>(p.1,p.2.lay i b)) c=true:=by
 unfold jN at h ⊢;simp only[List.getElem?_map];cases h1:T[c.1]? with
 |none=>rw[h1] at h;cases h
 |some p1=>
  cases h2:T[c.2]? with
  |none=>rw[h1,h2] at h;cases h
  |some p2=>
   cases h3:T[c.2+1]? with
   |none=>rw[h1,h2,h3] at h;cases h
   |some p3=>
    rw[h1,h2,h3] at h;obtain⟨E1,H1⟩:=p1;obtain⟨E2,H2⟩:=p2;obtain⟨E3,H3⟩:=p3;simp only[Option.map_some] at h ⊢;cases h4:ops[c.1]? with
    |none=>rw[h4] at h;cases h
    |some x=>
     cases h5:ops[c.2]? with
     |none=>rw[h4,h5] at h;cases h
     |some y=>
      rw[h4,h5] at h;simp only at h ⊢;split at h
      ·have f1:=hT _ (List.mem_of_getElem? h1);have f2:=hT _ (List.mem_of_getElem? h2);have f3:=hT _ (List.mem_of_getElem? h3);split at h
       ·rename_i u K1 u1 K2 u2 K3 e1 e2 e3;rw[(rH (b:=b) f1 _ _ e1).2,(rH (b:=b) f2 _ _ e2).2,(rH (b:=b) f3 _ _ e3).2];exact h
       ·cases h
      ·exact h
      ·cases h
theorem CB {C:ag}(hC:im C){ops:Array Oper}{draw:Bool}{E E':Env}(hf:cX H i)(h:gz P C ops draw E H=some (E',H')):cX H' i∧gz P C ops draw E (H.lay i b)=some (E',H'.lay i b):=by
 unfold gz at h ⊢;cases draw with
 |false=>
  simp only[Bool.false_eq_true,if_false] at h ⊢;obtain⟨h1,h2,_⟩:=s8 (b:=b) hC _ _ _ _ _ hf h;exact⟨h1,h2⟩
 |true=>
  simp only[if_true] at h ⊢;cases hF:ng P ops with
  |nil=>
   rw[hF] at h;simp only at h ⊢;cases hc:n7 P ops with
   |nil=>
    rw[hc] at h;obtain⟨h1,h2,_⟩:=s8 (b:=b) hC _ _ _ _ _ hf h;exact⟨h1,h2⟩
   |cons c cs=>
    rw[hc] at h;simp only at h ⊢;split at h
    ·rename_i fE;obtain⟨h1,h2,h3⟩:=s8 (b:=b) hC _ _ _ _ _ hf h;refine⟨h1,?_⟩;rw[if_pos,h2];rw[h3];rw[List.all_eq_true] at fE ⊢;exact λx hx=>zC (Jj hC _ _ _ _ _ hf h) (fE x hx)
    ·cases h
  |cons f F=>
   rw[hF] at h;have G3:cX (H.dy (f::F).length) i:=hf.app _;have e:(H.lay i b).dy (f::F).length=(H.dy (f::F).length).lay i b:=US hf _;simp only[jK] at h ⊢;rw[e];cases hc:n7 P ops with
   |nil=>
    rw[hc] at h;obtain⟨h1,h2,_⟩:=xd (b:=b) hC hf.lt _ _ _ _ _ _ G3 h;exact⟨h1,h2⟩
   |cons c cs=>
    rw[hc] at h;simp only at h ⊢;split at h
    ·rename_i fE;obtain⟨h1,h2,h3⟩:=xd (b:=b) hC hf.lt _ _ _ _ _ _ G3 h;refine⟨h1,?_⟩;rw[if_pos,h2];rw[h3];rw[List.all_eq_true] at fE ⊢;exact λx hx=>zC (Ha hC hf.lt _ _ _ _ _ _ G3 h) (fE x hx)
    ·cases h
theorem EB {C:ag}(hC:im C){keep:List Nat}{n:Nat}: ∀(c:Code) (vs:List Value) (H:ae) (r:cg×List Value×ae),cX H i→ev P C keep n c vs H=some r→
  cX r.2.2 i∧ev P C keep n c vs (H.lay i b)=some (r.1,r.2.1,r.2.2.lay i b):=by
 intro c;induction c with
 |skip=>intro vs H r hf h;simp only[ev] at h;cases h;exact⟨hf,rfl⟩
 |label l=>intro vs H r hf h;simp only[ev] at h;cases h;exact⟨hf,rfl⟩
 |exit id=>intro vs H r hf h;simp only[ev] at h;cases h;exact⟨hf,rfl⟩
 |ret=>intro vs H r hf h;simp only[ev] at h;cases h;exact⟨hf,rfl⟩
 |goto l=>intro vs H r hf h;simp only[ev] at h;cases h
 |refuse s=>intro vs H r hf h;simp only[ev] at h;cases h
 |rangeFunc g ps x y _ _=>
  intro vs H r hf h;simp only[ev] at h ⊢;split at h
  case h_2=>cases h
  split at h
  case isFalse=>cases h
  rename_i dH;rw[if_pos dH,jK,G6 hf];split at h
  ·rename_i u H2 hx;obtain⟨f1,e1⟩:=hC _ _ _ i b (hf.gX _) _ _ hx;rw[e1];simp only;cases ho:H2.db H.length with
   |none=>rw[ho] at h;simp[Cu] at h
   |some o=>
    have eC:H.length≠i:=by have:=hf.lt;omega
    rw[nm f1 ho,zx eC];rw[ho] at h;have fk:cX (H2.kill H.length) i:=f1.set eC _;unfold Cu at h ⊢;cases o with
    |kz _ _=>cases h
    |loop L s=>cases s<;>simp only at h<;>cases h<;>exact⟨fk,rfl⟩
  ·cases h
 |region id ops draw=>
  intro vs H r hf h;simp only[ev] at h ⊢;split at h
  ·rename_i E H1 hr;cases h;obtain⟨f1,e1⟩:=CB (b:=b) hC hf hr;rw[e1];exact⟨f1,rfl⟩
  ·cases h
 |seq x y Y6 Y7=>
  intro vs H r hf h;simp only[ev] at h ⊢;cases hx:ev P C keep n x vs H with
  |none=>rw[hx] at h;cases h
  |some q=>
   obtain⟨e1,Hc,H1⟩:=q;obtain⟨f1,k1⟩:=Y6 _ _ _ hf hx;rw[hx] at h;rw[k1];cases e1 with
   |normal=>exact Y7 _ _ _ f1 h
   |exit id=>cases h;exact⟨f1,rfl⟩
   |ret=>cases h;exact⟨f1,rfl⟩
 |cond c x y Y6 Y7=>
  intro vs H r hf h;simp only[ev] at h ⊢;split at h
  ·rename_i t _;cases t with
   |true=>exact Y6 _ _ _ hf h
   |false=>exact Y7 _ _ _ hf h
  ·cases h
 |block id c ih=>
  intro vs H r hf h;simp only[ev] at h ⊢;cases hx:ev P C keep n c vs H with
  |none=>rw[hx] at h;cases h
  |some q=>
   obtain⟨e1,Hc,H1⟩:=q;obtain⟨f1,k1⟩:=ih _ _ _ hf hx;rw[hx] at h;rw[k1];cases e1 with
   |normal=>cases h;exact⟨f1,rfl⟩
   |ret=>cases h;exact⟨f1,rfl⟩
   |exit id'=>
    simp only at h ⊢;split at h<;>(rename_i hid;cases h;first|rw[if_pos hid]|rw[if_neg hid])<;>exact⟨f1,rfl⟩
 |scope c ih=>intro vs H r hf h;simp only[ev] at h ⊢;exact ih _ _ _ hf h
 |loop c ih=>
  intro vs H r hf h;simp only[ev] at h ⊢;have key: ∀k vs H,cX H i→iter k (ev P C keep n c) vs H=some r→cX r.2.2 i∧iter k (ev P C keep n c) vs (H.lay i b)=some (r.1,r.2.1,r.2.2.lay i b):=by
   intro k;induction k with
   |zero=>intro vs H _ h;simp only[iter] at h;cases h
   |succ k ihk=>
    intro vs H hf h;simp only[iter] at h ⊢;cases hx:ev P C keep n c vs H with
    |none=>rw[hx] at h;cases h
    |some q=>
     obtain⟨e1,Hc,H1⟩:=q;obtain⟨f1,k1⟩:=ih _ _ _ hf hx;rw[hx] at h;rw[k1];cases e1 with
     |normal=>exact ihk _ _ f1 h
     |exit id=>cases h;exact⟨f1,rfl⟩
     |ret=>cases h;exact⟨f1,rfl⟩
  exact key n vs H hf h
theorem Jk {C:ag}(hC:im C){n j:Nat}{args:List Value}:Up i b H (qz P C n j args H) (qz P C n j args (H.lay i b)):=by
 intro hf v H' h;unfold qz at h ⊢;split at h
 case h_2=>cases h
 rename_i L ho;rw[nm hf ho];simp only;split at h
 case isFalse=>cases h
 rename_i hl;rw[if_pos hl];split at h
 case h_2=>cases h
 rename_i vs H1 hx;obtain⟨f1,e1⟩:=EB (b:=b) hC _ _ _ _ hf hx;rw[e1];simp only;split at h
 case h_2=>cases h
 rename_i L1 UU;rw[nm f1 UU];simp only;have eC:j≠i:=f1.zu UU;rw[uz eC];split at h
 case h_2=>cases h
 rename_i e Y8 H2 hy;obtain⟨f2,e2⟩:=EB (b:=b) hC _ _ _ _ (f1.set eC (.db (.loop L1 .busy))) hy;have e2':ev P C L.keep n L.body vs ((H1.fC j (.loop L1 .busy)).lay i b)=some (e,Y8,H2.lay i b):=e2;rw[e2'];simp only;unfold Eh at h ⊢;split at h
 case h_2=>cases h
 rename_i L2 Hd;rw[nm f2 Hd];simp only;cases h;exact⟨f2.set eC _,by rw[uz eC]⟩
theorem DB {bad:List FuncId}{G:ag}(hG:im G): ∀n,im (fW P bad G n):=by
 intro n;induction n with
 |zero=>intro f args H i b hf v H' h;simp only[fW] at h;cases h
 |succ n ih=>
  intro f args H i b hf v H' h;simp only[fW] at h ⊢;split at h
  ·rename_i hb;rw[if_pos hb];exact hG _ _ _ _ _ hf v H' h
  ·rename_i hb;rw[if_neg hb];have res: ∀(fn:Func) (E:Env) (H2:ae) (u:Value),cX H2 i→Ei P fn E H2=some u→Ei P fn E (H2.lay i b)=some u:=by
    intro fn E H2 u hf h;unfold Ei at h ⊢;rw[Option.map_eq_some_iff] at h ⊢;obtain⟨vs,h1,h2⟩:=h;refine⟨vs,?_,h2⟩;revert vs
    induction fn.results.toList with
    |nil=>intro vs h1 _;exact h1
    |cons r l Uk=>
     intro vs h1 h2;rw[List.mapM_cons] at h1 ⊢;simp only[Option.bind_eq_bind,Option.bind_eq_some_iff] at h1 ⊢;obtain⟨x,hx,ys,hys,e⟩:=h1;refine⟨x,?_,ys,?_,e⟩
     ·cases r with
      |tmp t=>exact hx
      |cell a t=>exact vZ hf hx
     ·have: ∀vs,List.mapM (λ(r:ResultVar)=>match r with| .tmp t=>some (E.get t)| .cell a t=>ke P t (E.get a) H2) l=some vs→List.mapM (λ(r:ResultVar)=>match r with| .tmp t=>some (E.get t)| .cell a t=>ke P t (E.get a) (H2.lay i b)) l=some vs:=by
       clear hys Uk h2 e hx x ys vs;induction l with
       |nil=>intro vs h;exact h
       |cons r l Uk=>
        intro vs h1;rw[List.mapM_cons] at h1 ⊢;simp only[Option.bind_eq_bind,Option.bind_eq_some_iff] at h1 ⊢;obtain⟨x,hx,ys,hys,e⟩:=h1;refine⟨x,?_,ys,Uk _ hys,e⟩;cases r with
        |tmp t=>exact hx
        |cell a t=>exact vZ hf hx
      exact this _ hys
   split at h
   ·split at h
    ·rename_i fn Cn c hc;split at h
     ·rename_i vs H2 DC;obtain⟨f1,e1⟩:=EB (b:=b) ih _ _ _ _ hf DC;rw[e1];simp only;rw[Option.map_eq_some_iff] at h;obtain⟨u,hu,e⟩:=h;cases e;exact⟨f1,by rw[res _ _ _ _ f1 hu];rfl⟩
     ·rename_i vs H2 DC;obtain⟨f1,e1⟩:=EB (b:=b) ih _ _ _ _ hf DC;rw[e1];simp only;rw[Option.map_eq_some_iff] at h;obtain⟨u,hu,e⟩:=h;cases e;exact⟨f1,by rw[res _ _ _ _ f1 hu];rfl⟩
     ·cases h
    ·cases h
   ·exact Jk ih hf v H' h
end Go.Proofs.YtjgmnoaalbbonaaGreatA.Am
end
section
namespace Go.Proofs.YtjgmnoaalbbonaaGreatA.Am
open Go.RowKit (Below)
variable {P:Program} {μ:Mu} {H H':ae} {w:World} {B:Nat}
abbrev FR (ro:Option Nat):Fence:={Fence.wide with round:=ro}
theorem QA {ro:Option Nat}{n:Nat}{f:FuncId}{args:Array Value}{R:Ending→World→Prop}(h:Calls P f args w R):CallsIn (FR ro) n P f args w R:=callsIn_wide (n:=n).2 h
def DD (P:Program)(B:Nat)(μ:Mu)(w:World)(v:Value)(H':ae):Ending→World→Prop:=
 λe w'=>∃v' μ',e= .returned v'∧μ.le μ'∧VR μ' v v'∧da P μ' H' w' B∧gE B w w'
def we (P:Program)(B:Nat)(f:FuncId)(args:List Value)(H:ae)(v:Value)(H':ae):Prop:=
 ∀(μ:Mu) (w:World) (eI:List Value),da P μ H w B→dR μ args eI→Calls P f eI.toArray w (DD P B μ w v H')
def QB (P:Program)(B:Nat)(i:Nat)(args:List Value)(H:ae)(v:Value)(H':ae):Prop:=
 ∀(ro:Option Nat) (n:Nat) (μ:Mu) (w:World) (eI:List Value) (l:Loc),da P μ H w B→dR μ args eI→μ i=some l→YieldAt (FR ro) n P l.b eI.toArray w (DD P B μ w v H')
structure xK (P:Program) (B:Nat) (C:ag):Prop where
 told: ∀f args H v H',C f args H=some (v,H')→
  (f<P.funcs.size→(∃fn,P.funcs[f]? =some fn∧fn.body.isSome=true∧(fn.name== "runtime.NumGoroutine")=false)∧we P B f args H v H')∧
  (∀i,f=P.funcs.size+i→QB P B i args H v H')
 hole:im C
def jy (E:Nat→Value):Operand→Value
 | .tmp t=>E t
 | .const v=>if gZ v then v else lY
 | .global _=>lY
 | .func f=>.func (.func f) #[] #[]
theorem ir (E:Env):jy E.get=fP E:=by funext x;cases x<;>rfl
theorem fX.eval {E:Nat→Value}{a:Act}(h:fX μ E a.tmps)(x:Operand):VR μ (jy E x) (a.eval x):=by
 cases x with
 |tmp t=>exact h t
 |const v=>
  show VR μ (if gZ v then v else lY) v
  split
  ·rename_i hc;exact .closed hc
  ·exact .lY _
 |global g=>exact .lY _
 |func f=>exact .func _ _ _ _ _ rfl rfl rfl (λj h=>by simp at h) (λj h=>by simp at h)
theorem fX.put {E:Nat→Value}{a:Act}{v v':Value}(h:fX μ E a.tmps)(hv:VR μ v v')(d:Option Nat)(hd: ∀t,d=some t→t<a.tmps.size):
  fX μ (λt=>if d=some t then v else E t) (a.put d v').tmps:=by
 intro t;cases d with
 |none=>simpa[Act.put] using h t
 |some s=>
  simp only[Act.put];by_cases e:s=t
  ·subst e;have:=hd s rfl
   simp[this,hv]
  ·have e2:(some s:Option Nat)≠some t:=λx=>e (Option.some.inj x)
   simp only[e2,if_false];have:=h t
   simpa[Array.getD_eq_getD_getElem?,Array.getElem?_setIfInBounds_ne e] using this
theorem Env.aH (E:Env)(d:Option Nat)(v:Value)(t:Nat):(E.put d v).get t=if d=some t then v else E.get t:=by
 cases d with
 |none=>simp[Env.put]
 |some s=>
  simp only[Env.put,Env.get,Option.some.injEq];by_cases e:t=s
  ·subst e;simp
  ·rw[if_neg e,if_neg (Ne.symm e)]
theorem cM (a:Act)(d:Option Nat)(v:Value):(a.put d v).tmps.size=a.tmps.size:=by cases d<;>simp[Act.put]
theorem put_defers (a:Act)(d:Option Nat)(v:Value):(a.put d v).defers=a.defers:=by cases d<;>simp[Act.put]
def s9 (ops:Array Oper)(o:Oper)(E:Nat→Value):Option Bool:=
 match o.guard with
 |none=>some true
 |some (j,want)=>match (ops[j]?).bind (·.dst) with
  |some d=>match E d with
   | .bool b=>some (b==want)
   | .tuple vs=>if vs.isEmpty then some false else none
   |_=>none
  |none=>none
theorem td (ops:Array Oper)(o:Oper)(E:Env):s9 ops o E.get=eW ops o E:=rfl
theorem nt {ops:Array Oper}{o:Oper}{E:Nat→Value}{a:Act}{b:Bool}(hE:fX μ E a.tmps)(h:s9 ops o E=some b):Region.wanted o (yielded ops a.tmps)=b:=by
 unfold s9 at h;unfold Region.wanted;cases hg:o.guard with
 |none=>rw[hg] at h;cases h;rfl
 |some q=>
  obtain⟨j,want⟩:=q;rw[hg] at h;simp only at h ⊢;unfold yielded;cases hd:(ops[j]?).bind (·.dst) with
  |none=>rw[hd] at h;cases h
  |some d=>
   rw[hd] at h;simp only at h;have hr:=hE d;split at h
   ·rename_i c e;cases h;rw[e] at hr;have e2:=hr.bool;have e3:a.tmps[d]? =some (.bool c):=by
     rw[Array.getD_eq_getD_getElem?] at e2;cases hx:a.tmps[d]? with
     |none=>rw[hx] at e2;simp[undef] at e2
     |some x=>rw[hx] at e2;simp at e2;rw[e2]
    simp only[Option.bind_some,e3];cases c<;>cases want<;>rfl
   ·rename_i vs e;split at h
    ·rename_i ah9;cases h;rw[e] at hr;obtain⟨ju,e2,hvs⟩:=hr.Dr;simp only[Option.bind_some];rw[Array.getD_eq_getD_getElem?] at e2;cases hx:a.tmps[d]? with
     |none=>cases want<;>rfl
     |some x=>rw[hx] at e2;simp at e2;subst e2;cases want<;>rfl
    ·cases h
   ·cases h
def kR (P:Program)(C:ag)(E:Nat→Value)(H:ae)(o:Oper):Option (Value×ae):=
 match o.op with
 | .call {callee:=.value f,args, .. }=>match jy E f with
  | .func (.func g) first captured=>if g<P.funcs.size then C g (first.toList++args.toList.map (jy E)++captured.toList) H else none
  | .func (.yield i) _ _=>C (P.funcs.size+i) (args.toList.map (jy E)) H
  |_=>none
 |op=>iW P (jy E) H op
theorem te (C:ag)(E:Env)(H:ae)(o:Oper):kR P C E.get H o=iC P C E H o:=by
 obtain⟨dst,op,type,pos,after,guard⟩:=o;cases op with
 |call c=>
  obtain⟨callee,args,types⟩:=c;cases callee<;>simp only[kR,iC,ir]<;>rfl
 |_=>simp only[kR,iC,ir]
theorem uB {ro:Option Nat}{n:Nat}{C:ag}{E:Nat→Value}{o:Oper}{v:Value}{a:Act}{K:Act→World→Prop}{Q:Exit→Act→World→Prop}(hC:xK P B C)(hS:da P μ H w B)(hE:fX μ E a.tmps)(h:kR P C E H o=some (v,H'))(hK: ∀v' μ' w',μ.le μ'→VR μ' v v'→da P μ' H' w' B→gE B w w'→K (a.put o.dst v') w'):o.wpIn (FR ro) n P a w K Q:=by
 have Qb: ∀c,o.op≠ .defer c:=by
  intro c e;unfold kR at h;rw[e] at h;simp[iW] at h
 refine⟨λ_ _=>trivial,?_⟩
 rw[Oper.semAt_eq _ _ _ Qb];unfold kR at h;split at h
 ·rename_i f args argTypes ho;split at h
  ·rename_i g first captured hf
   split at h
   case isFalse=>cases h
   rename_i hgs;obtain⟨⟨fn,Cn,hb,UW⟩,Y9⟩:=(hC.told _ _ _ _ _ h).1 hgs;have nN:=hE.eval f;rw[hf] at nN;obtain⟨mI,hU,e,h1,h2⟩:=nN.y8 rfl;have qF:dR μ (first.toList++args.toList.map (jy E)++captured.toList) (mI.toList++args.toList.map a.eval++hU.toList):=
    (h1.append (dR.map hE.eval args.toList)).append h2
   have mJ:=Y9 μ w _ hS qF;have xL:(mI.toList++args.toList.map a.eval++hU.toList).toArray=mI++args.map a.eval++hU:=by
    rw[←Array.toList_inj];simp
   rw[xL] at mJ;have eK:(execOp a.eval o).run P w= .ok (.enter g (mI++args.map a.eval++hU)) w:=by
    unfold execOp;rw[ho];have tN: ¬fn.body=none:=by intro e;rw[e] at hb;simp at hb
    have Za: ¬fn.name= "runtime.NumGoroutine" :=by simpa using UW
    simp[resolve,Deferred.ofValue,e,invoke,callFunc,Cn,Za,tN]
   rw[eK,Oper.uponIn_enter];refine⟨λh=>by simp[Fence.wide] at h,(QA mJ).mono ?_⟩
   rintro e w' ⟨v',μ',rfl,hle,hv,pY,hB⟩;exact hK v' μ' w' hle hv pY hB
  ·rename_i i f1 c1 hf;have nN:=hE.eval f;rw[hf] at nN;obtain⟨_,_,l,hl,e⟩:=nN.UM;have hy:=(hC.told _ _ _ _ _ h).2 i rfl ro (n-1) μ w _ l hS (dR.map hE.eval args.toList) hl;have xL:(args.toList.map a.eval).toArray=args.map a.eval:=by rw[←Array.toList_inj];simp
   rw[xL] at hy;obtain⟨fn,tmps,assign,body,eK,hR⟩:=hy;have hex:(execOp a.eval o).run P w= .ok (.round l.b fn tmps assign body) w:=by
    unfold execOp;rw[ho];simp[resolve,Deferred.ofValue,e,invoke,eK]
   rw[hex,Oper.uponIn_round];refine⟨λh=>by simp[Fence.wide] at h,hR.mono ?_⟩
   rintro e w' ⟨v',μ',rfl,hle,hv,pY,hB⟩;exact hK v' μ' w' hle hv pY hB
  ·cases h
 ·obtain⟨v',μ',w',hr,hle,hv,pY,hB⟩:=Nq (o:=o) hS hE.eval h;rcases hr with hr|⟨hr,rfl⟩
  ·rw[hr];exact hK v' μ' w' hle hv pY hB
  ·rw[hr];exact hK undef μ' w' hle hv pY hB
theorem CC {ro:Option Nat}{n:Nat}{C:ag}{ops:Array Oper}{N:Nat}{Q:Exit→Act→World→Prop}(hC:xK P B C): ∀(l:List Oper) (E:Env) (H:ae) (E':Env) (H':ae) (μ:Mu) (a:Act) (w:World),
  fV P C ops l E H=some (E',H')→(∀o∈l,∀d,o.dst=some d→d<N)→N≤a.tmps.size→da P μ H w B→fX μ E.get a.tmps→
  (∀a' w' μ',μ.le μ'→fX μ' E'.get a'.tmps→a'.defers=a.defers→a'.tmps.size=a.tmps.size→da P μ' H' w' B→gE B w w'→Q .normal a' w')→wpListIn (FR ro) n P ops Q l a w:=by
 intro l;induction l with
 |nil=>
  intro E H E' H' μ a w h _ _ hS hE hQ;simp only[fV] at h;cases h;exact hQ a w μ μ.le_refl hE rfl rfl hS (gE.refl _ _)
 |cons o r ih=>
  intro E H E' H' μ a w h hd hN hS hE hQ;simp only[fV] at h;unfold wpListIn;have hdo: ∀t,o.dst=some t→t<a.tmps.size:=λt ht=>Nat.lt_of_lt_of_le (hd o (by simp) t ht) hN
  split at h
  ·rename_i hw;rw[nt hE (by rw[td];exact hw),if_pos rfl]
   cases hx:iC P C E H o with
   |none=>rw[hx] at h;cases h
   |some q=>
    obtain⟨v,H1⟩:=q;rw[hx] at h;simp only at h;rw[←te] at hx;refine uB hC hS hE hx ?_;intro v' μ' w' hle hv pY hB;refine ih _ _ _ _ μ' _ w' h (λo ho=>hd o (by simp[ho])) (by rw[cM];exact hN) pY ?_ ?_
    ·have:=fX.put (hE.mono hle) hv o.dst hdo
     intro t;rw[Env.aH];exact this t
    ·intro a' CD oo kP hE' hdf oY sf hB';exact hQ a' CD oo (Mu.le_trans hle kP) hE' (by rw[hdf,put_defers]) (by rw[oY,cM]) sf (hB.trans hB')
  ·rename_i hw;rw[nt hE (by rw[td];exact hw)]
   simp only[Bool.false_eq_true,if_false];refine⟨λ_ _=>trivial,ih _ _ _ _ μ _ w h (λo ho=>hd o (by simp[ho])) (by rw[cM];exact hN) hS ?_ ?_⟩
   ·have:=fX.put hE (dR.tuple (c:=#[]) (c':=#[]) .nil) o.dst hdo
    intro t;rw[Env.aH];exact this t
   ·intro a' CD oo kP hE' hdf oY sf hB';exact hQ a' CD oo kP hE' (by rw[hdf,put_defers]) (by rw[oY,cM]) sf hB'
  ·cases h
end Go.Proofs.YtjgmnoaalbbonaaGreatA.Am
end
