/- Texts of the proof of linearCut_holds, put together by a small program of ours (names shortened, spaces taken out). No condition beyond the given statement. -/
import Derived.Test.YtjgmnoaalbbonaaGreatLCT7
import Derived.Test.YtjgmnoaalbbonaaGreatLCT3
import Derived.Deep.LoopGhost
import Derived.Scope
import Derived.RangeFuncLeaves
set_option linter.unusedVariables false
set_option linter.unusedSimpArgs false
set_option linter.unnecessarySimpa false
noncomputable section
section
namespace Go.Proofs.YtjgmnoaalbbonaaGreatA.Am
open Go.RowKit (Below)
variable {P:Program} {μ:Mu} {H H':aa} {w:World} {B:Nat}
def rC:bJ→Exit
 | .normal=>.normal
 | .exit id=>.exit id
 | .ret=>.ret
def Cb (P:Program)(B:Nat)(keep:List Nat)(μ:Mu)(a:Act)(w:World)(r:bJ×List Value×aa)(x:Exit)(a':Act)(w':World):Prop:=
 x=rC r.1∧∃μ',μ.le μ'∧fi μ' (Env.get (keep.zip r.2.1)) a'.tmps∧Marks w w' a a'∧a'.tmps.size=a.tmps.size∧cQ P μ' r.2.2 w' B∧fI B w w'
theorem Cb.trans {keep:List Nat}{μ μ1:Mu}{a a1:Act}{w w1:World}{r:bJ×List Value×aa}{x:Exit}{a':Act}{w':World}(hle:μ.le μ1)(hd:Marks w w1 a a1)(hs:a1.tmps.size=a.tmps.size)(hb:fI B w w1)(h:Cb P B keep μ1 a1 w1 r x a' w'):Cb P B keep μ a w r x a' w':=by
 obtain⟨hx,μ',h1,h2,h3,h4,h5,h6⟩:=h;exact⟨hx,μ',Mu.le_trans hle h1,h2,hd.trans hb h6 h3,h4.trans hs,h5,hb.trans h6⟩
theorem HF (E:Nat→Value): ∀(keep:List Nat) (t:Nat),Env.get (keep.zip (keep.map E)) t=if t∈keep then E t else kI
 | [],t=>by simp[Env.get]
 |k::r,t=>by
  simp only[List.map_cons,List.zip_cons_cons,Env.get];by_cases e:t=k
  ·subst e;simp
  ·rw[if_neg e,HF E r t];simp[e]
theorem fi.keep {E:Nat→Value}{tmps:Array Value}(h:fi μ E tmps)(keep:List Nat):fi μ (Env.get (keep.zip (keep.map E))) tmps:=by
 intro t;rw[HF];split
 ·exact h t
 ·exact .kI _
theorem jk {b:Frame}{c:Code}{k:List Item}{a:Act}{cs:List Frame}:step P (lone (b.atR a (.code (.scope c)::k)) cs w)= .next (lone (b.atR a (.code c:: .inScope c::k)) cs w):=
 step_lone_go (by simp[stepG,stepG.exec,Frame.atR])
theorem Aj {b:Frame}{c:Code}{k:List Item}{a:Act}{cs:List Frame}:step P (lone (b.atR a (.inScope c::k)) cs w)= .next (lone (b.atR a k) cs w):=
 step_lone_go (by simp[stepG,stepG.exec,Frame.atR])
theorem qD {F:Fence}{n:Nat}{Q:Exit→Act→World→Prop}{a:Act}{c:Code}(h:c.wpIn F n P (Exit.noGoto Q) a w):(Code.scope c).wpIn F n P Q a w:=by
 intro b k cs fm hb hr;have h0:(lone (b.atR a (.code (.scope c)::k)) cs w).fenced P F:=fenced_calm hb hr rfl;obtain⟨e,a₁,w₁,hq,vg⟩:=h b (.inScope c::k) cs fm hb hr;cases e with
 |normal=>exact⟨.normal,a₁,w₁,hq,.head h0 jk (StepsIn.trans vg (.one (fenced_calm hb hr rfl) Aj))⟩
 |exit id=>
  have hx:exitTo id (.inScope c::k)=exitTo id k:=by simp[exitTo]
  exact⟨.exit id,a₁,w₁,hq,λk' hk=>.head h0 jk (vg.1 k' (by rw[hx];exact hk)),
   λUs hk=>let ⟨k₁,h1,h2⟩:=vg.2 Us (by rw[hx];exact hk);⟨k₁,h1,.head h0 jk h2⟩⟩
 |goto l=>exact hq.elim
 |ret=>exact⟨_,a₁,w₁,hq,.of_steps (.one h0 jk) vg⟩
 |panic ch=>exact⟨_,a₁,w₁,hq,.of_steps (.one h0 jk) vg⟩
 |outgrown=>exact⟨_,a₁,w₁,hq,.of_steps (.one h0 jk) vg⟩
theorem M7 {ro:Option Nat}{w w1:World}(fm: ∀l₀,ro=some l₀→∃r,w.heap[l₀]? =some (.loop r))(h:fI B w w1): ∀l₀,ro=some l₀→∃r,w1.heap[l₀]? =some (.loop r):=λl₀ e=>by
 obtain⟨r,hr⟩:=fm l₀ e;obtain⟨r',h1,_⟩:=h.loops _ _ hr;exact⟨r',h1⟩
theorem Ak {ro:Option Nat}{rm:Nat}{C:ae}{keep:List Nat}{N id:Nat}{ops:Array Oper}{draw:Bool}{vs:List Value}{a:Act}{r:bJ×List Value×aa}(hC:vf P B C)(hm:P.follows .mixedOrders=true)(fP:pc P N ops draw=true)(n:Nat)(h:ev P C keep n (.region id ops draw) vs H=some r)(hN:N≤a.tmps.size)(hS:cQ P μ H w B)(hE:fi μ (Env.get (keep.zip vs)) a.tmps):
  (Code.region id ops draw).wpIn (FR ro) rm P (Cb P B keep μ a w r) a w:=by
 simp only[ev] at h;cases hr:fF P C ops draw (keep.zip vs) H with
 |none=>rw[hr] at h;cases h
 |some q=>
  obtain⟨E',H'⟩:=q;rw[hr] at h;simp only at h;cases h;have fin: ∀a' w' μ',μ.le μ'→fi μ' E'.get a'.tmps→a'.defers=a.defers→a'.tmps.size=a.tmps.size→cQ P μ' H' w' B→fI B w w'→
    Cb P B keep μ a w (.normal,keep.map E'.get,H') .normal a' w':=
   λa' w' μ' h1 h2 h3 h4 h5 h6=>⟨rfl,μ',h1,h2.keep keep,.of_eq h3,h4,h5,h6⟩
  cases draw with
  |true=>exact En hC hm fP hr hN hS hE fin
  |false=>
   refine wpIn_region_list ?_;simp only[pc,Bool.and_eq_true,List.all_eq_true] at fP;refine Ac (N:=N) hC ops.toList _ _ _ _ μ a w (by simpa[fF] using hr) ?_ hN hS hE fin
   intro o ho d hd;have:=fP.1 o ho
   rw[hd] at this;simpa using this
theorem M8 {ro:Option Nat}{rm:Nat}{C:ae}{keep:List Nat}{N n:Nat}{g:Operand}{ps:Array Tmp}{x y:Code}{vs:List Value}{r:bJ×List Value×aa}{a:Act}(hC:vf P B C)(fm: ∀l₀,ro=some l₀→∃r,w.heap[l₀]? =some (.loop r))(fP:eX P N (.rangeFunc g ps x y)=true)(h:ev P C keep n (.rangeFunc g ps x y) vs H=some r)(hN:N≤a.tmps.size)(hS:cQ P μ H w B)(hE:fi μ (Env.get (keep.zip vs)) a.tmps):(Code.rangeFunc g ps x y).wpIn (FR ro) rm P (Cb P B keep μ a w r) a w:=by
 simp only[ev] at h;split at h
 case h_2=>cases h
 rename_i gf first captured hg
 split at h
 case isFalse=>cases h
 rename_i hgs;cases hc:C gf (first.toList++[.func (.yield H.length) #[] #[]]++captured.toList) (H.gj (.loop ⟨keep,vs,ps,x,y⟩ .ready)) with
 |none=>rw[hc] at h;cases h
 |some q=>
  obtain⟨v,H2⟩:=q;rw[hc] at h;simp only at h;obtain⟨⟨fn,zV,hb,Y7⟩,UA⟩:=(hC.told _ _ _ _ _ hc).1 hgs;have mr:=hE.eval g;rw[gN,hg] at mr;obtain⟨lA,gz,eg,e1,e2⟩:=mr.wD rfl;refine wpIn_rangeFunc ?_;intro fnn _;obtain⟨l,mk,w1,rc,UJ,Qy,p1,p2,p3,p4,p5,p6,hle,hB1,FY,hM1⟩:=FV fm hS fnn a ps x y;obtain⟨hmu,hS1⟩:=hS.gj FY hB1.size hle (o:=.loop ⟨keep,vs,ps,x,y⟩ .ready)
   ⟨rc,N,Qy,p1,p2,p3,by rw[p4];exact hN,by simpa[eX] using fP,by rw[p4];exact hE,p5,p6⟩
  have pj:dB (μ.up H.length ⟨l,0,0,0⟩) (first.toList++[.func (.yield H.length) #[] #[]]++captured.toList) (lA.toList++[.func (.yield l) #[] #[]]++gz.toList):=
   ((e1.mono hmu).append (.cons (.Tl _ ⟨l,0,0,0⟩ Mu.aH) .nil)).append (e2.mono hmu)
  have pr:=UA _ w1 _ hS1 pj;have vg:(lA.toList++[Value.func (.yield l) #[] #[]]++gz.toList).toArray=lA++ #[Value.func (.yield l) #[] #[]]++gz:=by
   rw[←Array.toList_inj];simp
  rw[vg] at pr;have z7: ¬fn.body=none:=by intro e;rw[e] at hb;simp at hb
  have UB: ¬fn.name= "runtime.NumGoroutine" :=by simpa using Y7
  refine⟨l,mk,w1,{target:=.fn (.func gf) gz,args:=lA++ #[.func (.yield l) #[] #[]]},w1,gf,lA++ #[.func (.yield l) #[] #[]]++gz,w1,UJ,?_,?_,?_,?_,?_⟩
  ·simp[resolve,eg,Deferred.ofValue];rfl
  ·intro _ _;trivial
  ·simp[invoke,callFunc,zV,UB,z7]
  ·intro h;simp[Fence.wide] at h
  have hci:CallsIn (FR ro) (rm-1) P gf (lA++ #[Value.func (.yield l) #[] #[]]++gz) w1 _:=MQ pr;refine hci.mono ?_;rintro e w2 ⟨v',μ2,rfl,Cc,_,Qz,HG⟩;have DP:μ2 H.length=some ⟨l,0,0,0⟩:=Cc _ _ Mu.aH;have Jp:=Mu.le_trans hmu Cc;cases ho:H2.cT H.length with
  |none=>rw[ho] at h;simp[zZ] at h
  |some o=>
   rw[ho] at h;cases o with
   |jC k es=>simp[zZ] at h
   |loop L s=>
    obtain⟨l2,DO,UK,r2,N2,k1,k2,k3,k4,k5,k6,k7,k8⟩:=Qz.cT.ok _ _ ho;rw[DP] at DO;cases DO;have hnb:r2.state≠ .busy:=by
     intro e;cases s with
     |ready=>rw[k8.1] at e;cases e
     |busy=>simp[zZ] at h
     |ret=>rw[k8.1] at e;cases e
     |exit id=>rw[k8.1] at e;cases e
    have kN:=run_endLoop (P:=P) k1 hnb;have Za:cQ P μ2 (H2.kill H.length) (w2.putObj l (.loop {r2 with state:=.exhausted})) B:=Qz.ZJ ho DP
    have Z3:fI B w2 (w2.putObj l (.loop {r2 with state:=.exhausted})):=fI.sw k1 UK rfl
    have hB4:=hB1.trans (HG.trans Z3);have hM:Marks w (w2.putObj l (.loop {r2 with state:=.exhausted})) a {a with defers:=mk++a.defers}:=hM1.trans hB1 (HG.trans Z3) (.of_eq rfl)
    generalize w2.putObj l (.loop {r2 with state:=.exhausted})=W at kN Za Z3 hB4 hM
    refine⟨r2.pending,W,kN,?_⟩;cases s with
    |ready=>
     simp only[zZ] at h;cases h;rw[k8.2];exact⟨rfl,μ2,Jp,hE.mono Jp,hM,rfl,Za,hB4⟩
    |busy=>simp[zZ] at h
    |ret=>
     simp only[zZ] at h;cases h;rw[k8.2];exact wpIn_ret ⟨rfl,μ2,Jp,hE.mono Jp,hM,rfl,Za,hB4⟩
    |exit id=>
     simp only[zZ] at h;cases h;rw[k8.2];exact wpIn_exit ⟨rfl,μ2,Jp,hE.mono Jp,hM,rfl,Za,hB4⟩
theorem jl {ro:Option Nat}{rm:Nat}{C:ae}{keep:List Nat}{N n:Nat}(hC:vf P B C)(hm:P.follows .mixedOrders=true): ∀(c:Code) (vs:List Value) (H:aa) (r:bJ×List Value×aa) (μ:Mu) (a:Act) (w:World),
  (∀l₀,ro=some l₀→∃r,w.heap[l₀]? =some (.loop r))→eX P N c=true→ev P C keep n c vs H=some r→N≤a.tmps.size→cQ P μ H w B→fi μ (Env.get (keep.zip vs)) a.tmps→c.wpIn (FR ro) rm P (Cb P B keep μ a w r) a w:=by
 intro c;induction c with
 |skip=>
  intro vs H r μ a w fm _ h hN hS hE;simp only[ev] at h;cases h;exact wpIn_skip ⟨rfl,μ,μ.le_refl,hE,.of_eq rfl,rfl,hS,fI.refl _ _⟩
 |label l=>
  intro vs H r μ a w fm _ h hN hS hE;simp only[ev] at h;cases h;exact wpIn_label ⟨rfl,μ,μ.le_refl,hE,.of_eq rfl,rfl,hS,fI.refl _ _⟩
 |exit id=>
  intro vs H r μ a w fm _ h hN hS hE;simp only[ev] at h;cases h;exact wpIn_exit ⟨rfl,μ,μ.le_refl,hE,.of_eq rfl,rfl,hS,fI.refl _ _⟩
 |ret=>
  intro vs H r μ a w fm _ h hN hS hE;simp only[ev] at h;cases h;exact wpIn_ret ⟨rfl,μ,μ.le_refl,hE,.of_eq rfl,rfl,hS,fI.refl _ _⟩
 |goto l=>intro vs H r μ a w _ _ h;simp only[ev] at h;cases h
 |refuse s=>intro vs H r μ a w _ _ h;simp only[ev] at h;cases h
 |rangeFunc f ps x y _ _=>intro vs H r μ a w fm fP h hN hS hE;exact M8 hC fm fP h hN hS hE
 |region id ops draw=>
  intro vs H r μ a w fm fP h hN hS hE;exact Ak hC hm fP n h hN hS hE
 |seq x y Ux Uy=>
  intro vs H r μ a w fm fP h hN hS hE;simp only[eX,Bool.and_eq_true] at fP;simp only[ev] at h;cases hx:ev P C keep n x vs H with
  |none=>rw[hx] at h;cases h
  |some q=>
   refine wpIn_seq (wpIn_mono (Ux vs H q μ a w fm fP.1 hx hN hS hE) ?_);rintro e a1 w1 hp;obtain⟨e1,Ed,H1⟩:=q;rw[hx] at h;have Cd:=hp;obtain⟨rfl,μ1,h1,h2,h3,h4,h5,h6⟩:=hp;cases e1 with
   |normal=>
    simp only at h;exact wpIn_mono (Uy Ed H1 r μ1 a1 w1 (M7 fm h6) fP.2 h (by rw[h4];exact hN) h5 h2) λ_ _ _ hq=>hq.trans h1 h3 h4 h6
   |exit id=>simp only at h;cases h;exact Cd
   |ret=>simp only at h;cases h;exact Cd
 |cond c x y Ux Uy=>
  intro vs H r μ a w fm fP h hN hS hE;simp only[eX,Bool.and_eq_true] at fP;simp only[ev] at h;split at h
  ·rename_i t hc;have hv:=hE.eval c;rw[gN,hc] at hv;refine wpIn_cond hv.bool ?_;cases t with
   |true=>simp only[if_true] at h ⊢;exact Ux vs H r μ a w fm fP.1 h hN hS hE
   |false=>simp only[Bool.false_eq_true,if_false] at h ⊢;exact Uy vs H r μ a w fm fP.2 h hN hS hE
  ·cases h
 |block id c ih=>
  intro vs H r μ a w fm fP h hN hS hE;simp only[ev] at h;cases hx:ev P C keep n c vs H with
  |none=>rw[hx] at h;cases h
  |some q=>
   refine wpIn_block (wpIn_mono (ih vs H q μ a w fm fP hx hN hS hE) ?_);rintro e a1 w1 hp;obtain⟨e1,Ed,H1⟩:=q;rw[hx] at h;have Cd:=hp;obtain⟨rfl,rest⟩:=hp;cases e1 with
   |normal=>simp only at h;cases h;exact Cd
   |ret=>simp only at h;cases h;exact Cd
   |exit Zv=>
    simp only at h;by_cases e:Zv=id
    ·rw[if_pos e] at h;cases h;simp only[rC,Exit.inBlock,e,if_true];exact⟨rfl,rest⟩
    ·rw[if_neg e] at h;cases h;simp only[rC,Exit.inBlock,e,if_false];exact⟨rfl,rest⟩
 |scope c ih=>
  intro vs H r μ a w fm fP h hN hS hE;simp only[ev] at h;refine qD (wpIn_mono (ih vs H r μ a w fm fP h hN hS hE) ?_);rintro e a1 w1 hp;have Cd:=hp;obtain⟨rfl,rest⟩:=hp;cases hr:r.1<;>simp only[rC,Exit.noGoto,hr] at Cd ⊢ <;>exact Cd
 |loop c ih=>
  intro vs H r μ a w fm fP h hN hS hE;simp only[ev] at h;refine wpIn_loop_ghost (λk a1 w1=>∃Ed H1 μ1,iter k (ev P C keep n c) Ed H1=some r∧μ.le μ1∧fi μ1 (Env.get (keep.zip Ed)) a1.tmps∧Marks w w1 a a1∧a1.tmps.size=a.tmps.size∧cQ P μ1 H1 w1 B∧fI B w w1) n
   ⟨vs,H,μ,h,μ.le_refl,hE,.of_eq rfl,rfl,hS,fI.refl _ _⟩ ?_
  rintro k a1 w1 ⟨Ed,H1,μ1,oT,g1,g2,g3,g4,g5,g6⟩;cases k with
  |zero=>simp only[iter] at oT;cases oT
  |succ k=>
   simp only[iter] at oT;cases hx:ev P C keep n c Ed H1 with
   |none=>rw[hx] at oT;cases oT
   |some q=>
    refine wpIn_mono (ih Ed H1 q μ1 a1 w1 (M7 fm g6) fP hx (by rw[g4];exact hN) g5 g2) ?_
    rintro e a2 w2 hp;obtain⟨e1,Uz,H2⟩:=q;rw[hx] at oT;have Cd:=hp;obtain⟨rfl,μ2,h1,h2,h3,h4,h5,h6⟩:=hp;cases e1 with
    |normal=>
     simp only at oT;exact⟨k,Nat.lt_succ_self k,Uz,H2,μ2,oT,Mu.le_trans g1 h1,h2,g3.trans g6 h6 h3,h4.trans g4,h5,g6.trans h6⟩
    |exit id=>simp only at oT;cases oT;exact Cd.trans g1 g3 g4 g6
    |ret=>simp only at oT;cases oT;exact Cd.trans g1 g3 g4 g6
theorem Eo: ∀(ps:List Nat) (args dS:List Value) (E:Env) (tmps:Array Value),fi μ E.get tmps→dB μ args dS→(∀p∈ps,p<tmps.size)→
  fi μ (AU E (ps.zip args)).get ((ps.zip dS).foldl (λt p=>t.setIfInBounds p.1 p.2) tmps)∧((ps.zip dS).foldl (λ(t:Array Value) p=>t.setIfInBounds p.1 p.2) tmps).size=tmps.size:=by
 intro ps;induction ps with
 |nil=>intro args dS E tmps h _ _;exact⟨h,rfl⟩
 |cons p ps ih=>
  intro args dS E tmps h ha hp;cases args with
  |nil=>rw[ha.iB];exact⟨h,rfl⟩
  |cons v args=>
   obtain⟨v',y,rfl,h1,h2⟩:=ha.fS;simp only[List.zip_cons_cons,AU,List.foldl_cons];have:=ih args y (E.put (some p) v) (tmps.setIfInBounds p v') ?_ h2 (λq hq=>by simpa using hp q (by simp[hq]))
   ·refine⟨this.1,by rw[this.2];simp⟩
   ·intro t;rw[Env.aD];have BQ:=hp p (by simp)
    by_cases e:p=t
    ·subst e;simp[BQ,h1]
    ·rw[if_neg (λx=>e (Option.some.inj x))]
     have:=h t
     simpa[Array.getD_eq_getD_getElem?,Array.getElem?_setIfInBounds_ne e] using this
theorem xf (ps:Array Tmp)(args:Array Value)(tmps:Array Value):
  (ps.zip args).foldl (λtmps (t,a)=>tmps.setIfInBounds t a) tmps=(ps.toList.zip args.toList).foldl (λt p=>t.setIfInBounds p.1 p.2) tmps:=by
 rw[←Array.foldl_toList,Array.toList_zip]
theorem Gi {i:Nat}{e:bJ}{v:Value}{l:Loc}(h:BK i e H=some (v,H'))(hS:cQ P μ H w B)(hl:μ i=some l):
  ∃w',(Instr.endRound l.b (match e with| .normal=>none| .ret=>some .ret| .exit id=>some (.exit id))).run P w= .ok v w'∧bY v=true∧cQ P μ H' w' B∧fI B w w':=by
 unfold BK at h;split at h
 case h_2=>cases h
 rename_i L ho;cases h;obtain⟨l2,DO,UK,r2,N2,k1,k2,k3,k4,k5,k6,k7,k8⟩:=hS.cT.ok _ _ ho;rw[hl] at DO;cases DO;have eR:=(Array.getElem?_eq_some_iff.1 k1).1;cases e with
 |normal=>exact⟨_,run_endRound _ k1,rfl,hS.eQ (o':=.loop L (.of .normal)) ho hl ⟨_,N2,World.putObj_heap_same eR,k2,k3,k4,k5,k6,k7,⟨rfl,rfl⟩⟩,fI.sw k1 UK rfl⟩
 |ret=>exact⟨_,run_endRound _ k1,rfl,hS.eQ (o':=.loop L (.of .ret)) ho hl ⟨_,N2,World.putObj_heap_same eR,k2,k3,k4,k5,k6,k7,⟨rfl,rfl⟩⟩,fI.sw k1 UK rfl⟩
 |exit id=>exact⟨_,run_endRound _ k1,rfl,hS.eQ (o':=.loop L (.of (.exit id))) ho hl ⟨_,N2,World.putObj_heap_same eR,k2,k3,k4,k5,k6,k7,⟨rfl,rfl⟩⟩,fI.sw k1 UK rfl⟩
theorem Ce {C:ae}{n i:Nat}{args:List Value}{v:Value}(hC:vf P B C)(hm:P.follows .mixedOrders=true)(h:pb P C n i args H=some (v,H')):MR P B i args H v H':=by
 intro ro rn μ w dS l hS pj hl;unfold pb at h;split at h
 case h_2=>cases h
 rename_i L ho;split at h
 case isFalse=>cases h
 rename_i hlen;obtain⟨l2,DO,UK,r,N,k1,k2,k3,k4,k5,k6,k7,k8,k9⟩:=hS.cT.ok _ _ ho;rw[hl] at DO;cases DO;simp only[eX,Bool.and_eq_true,List.all_eq_true,decide_eq_true_eq] at k6;obtain⟨⟨hps,hka⟩,hkb⟩:=k6;have nA:dS.toArray.size=r.params.size:=by rw[k2];have:=pj.1;simp;omega
 have UL:=Eo L.ps.toList args dS (L.keep.zip L.vs) r.tmps k7 pj (λp hp=>Nat.lt_of_lt_of_le (hps p hp) k5)
 refine⟨r.fn,_,r.assign,r.body,run_yield k1 nA,roundIn_of_wpIn trivial ?_⟩;rw[k2,xf,k3,k4];have hlp: ∀{w1:World} {r1:Loop},w1.heap[l.b]? =some (.loop r1)→∀l₀,some l.b=some l₀→∃r,w1.heap[l₀]? =some (.loop r):=λhr l₀ e=>by cases e;exact⟨_,hr⟩
 cases ha:ev P C L.keep n L.assign (L.keep.map (AU (L.keep.zip L.vs) (L.ps.toList.zip args)).get) H with
 |none=>rw[ha] at h;cases h
 |some q=>
  obtain⟨e1,Ed,H1⟩:=q;rw[ha] at h;cases e1 with
  |ret=>cases h
  |exit id=>cases h
  |normal=>
   simp only at h;refine wpIn_mono (jl (ro:=some l.b) (rm:=rn) (N:=N) hC hm L.assign _ H _ μ {tmps:=_,defers:=[]} w (hlp k1) hka ha (by simpa[UL.2] using k5) hS (UL.1.keep L.keep)) ?_
   rintro e a1 w1 ⟨rfl,μ1,h1,h2,h3,h4,h5,h6⟩;simp only[rC];split at h
   case h_2=>cases h
   rename_i L1 Qt;obtain⟨l3,UM,adQ,r3,N3,m1,m2,m3,m4,m5,m6,m7,m8,m9⟩:=h5.cT.ok _ _ Qt;have Qy:=h1 _ _ hl;rw[Qy] at UM;cases UM;have eR:=(Array.getElem?_eq_some_iff.1 m1).1;refine⟨_,run_beginRound m1 m8,?_⟩;have Qz:cQ P μ1 (H1.eQ i (.loop L1 .busy)) (w1.putObj l.b (.loop {r3 with state:=.busy})) B:=
    h5.eQ Qt Qy ⟨_,N3,World.putObj_heap_same eR,m2,m3,m4,m5,m6,m7,rfl⟩
   have HG:fI B w1 (w1.putObj l.b (.loop {r3 with state:=.busy})):=fI.sw m1 UK rfl
   cases hb:ev P C L.keep n L.body Ed (H1.eQ i (.loop L1 .busy)) with
   |none=>rw[hb] at h;cases h
   |some q2=>
    obtain⟨e2,Uz,H2⟩:=q2;rw[hb] at h;simp only at h;refine wpIn_mono (jl (ro:=some l.b) (rm:=rn) (N:=N) hC hm L.body Ed _ _ μ1 a1 _ (hlp (World.putObj_heap_same eR)) hkb hb (by rw[h4];simpa[UL.2] using k5) Qz h2) ?_
    rintro e a2 w2 ⟨rfl,μ2,g1,g2,g3,g4,g5,g6⟩;obtain⟨w3,dU,hp,Za,Z3⟩:=Gi h g5 (g1 _ _ Qy);have hB:=h6.trans (HG.trans (g6.trans Z3));cases e2<;>exact⟨v,w3,dU,v,μ2,rfl,Mu.le_trans h1 g1,.plain _ hp,Za,hB⟩
def Cf (tmps:Array Value):ResultVar→Sem Value
 | .tmp t=>pure (tmps.getD t undef)
 | .cell ad t=>do loadVar t (←asAddr (tmps.getD ad undef))
theorem Gj (fn:Func)(tmps:Array Value):results fn tmps=(do let vs ←fn.results.mapM (Cf tmps);pure (if h:vs.size=1 then vs[0] else .tuple vs)):=by
 unfold results
 congr 1
theorem Gk {fn:Func}{E:Env}{a:Act}{v:Value}(hS:cQ P μ H w B)(hE:fi μ E.get a.tmps)(h:BL P fn E H=some v): ∃v',(results fn a.tmps).run P w= .ok v' w∧VR μ v v':=by
 unfold BL at h;rw[Option.map_eq_some_iff] at h;obtain⟨vs,hvs,rfl⟩:=h;have key: ∀(l:List ResultVar) (vs:List Value),l.mapM (λ(r:ResultVar)=>match r with
   | .tmp t=>some (E.get t)
   | .cell ad t=>ju P t (E.get ad) H)=some vs→
   ∃iM,(l.mapM (Cf a.tmps)).run P w= .ok iM w∧dB μ vs iM:=by
  intro l;induction l with
  |nil=>intro vs h;simp at h;subst h;exact⟨[],rfl,.nil⟩
  |cons r l ih=>
   intro vs h;rw[List.mapM_cons] at h;simp only[Option.bind_eq_bind,Option.bind_eq_some_iff] at h;obtain⟨v,hv,Uz,h2,e⟩:=h;cases e;obtain⟨iM,hr,sB⟩:=ih Uz h2;have h1: ∃v',(Cf a.tmps r).run P w= .ok v' w∧VR μ v v':=by
    cases r with
    |tmp t=>simp only at hv;cases hv;exact⟨_,rfl,hE t⟩
    |cell ad t=>
     simp only at hv;have hp:=hE ad;obtain⟨v',Gl,M9⟩:=uP (P:=P) hS hp hv;refine⟨v',?_,M9⟩;have ab7: ∃x,E.get ad= .pointer (some x):=by
      unfold ju at hv;split at hv
      ·rename_i e;exact⟨_,e⟩
      ·cases hv
     obtain⟨x,e⟩:=ab7;rw[e] at hp;obtain⟨i,off,l,_,_,e2⟩:=hp.nu;rw[e2] at Gl;unfold Cf;simp only[e2];simpa[Instr.loadAt,Instr.sureAddr,asAddr] using Gl
   obtain⟨v',MH,u9⟩:=h1;refine⟨v'::iM,?_,.cons u9 sB⟩;rw[List.mapM_cons];simp only[Sem.run_bind,MH,Result.andThen_ok,hr,Sem.run_pure]
 obtain⟨iM,hr,sB⟩:=key _ _ hvs;have dU:(results fn a.tmps).run P w= .ok (if h:iM.toArray.size=1 then iM.toArray[0] else .tuple iM.toArray) w:=by
  rw[Gj,Array.mapM_eq_mapM_toList];simp only[Sem.run_bind,Sem.run_map,hr,Result.andThen_ok,Sem.run_pure]
 refine⟨_,dU,?_⟩
 match vs,sB with
 | [],sB=>rw[sB.iB];exact dB.tuple (c:=#[]) (c':=#[]) .nil
 | [v],sB=>
  obtain⟨v',y,rfl,h1,h2⟩:=sB.fS;rw[h2.iB];exact h1
 |v1::v2::r,sB=>
  obtain⟨u1,y,rfl,h1,h2⟩:=sB.fS;obtain⟨u2,y2,rfl,h3,h4⟩:=h2.fS;have: ¬(u1::u2::y2).toArray.size=1:=by simp
  rw[dif_neg this];exact dB.tuple (by simpa using sB)
theorem sK {fn:Func}{tmps:Array Value}{rm:Nat}{R:Ending→World→Prop}{w0:World}(hB0:B≤w0.heap.size): ∀(Ds:List Nat) (w:World),Ds.Nodup→(∀D∈Ds,w0.heap.size≤D∧w.heap[D]? =some (.deferred (some [])))→
  cQ P μ H w B→fI B w0 w→(∀w',cQ P μ H w' B→fI B w0 w'→LeavesIn (FR none) rm P fn tmps R [] .returning w')→LeavesInM (FR none) rm P fn tmps R (Ds.map Tq) .returning w:=by
 intro Ds;induction Ds with
 |nil=>intro w _ _ hS hB hk;exact hk w hS hB
 |cons D Ds ih=>
  intro w hn hD hS hB hk;rw[List.nodup_cons] at hn;obtain⟨hn1,hn2⟩:=hn;obtain⟨h1,h2⟩:=hD D (by simp)
  refine⟨by simp,.inl ⟨D,_,rfl,run_takeDeferred h2,ih _ hn2 ?_ (hS.Qp h2 rfl (λ_ e=>by cases e) (λ_ _ e=>by cases e)) (hB.Uv h2 (Nat.le_trans hB0 h1) h1) hk⟩⟩
  intro E hE;refine⟨(hD E (by simp[hE])).1,?_⟩
  rw[World.putObj_heap_other (by rintro rfl;exact hn1 hE)]
  exact(hD E (by simp[hE])).2
theorem Z4 {f:FuncId}{i:Nat}(h:f<P.funcs.size)(e:f=P.funcs.size+i):False:=by
 subst e;exact absurd h (Nat.not_lt.2 (Nat.le_add_right _ _))
theorem pA {bad:List FuncId}{G:ae}(fP:nt P bad=true)(hGh:gM G)(hG: ∀f args H v H',bad.contains f=true→G f args H=some (v,H')→
   (∃fn,P.funcs[f]? =some fn∧fn.body.isSome=true∧(fn.name== "runtime.NumGoroutine")=false)∧ue P B f args H v H'): ∀n,vf P B (fh P bad G n):=by
 simp only[nt,Bool.and_eq_true] at fP;obtain⟨hm,fC⟩:=fP;intro n;induction n with
 |zero=>exact⟨λf args H v H' h=>(by simp only[fh] at h;cases h),Bc hGh _⟩
 |succ n ih=>
  refine⟨λf args H v H' h=>?_,Bc hGh _⟩
  simp only[fh] at h;split at h
  ·rename_i hb;obtain⟨⟨fn,zV,h1⟩,h2⟩:=hG f args H v H' hb h;have eR:=(Array.getElem?_eq_some_iff.1 zV).1;exact⟨λ_=>⟨⟨fn,zV,h1⟩,h2⟩,λi e=>(Z4 eR e).elim⟩
  ·rename_i hb;split at h
   ·rename_i fn zV;have eR:f<P.funcs.size:=(Array.getElem?_eq_some_iff.1 zV).1;refine⟨λ_=>?_,λi e=>(Z4 eR e).elim⟩
    split at h
    ·rename_i c hc;have hof:=List.all_eq_true.1 fC f (List.mem_range.2 eR);have z7:bad.contains f=false:=by simpa using hb
     rw[z7,zV] at hof;simp only[Bool.false_or,FJ,hc,Bool.and_eq_true,Bool.not_eq_true'] at hof;obtain⟨Z5,Z6⟩:=hof;refine⟨⟨fn,zV,by rw[hc];rfl,Z5⟩,?_⟩
     intro μ w dS hS pj;refine(callsIn_wide (n:=0)).1 (callsIn_of_wp_marks (F:=FR none) zV hc trivial ?_);have HH:fi μ (Env.get ((ns fn).zip ((ns fn).map λt=>args.getD t undef))) (dS.toArray++Array.replicate (fn.ntmps-dS.toArray.size) undef):=by
      refine fi.keep (E:=λt=>args.getD t undef) ?_ _
      intro t;have hu:VR μ undef undef:=dB.tuple (c:=#[]) (c':=#[]) .nil;show VR μ (args.getD t undef) _
      rw[List.getD_eq_getElem?_getD,Array.getD_eq_getD_getElem?,Array.getElem?_append];cases hx:args[t]? with
      |none=>
       have h1:args.length≤t:=List.getElem?_eq_none_iff.1 hx;rw[if_neg (by have:=pj.1;simp;omega),Array.getElem?_replicate]
       split<;>exact hu
      |some x=>
       obtain⟨x',e,r⟩:=pj.2 t x hx;have h1:t<dS.length:=(List.getElem?_eq_some_iff.1 e).1;rw[if_pos (by simpa using h1)]
       simpa[e] using r
     have go: ∀r,ev P (fh P bad G n) (ns fn) n c ((ns fn).map λt=>args.getD t undef) H=some r→(r.1= .normal∨r.1= .ret)→(BL P fn ((ns fn).zip r.2.1) r.2.2).map (·,r.2.2)=some (v,H')→
       c.wpIn (FR none) 0 P (bodyPostM (FR none) 0 P fn (Be P B μ w v H'))
        {tmps:=dS.toArray++Array.replicate (fn.ntmps-dS.toArray.size) undef,defers:=[]} w:=by
      intro r Bd hx Ah;rw[Option.map_eq_some_iff] at Ah;obtain⟨v2,Ah,e⟩:=Ah;cases e;refine wpIn_mono (jl (ro:=none) (N:=fn.ntmps) ih hm c _ H r μ _ w (λ_ e=>by cases e) Z6 Bd (by simp;omega) hS HH) ?_
      rintro e a' w' ⟨rfl,μ',h1,h2,⟨Ds,d1,d2,d3⟩,h4,h5,h6⟩;have key:LeavesInM (FR none) 0 P fn a'.tmps (Be P B μ w v r.2.2) a'.defers .returning w':=by
       rw[d1,List.append_nil];refine sK hS.base Ds w' d2 d3 h5 h6 ?_;intro Ad h5 h6;obtain⟨v',Gl,M9⟩:=Gk (P:=P) h5 h2 Ah;exact⟨v',Gl,v',μ',rfl,h1,M9,h5,h6⟩
      rcases hx with hx|hx<;>rw[hx]<;>exact key
     split at h
     ·rename_i vs H2 Bd;exact go _ Bd (.inl rfl) h
     ·rename_i vs H2 Bd;exact go _ Bd (.inr rfl) h
     ·cases h
    ·cases h
   ·rename_i zV;have ZA:P.funcs.size≤f:=by
     by_cases hl:f<P.funcs.size
     ·rw[Array.getElem?_eq_getElem hl] at zV;cases zV
     ·exact Nat.le_of_not_lt hl
    refine⟨λhl=>absurd hl (Nat.not_lt.2 ZA),?_⟩
    rintro i rfl;rw[show P.funcs.size+i-P.funcs.size=i by omega] at h
    exact Ce ih hm h
theorem Ep {bad:List FuncId}{G:ae}{n:Nat}{f:FuncId}{args:List Value}{r:Value×aa}(hS:cQ P μ H w w.heap.size)(hb:bad.contains f=true→G f args H=some r→f<P.funcs.size)(h:fh P bad G n f args H=some r):f<P.funcs.size:=by
 cases n with
 |zero=>simp only[fh] at h;cases h
 |succ n=>
  simp only[fh] at h;split at h
  ·rename_i Ge;exact hb Ge h
  ·split at h
   ·rename_i fn zV;exact(Array.getElem?_eq_some_iff.1 zV).1
   ·unfold pb at h;split at h
    ·rename_i L ho;obtain⟨l,_,h1,h2⟩:=hS.cT.ok _ _ ho;have:=h2.lt
     omega
    ·cases h
def Mt:ae:=λ_ _ _=>none
theorem Na:gM Mt:=λ_ _ _ _ _ _ _ _ h=>by simp[Mt] at h
theorem cQ.empty (w:World):cQ P (λ_=>none) [] w w.heap.size:=
 ⟨Nat.le_refl _,λi b h=>by simp[aa.get] at h,λ_ _=>rfl,λi j b c l m h=>by simp[aa.get] at h,λi b l h=>by simp[aa.get] at h,⟨λi o h=>by simp[aa.cT] at h,λi j o p l m h=>by simp[aa.cT] at h⟩,λi h=>by simp at h⟩
end Go.Proofs.YtjgmnoaalbbonaaGreatA.Am
end
