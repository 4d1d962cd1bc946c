/- Texts of the proof of helpLogic_holds, put together by a small program of ours (names shortened, spaces taken out). No condition beyond the given statement. -/
import Derived.Test.YtgfgglponbmgmaaGreatHLG7
import Derived.Test.YtgfgglponbmgmaaGreatHLG3
import Derived.Deep.LoopGhost
import Derived.Scope
import Derived.RangeFuncLeaves
set_option linter.unusedVariables false
set_option linter.unusedSimpArgs false
set_option linter.unnecessarySimpa false
noncomputable section
section
namespace Go.Proofs.YtgfgglponbmgmaaGreatA.Am
open Go.RowKit (Below)
variable {P:Program} {μ:Mu} {H H':aa} {w:World} {B:Nat}
def wE:bE→Exit
 | .normal=>.normal
 | .exit id=>.exit id
 | .ret=>.ret
def Fm (P:Program)(B:Nat)(keep:List Nat)(μ:Mu)(a:Act)(w:World)(r:bE×List Value×aa)(x:Exit)(a':Act)(w':World):Prop:=
 x=wE r.1∧∃μ',μ.le μ'∧gP μ' (Env.get (keep.zip r.2.1)) a'.tmps∧Marks w w' a a'∧a'.tmps.size=a.tmps.size∧cJ P μ' r.2.2 w' B∧eN B w w'
theorem Fm.trans {keep:List Nat}{μ μ1:Mu}{a a1:Act}{w w1:World}{r:bE×List Value×aa}{x:Exit}{a':Act}{w':World}(hle:μ.le μ1)(hd:Marks w w1 a a1)(hs:a1.tmps.size=a.tmps.size)(hb:eN B w w1)(h:Fm P B keep μ1 a1 w1 r x a' w'):Fm P B keep μ a w r x a' w':=by
 obtain⟨hx,μ',h1,h2,h3,h4,h5,h6⟩:=h;exact⟨hx,μ',Mu.le_trans hle h1,h2,hd.trans hb h6 h3,h4.trans hs,h5,hb.trans h6⟩
theorem Gy (E:Nat→Value): ∀(keep:List Nat) (t:Nat),Env.get (keep.zip (keep.map E)) t=if t∈keep then E t else Gn
 | [],t=>by simp[Env.get]
 |k::r,t=>by
  simp only[List.map_cons,List.zip_cons_cons,Env.get];by_cases e:t=k
  ·subst e;simp
  ·rw[if_neg e,Gy E r t];simp[e]
theorem gP.keep {E:Nat→Value}{tmps:Array Value}(h:gP μ E tmps)(keep:List Nat):gP μ (Env.get (keep.zip (keep.map E))) tmps:=by
 intro t;rw[Gy];split
 ·exact h t
 ·exact .Gn _
theorem iR {b:Frame}{c:Code}{k:List Item}{a:Act}{cs:List Frame}:step P (lone (b.atR a (.code (.scope c)::k)) cs w)= .next (lone (b.atR a (.code c:: .inScope c::k)) cs w):=
 step_lone_go (by simp[stepG,stepG.exec,Frame.atR])
theorem zB {b:Frame}{c:Code}{k:List Item}{a:Act}{cs:List Frame}:step P (lone (b.atR a (.inScope c::k)) cs w)= .next (lone (b.atR a k) cs w):=
 step_lone_go (by simp[stepG,stepG.exec,Frame.atR])
theorem pI {F:Fence}{n:Nat}{Q:Exit→Act→World→Prop}{a:Act}{c:Code}(h:c.wpIn F n P (Exit.noGoto Q) a w):(Code.scope c).wpIn F n P Q a w:=by
 intro b k cs iB hb hr;have h0:(lone (b.atR a (.code (.scope c)::k)) cs w).fenced P F:=fenced_calm hb hr rfl;obtain⟨e,a₁,w₁,hq,uy⟩:=h b (.inScope c::k) cs iB hb hr;cases e with
 |normal=>exact⟨.normal,a₁,w₁,hq,.head h0 iR (StepsIn.trans uy (.one (fenced_calm hb hr rfl) zB))⟩
 |exit id=>
  have hx:exitTo id (.inScope c::k)=exitTo id k:=by simp[exitTo]
  exact⟨.exit id,a₁,w₁,hq,λk' hk=>.head h0 iR (uy.1 k' (by rw[hx];exact hk)),
   λUi hk=>let ⟨k₁,h1,h2⟩:=uy.2 Ui (by rw[hx];exact hk);⟨k₁,h1,.head h0 iR h2⟩⟩
 |goto l=>exact hq.elim
 |ret=>exact⟨_,a₁,w₁,hq,.of_steps (.one h0 iR) uy⟩
 |panic ch=>exact⟨_,a₁,w₁,hq,.of_steps (.one h0 iR) uy⟩
 |outgrown=>exact⟨_,a₁,w₁,hq,.of_steps (.one h0 iR) uy⟩
theorem Ta {ro:Option Nat}{w w1:World}(iB: ∀l₀,ro=some l₀→∃r,w.heap[l₀]? =some (.loop r))(h:eN B w w1): ∀l₀,ro=some l₀→∃r,w1.heap[l₀]? =some (.loop r):=λl₀ e=>by
 obtain⟨r,hr⟩:=iB l₀ e;obtain⟨r',h1,_⟩:=h.loops _ _ hr;exact⟨r',h1⟩
theorem zC {ro:Option Nat}{rm:Nat}{C:ae}{keep:List Nat}{N id:Nat}{ops:Array Oper}{draw:Bool}{vs:List Value}{a:Act}{r:bE×List Value×aa}(hC:zx P B C)(hm:P.follows .mixedOrders=true)(eA:oh P N ops draw=true)(n:Nat)(h:ev P C keep n (.region id ops draw) vs H=some r)(hN:N≤a.tmps.size)(hS:cJ P μ H w B)(hE:gP μ (Env.get (keep.zip vs)) a.tmps):
  (Code.region id ops draw).wpIn (FR ro) rm P (Fm P B keep μ a w r) a w:=by
 simp only[ev] at h;cases hr:eV P C ops draw (keep.zip vs) H with
 |none=>rw[hr] at h;cases h
 |some q=>
  obtain⟨E',H'⟩:=q;rw[hr] at h;simp only at h;cases h;have fin: ∀a' w' μ',μ.le μ'→gP μ' E'.get a'.tmps→a'.defers=a.defers→a'.tmps.size=a.tmps.size→cJ P μ' H' w' B→eN B w w'→
    Fm P B keep μ a w (.normal,keep.map E'.get,H') .normal a' w':=
   λa' w' μ' h1 h2 h3 h4 h5 h6=>⟨rfl,μ',h1,h2.keep keep,.of_eq h3,h4,h5,h6⟩
  cases draw with
  |true=>exact DC hC hm eA hr hN hS hE fin
  |false=>
   refine wpIn_region_list ?_;simp only[oh,Bool.and_eq_true,List.all_eq_true] at eA;refine zy (N:=N) hC ops.toList _ _ _ _ μ a w (by simpa[eV] using hr) ?_ hN hS hE fin
   intro o ho d hd;have:=eA.1 o ho
   rw[hd] at this;simpa using this
theorem MK {ro:Option Nat}{rm:Nat}{C:ae}{keep:List Nat}{N n:Nat}{g:Operand}{ps:Array Tmp}{x y:Code}{vs:List Value}{r:bE×List Value×aa}{a:Act}(hC:zx P B C)(iB: ∀l₀,ro=some l₀→∃r,w.heap[l₀]? =some (.loop r))(eA:iI P N (.rangeFunc g ps x y)=true)(h:ev P C keep n (.rangeFunc g ps x y) vs H=some r)(hN:N≤a.tmps.size)(hS:cJ P μ H w B)(hE:gP μ (Env.get (keep.zip vs)) a.tmps):(Code.rangeFunc g ps x y).wpIn (FR ro) rm P (Fm P B keep μ a w r) a w:=by
 simp only[ev] at h;split at h
 case h_2=>cases h
 rename_i gf first captured hg
 split at h
 case isFalse=>cases h
 rename_i hgs;cases hc:C gf (first.toList++[.func (.yield H.length) #[] #[]]++captured.toList) (H.jZ (.loop ⟨keep,vs,ps,x,y⟩ .ready)) with
 |none=>rw[hc] at h;cases h
 |some q=>
  obtain⟨v,H2⟩:=q;rw[hc] at h;simp only at h;obtain⟨⟨fn,ze,hb,Yk⟩,Uq⟩:=(hC.told _ _ _ _ _ hc).1 hgs;have kO:=hE.eval g;rw[fY,hg] at kO;obtain⟨kQ,fK,eg,e1,e2⟩:=kO.vM rfl;refine wpIn_rangeFunc ?_;intro fnn _;obtain⟨l,mk,w1,rc,UE,P9,p1,p2,p3,p4,p5,p6,hle,hB1,Br,hM1⟩:=EZ iB hS fnn a ps x y;obtain⟨hmu,hS1⟩:=hS.jZ Br hB1.size hle (o:=.loop ⟨keep,vs,ps,x,y⟩ .ready)
   ⟨rc,N,P9,p1,p2,p3,by rw[p4];exact hN,by simpa[iI] using eA,by rw[p4];exact hE,p5,p6⟩
  have ou:cT (μ.up H.length ⟨l,0,0,0⟩) (first.toList++[.func (.yield H.length) #[] #[]]++captured.toList) (kQ.toList++[.func (.yield l) #[] #[]]++fK.toList):=
   ((e1.mono hmu).append (.cons (.SS _ ⟨l,0,0,0⟩ Mu.aP) .nil)).append (e2.mono hmu)
  have Dt:=Uq _ w1 _ hS1 ou;have uy:(kQ.toList++[Value.func (.yield l) #[] #[]]++fK.toList).toArray=kQ++ #[Value.func (.yield l) #[] #[]]++fK:=by
   rw[←Array.toList_inj];simp
  rw[uy] at Dt;have Mq: ¬fn.body=none:=by intro e;rw[e] at hb;simp at hb
  have Ur: ¬fn.name= "runtime.NumGoroutine" :=by simpa using Yk
  refine⟨l,mk,w1,{target:=.fn (.func gf) fK,args:=kQ++ #[.func (.yield l) #[] #[]]},w1,gf,kQ++ #[.func (.yield l) #[] #[]]++fK,w1,UE,?_,?_,?_,?_,?_⟩
  ·simp[resolve,eg,Deferred.ofValue];rfl
  ·intro _ _;trivial
  ·simp[invoke,callFunc,ze,Ur,Mq]
  ·intro h;simp[Fence.wide] at h
  have hci:CallsIn (FR ro) (rm-1) P gf (kQ++ #[Value.func (.yield l) #[] #[]]++fK) w1 _:=MA Dt;refine hci.mono ?_;rintro e w2 ⟨v',μ2,rfl,Zc,_,hS2,hB2⟩;have I2:μ2 H.length=some ⟨l,0,0,0⟩:=Zc _ _ Mu.aP;have I6:=Mu.le_trans hmu Zc;cases ho:H2.dT H.length with
  |none=>rw[ho] at h;simp[zi] at h
  |some o=>
   rw[ho] at h;cases o with
   |EE k es=>simp[zi] at h
   |loop L s=>
    obtain⟨l2,De,UF,r2,N2,k1,k2,k3,k4,k5,k6,k7,k8⟩:=hS2.dT.ok _ _ ho;rw[I2] at De;cases De;have hnb:r2.state≠ .busy:=by
     intro e;cases s with
     |ready=>rw[k8.1] at e;cases e
     |busy=>simp[zi] at h
     |ret=>rw[k8.1] at e;cases e
     |exit id=>rw[k8.1] at e;cases e
    have iJ:=run_endLoop (P:=P) k1 hnb;have Yn:cJ P μ2 (H2.kill H.length) (w2.putObj l (.loop {r2 with state:=.exhausted})) B:=hS2.YX ho I2
    have Zd:eN B w2 (w2.putObj l (.loop {r2 with state:=.exhausted})):=eN.q9 k1 UF rfl
    have hB4:=hB1.trans (hB2.trans Zd);have hM:Marks w (w2.putObj l (.loop {r2 with state:=.exhausted})) a {a with defers:=mk++a.defers}:=hM1.trans hB1 (hB2.trans Zd) (.of_eq rfl)
    generalize w2.putObj l (.loop {r2 with state:=.exhausted})=W at iJ Yn Zd hB4 hM
    refine⟨r2.pending,W,iJ,?_⟩;cases s with
    |ready=>
     simp only[zi] at h;cases h;rw[k8.2];exact⟨rfl,μ2,I6,hE.mono I6,hM,rfl,Yn,hB4⟩
    |busy=>simp[zi] at h
    |ret=>
     simp only[zi] at h;cases h;rw[k8.2];exact wpIn_ret ⟨rfl,μ2,I6,hE.mono I6,hM,rfl,Yn,hB4⟩
    |exit id=>
     simp only[zi] at h;cases h;rw[k8.2];exact wpIn_exit ⟨rfl,μ2,I6,hE.mono I6,hM,rfl,Yn,hB4⟩
theorem sW {ro:Option Nat}{rm:Nat}{C:ae}{keep:List Nat}{N n:Nat}(hC:zx P B C)(hm:P.follows .mixedOrders=true): ∀(c:Code) (vs:List Value) (H:aa) (r:bE×List Value×aa) (μ:Mu) (a:Act) (w:World),
  (∀l₀,ro=some l₀→∃r,w.heap[l₀]? =some (.loop r))→iI P N c=true→ev P C keep n c vs H=some r→N≤a.tmps.size→cJ P μ H w B→gP μ (Env.get (keep.zip vs)) a.tmps→c.wpIn (FR ro) rm P (Fm P B keep μ a w r) a w:=by
 intro c;induction c with
 |skip=>
  intro vs H r μ a w iB _ h hN hS hE;simp only[ev] at h;cases h;exact wpIn_skip ⟨rfl,μ,μ.le_refl,hE,.of_eq rfl,rfl,hS,eN.refl _ _⟩
 |label l=>
  intro vs H r μ a w iB _ h hN hS hE;simp only[ev] at h;cases h;exact wpIn_label ⟨rfl,μ,μ.le_refl,hE,.of_eq rfl,rfl,hS,eN.refl _ _⟩
 |exit id=>
  intro vs H r μ a w iB _ h hN hS hE;simp only[ev] at h;cases h;exact wpIn_exit ⟨rfl,μ,μ.le_refl,hE,.of_eq rfl,rfl,hS,eN.refl _ _⟩
 |ret=>
  intro vs H r μ a w iB _ h hN hS hE;simp only[ev] at h;cases h;exact wpIn_ret ⟨rfl,μ,μ.le_refl,hE,.of_eq rfl,rfl,hS,eN.refl _ _⟩
 |goto l=>intro vs H r μ a w _ _ h;simp only[ev] at h;cases h
 |refuse s=>intro vs H r μ a w _ _ h;simp only[ev] at h;cases h
 |rangeFunc f ps x y _ _=>intro vs H r μ a w iB eA h hN hS hE;exact MK hC iB eA h hN hS hE
 |region id ops draw=>
  intro vs H r μ a w iB eA h hN hS hE;exact zC hC hm eA n h hN hS hE
 |seq x y Um Un=>
  intro vs H r μ a w iB eA h hN hS hE;simp only[iI,Bool.and_eq_true] at eA;simp only[ev] at h;cases hx:ev P C keep n x vs H with
  |none=>rw[hx] at h;cases h
  |some q=>
   refine wpIn_seq (wpIn_mono (Um vs H q μ a w iB eA.1 hx hN hS hE) ?_);rintro e a1 w1 hp;obtain⟨e1,Fa,H1⟩:=q;rw[hx] at h;have Gz:=hp;obtain⟨rfl,μ1,h1,h2,h3,h4,h5,h6⟩:=hp;cases e1 with
   |normal=>
    simp only at h;exact wpIn_mono (Un Fa H1 r μ1 a1 w1 (Ta iB h6) eA.2 h (by rw[h4];exact hN) h5 h2) λ_ _ _ hq=>hq.trans h1 h3 h4 h6
   |exit id=>simp only at h;cases h;exact Gz
   |ret=>simp only at h;cases h;exact Gz
 |cond c x y Um Un=>
  intro vs H r μ a w iB eA h hN hS hE;simp only[iI,Bool.and_eq_true] at eA;simp only[ev] at h;split at h
  ·rename_i t hc;have hv:=hE.eval c;rw[fY,hc] at hv;refine wpIn_cond hv.bool ?_;cases t with
   |true=>simp only[if_true] at h ⊢;exact Um vs H r μ a w iB eA.1 h hN hS hE
   |false=>simp only[Bool.false_eq_true,if_false] at h ⊢;exact Un vs H r μ a w iB eA.2 h hN hS hE
  ·cases h
 |block id c ih=>
  intro vs H r μ a w iB eA h hN hS hE;simp only[ev] at h;cases hx:ev P C keep n c vs H with
  |none=>rw[hx] at h;cases h
  |some q=>
   refine wpIn_block (wpIn_mono (ih vs H q μ a w iB eA hx hN hS hE) ?_);rintro e a1 w1 hp;obtain⟨e1,Fa,H1⟩:=q;rw[hx] at h;have Gz:=hp;obtain⟨rfl,rest⟩:=hp;cases e1 with
   |normal=>simp only at h;cases h;exact Gz
   |ret=>simp only at h;cases h;exact Gz
   |exit YF=>
    simp only at h;by_cases e:YF=id
    ·rw[if_pos e] at h;cases h;simp only[wE,Exit.inBlock,e,if_true];exact⟨rfl,rest⟩
    ·rw[if_neg e] at h;cases h;simp only[wE,Exit.inBlock,e,if_false];exact⟨rfl,rest⟩
 |scope c ih=>
  intro vs H r μ a w iB eA h hN hS hE;simp only[ev] at h;refine pI (wpIn_mono (ih vs H r μ a w iB eA h hN hS hE) ?_);rintro e a1 w1 hp;have Gz:=hp;obtain⟨rfl,rest⟩:=hp;cases hr:r.1<;>simp only[wE,Exit.noGoto,hr] at Gz ⊢ <;>exact Gz
 |loop c ih=>
  intro vs H r μ a w iB eA h hN hS hE;simp only[ev] at h;refine wpIn_loop_ghost (λk a1 w1=>∃Fa H1 μ1,iter k (ev P C keep n c) Fa H1=some r∧μ.le μ1∧gP μ1 (Env.get (keep.zip Fa)) a1.tmps∧Marks w w1 a a1∧a1.tmps.size=a.tmps.size∧cJ P μ1 H1 w1 B∧eN B w w1) n
   ⟨vs,H,μ,h,μ.le_refl,hE,.of_eq rfl,rfl,hS,eN.refl _ _⟩ ?_
  rintro k a1 w1 ⟨Fa,H1,μ1,LR,g1,g2,g3,g4,g5,g6⟩;cases k with
  |zero=>simp only[iter] at LR;cases LR
  |succ k=>
   simp only[iter] at LR;cases hx:ev P C keep n c Fa H1 with
   |none=>rw[hx] at LR;cases LR
   |some q=>
    refine wpIn_mono (ih Fa H1 q μ1 a1 w1 (Ta iB g6) eA hx (by rw[g4];exact hN) g5 g2) ?_
    rintro e a2 w2 hp;obtain⟨e1,Uo,H2⟩:=q;rw[hx] at LR;have Gz:=hp;obtain⟨rfl,μ2,h1,h2,h3,h4,h5,h6⟩:=hp;cases e1 with
    |normal=>
     simp only at LR;exact⟨k,Nat.lt_succ_self k,Uo,H2,μ2,LR,Mu.le_trans g1 h1,h2,g3.trans g6 h6 h3,h4.trans g4,h5,g6.trans h6⟩
    |exit id=>simp only at LR;cases LR;exact Gz.trans g1 g3 g4 g6
    |ret=>simp only at LR;cases LR;exact Gz.trans g1 g3 g4 g6
theorem DD: ∀(ps:List Nat) (args fe:List Value) (E:Env) (tmps:Array Value),gP μ E.get tmps→cT μ args fe→(∀p∈ps,p<tmps.size)→
  gP μ (Gp E (ps.zip args)).get ((ps.zip fe).foldl (λt p=>t.setIfInBounds p.1 p.2) tmps)∧((ps.zip fe).foldl (λ(t:Array Value) p=>t.setIfInBounds p.1 p.2) tmps).size=tmps.size:=by
 intro ps;induction ps with
 |nil=>intro args fe E tmps h _ _;exact⟨h,rfl⟩
 |cons p ps ih=>
  intro args fe E tmps h ha hp;cases args with
  |nil=>rw[ha.gY];exact⟨h,rfl⟩
  |cons v args=>
   obtain⟨v',y,rfl,h1,h2⟩:=ha.fq;simp only[List.zip_cons_cons,Gp,List.foldl_cons];have:=ih args y (E.put (some p) v) (tmps.setIfInBounds p v') ?_ h2 (λq hq=>by simpa using hp q (by simp[hq]))
   ·refine⟨this.1,by rw[this.2];simp⟩
   ·intro t;rw[Env.aG];have Yh:=hp p (by simp)
    by_cases e:p=t
    ·subst e;simp[Yh,h1]
    ·rw[if_neg (λx=>e (Option.some.inj x))]
     have:=h t
     simpa[Array.getD_eq_getD_getElem?,Array.getElem?_setIfInBounds_ne e] using this
theorem wF (ps:Array Tmp)(args:Array Value)(tmps:Array Value):
  (ps.zip args).foldl (λtmps (t,a)=>tmps.setIfInBounds t a) tmps=(ps.toList.zip args.toList).foldl (λt p=>t.setIfInBounds p.1 p.2) tmps:=by
 rw[←Array.foldl_toList,Array.toList_zip]
theorem Fo {i:Nat}{e:bE}{v:Value}{l:Loc}(h:PW i e H=some (v,H'))(hS:cJ P μ H w B)(hl:μ i=some l):
  ∃w',(Instr.endRound l.b (match e with| .normal=>none| .ret=>some .ret| .exit id=>some (.exit id))).run P w= .ok v w'∧cp v=true∧cJ P μ H' w' B∧eN B w w':=by
 unfold PW at h;split at h
 case h_2=>cases h
 rename_i L ho;cases h;obtain⟨l2,De,UF,r2,N2,k1,k2,k3,k4,k5,k6,k7,k8⟩:=hS.dT.ok _ _ ho;rw[hl] at De;cases De;have gB:=(Array.getElem?_eq_some_iff.1 k1).1;cases e with
 |normal=>exact⟨_,run_endRound _ k1,rfl,hS.jA (o':=.loop L (.of .normal)) ho hl ⟨_,N2,World.putObj_heap_same gB,k2,k3,k4,k5,k6,k7,⟨rfl,rfl⟩⟩,eN.q9 k1 UF rfl⟩
 |ret=>exact⟨_,run_endRound _ k1,rfl,hS.jA (o':=.loop L (.of .ret)) ho hl ⟨_,N2,World.putObj_heap_same gB,k2,k3,k4,k5,k6,k7,⟨rfl,rfl⟩⟩,eN.q9 k1 UF rfl⟩
 |exit id=>exact⟨_,run_endRound _ k1,rfl,hS.jA (o':=.loop L (.of (.exit id))) ho hl ⟨_,N2,World.putObj_heap_same gB,k2,k3,k4,k5,k6,k7,⟨rfl,rfl⟩⟩,eN.q9 k1 UF rfl⟩
theorem BB {C:ae}{n i:Nat}{args:List Value}{v:Value}(hC:zx P B C)(hm:P.follows .mixedOrders=true)(h:qm P C n i args H=some (v,H')):MB P B i args H v H':=by
 intro ro rn μ w fe l hS ou hl;unfold qm at h;split at h
 case h_2=>cases h
 rename_i L ho;split at h
 case isFalse=>cases h
 rename_i hlen;obtain⟨l2,De,UF,r,N,k1,k2,k3,k4,k5,k6,k7,k8,k9⟩:=hS.dT.ok _ _ ho;rw[hl] at De;cases De;simp only[iI,Bool.and_eq_true,List.all_eq_true,decide_eq_true_eq] at k6;obtain⟨⟨hps,hka⟩,hkb⟩:=k6;have uq:fe.toArray.size=r.params.size:=by rw[k2];have:=ou.1;simp;omega
 have UG:=DD L.ps.toList args fe (L.keep.zip L.vs) r.tmps k7 ou (λp hp=>Nat.lt_of_lt_of_le (hps p hp) k5)
 refine⟨r.fn,_,r.assign,r.body,run_yield k1 uq,roundIn_of_wpIn trivial ?_⟩;rw[k2,wF,k3,k4];have hlp: ∀{w1:World} {r1:Loop},w1.heap[l.b]? =some (.loop r1)→∀l₀,some l.b=some l₀→∃r,w1.heap[l₀]? =some (.loop r):=λhr l₀ e=>by cases e;exact⟨_,hr⟩
 cases ha:ev P C L.keep n L.assign (L.keep.map (Gp (L.keep.zip L.vs) (L.ps.toList.zip args)).get) H with
 |none=>rw[ha] at h;cases h
 |some q=>
  obtain⟨e1,Fa,H1⟩:=q;rw[ha] at h;cases e1 with
  |ret=>cases h
  |exit id=>cases h
  |normal=>
   simp only at h;refine wpIn_mono (sW (ro:=some l.b) (rm:=rn) (N:=N) hC hm L.assign _ H _ μ {tmps:=_,defers:=[]} w (hlp k1) hka ha (by simpa[UG.2] using k5) hS (UG.1.keep L.keep)) ?_
   rintro e a1 w1 ⟨rfl,μ1,h1,h2,h3,h4,h5,h6⟩;simp only[wE];split at h
   case h_2=>cases h
   rename_i L1 IZ;obtain⟨l3,UH,adt,r3,N3,m1,m2,m3,m4,m5,m6,m7,m8,m9⟩:=h5.dT.ok _ _ IZ;have P9:=h1 _ _ hl;rw[P9] at UH;cases UH;have gB:=(Array.getElem?_eq_some_iff.1 m1).1;refine⟨_,run_beginRound m1 m8,?_⟩;have hS2:cJ P μ1 (H1.jA i (.loop L1 .busy)) (w1.putObj l.b (.loop {r3 with state:=.busy})) B:=
    h5.jA IZ P9 ⟨_,N3,World.putObj_heap_same gB,m2,m3,m4,m5,m6,m7,rfl⟩
   have hB2:eN B w1 (w1.putObj l.b (.loop {r3 with state:=.busy})):=eN.q9 m1 UF rfl
   cases hb:ev P C L.keep n L.body Fa (H1.jA i (.loop L1 .busy)) with
   |none=>rw[hb] at h;cases h
   |some q2=>
    obtain⟨e2,Uo,H2⟩:=q2;rw[hb] at h;simp only at h;refine wpIn_mono (sW (ro:=some l.b) (rm:=rn) (N:=N) hC hm L.body Fa _ _ μ1 a1 _ (hlp (World.putObj_heap_same gB)) hkb hb (by rw[h4];simpa[UG.2] using k5) hS2 h2) ?_
    rintro e a2 w2 ⟨rfl,μ2,g1,g2,g3,g4,g5,g6⟩;obtain⟨w3,dF,hp,Yn,Zd⟩:=Fo h g5 (g1 _ _ P9);have hB:=h6.trans (hB2.trans (g6.trans Zd));cases e2<;>exact⟨v,w3,dF,v,μ2,rfl,Mu.le_trans h1 g1,.plain _ hp,Yn,hB⟩
def BC (tmps:Array Value):ResultVar→Sem Value
 | .tmp t=>pure (tmps.getD t undef)
 | .cell ad t=>do loadVar t (←asAddr (tmps.getD ad undef))
theorem Fp (fn:Func)(tmps:Array Value):results fn tmps=(do let vs ←fn.results.mapM (BC tmps);pure (if h:vs.size=1 then vs[0] else .tuple vs)):=by
 unfold results
 congr 1
theorem Fq {fn:Func}{E:Env}{a:Act}{v:Value}(hS:cJ P μ H w B)(hE:gP μ E.get a.tmps)(h:Bd P fn E H=some v): ∃v',(results fn a.tmps).run P w= .ok v' w∧VR μ v v':=by
 unfold Bd at h;rw[Option.map_eq_some_iff] at h;obtain⟨vs,hvs,rfl⟩:=h;have key: ∀(l:List ResultVar) (vs:List Value),l.mapM (λ(r:ResultVar)=>match r with
   | .tmp t=>some (E.get t)
   | .cell ad t=>iY P t (E.get ad) H)=some vs→
   ∃iU,(l.mapM (BC a.tmps)).run P w= .ok iU w∧cT μ vs iU:=by
  intro l;induction l with
  |nil=>intro vs h;simp at h;subst h;exact⟨[],rfl,.nil⟩
  |cons r l ih=>
   intro vs h;rw[List.mapM_cons] at h;simp only[Option.bind_eq_bind,Option.bind_eq_some_iff] at h;obtain⟨v,hv,Uo,h2,e⟩:=h;cases e;obtain⟨iU,hr,ra⟩:=ih Uo h2;have h1: ∃v',(BC a.tmps r).run P w= .ok v' w∧VR μ v v':=by
    cases r with
    |tmp t=>simp only at hv;cases hv;exact⟨_,rfl,hE t⟩
    |cell ad t=>
     simp only at hv;have hp:=hE ad;obtain⟨v',uD,sC⟩:=tP (P:=P) hS hp hv;refine⟨v',?_,sC⟩;have abt: ∃x,E.get ad= .pointer (some x):=by
      unfold iY at hv;split at hv
      ·rename_i e;exact⟨_,e⟩
      ·cases hv
     obtain⟨x,e⟩:=abt;rw[e] at hp;obtain⟨i,off,l,_,_,e2⟩:=hp.mL;rw[e2] at uD;unfold BC;simp only[e2];simpa[Instr.loadAt,Instr.sureAddr,asAddr] using uD
   obtain⟨v',Ud,CW⟩:=h1;refine⟨v'::iU,?_,.cons CW ra⟩;rw[List.mapM_cons];simp only[Sem.run_bind,Ud,Result.andThen_ok,hr,Sem.run_pure]
 obtain⟨iU,hr,ra⟩:=key _ _ hvs;have dF:(results fn a.tmps).run P w= .ok (if h:iU.toArray.size=1 then iU.toArray[0] else .tuple iU.toArray) w:=by
  rw[Fp,Array.mapM_eq_mapM_toList];simp only[Sem.run_bind,Sem.run_map,hr,Result.andThen_ok,Sem.run_pure]
 refine⟨_,dF,?_⟩
 match vs,ra with
 | [],ra=>rw[ra.gY];exact cT.tuple (c:=#[]) (c':=#[]) .nil
 | [v],ra=>
  obtain⟨v',y,rfl,h1,h2⟩:=ra.fq;rw[h2.gY];exact h1
 |v1::v2::r,ra=>
  obtain⟨u1,y,rfl,h1,h2⟩:=ra.fq;obtain⟨u2,y2,rfl,h3,h4⟩:=h2.fq;have: ¬(u1::u2::y2).toArray.size=1:=by simp
  rw[dif_neg this];exact cT.tuple (by simpa using ra)
theorem BD {fn:Func}{tmps:Array Value}{rm:Nat}{R:Ending→World→Prop}{w0:World}(hB0:B≤w0.heap.size): ∀(Ds:List Nat) (w:World),Ds.Nodup→(∀D∈Ds,w0.heap.size≤D∧w.heap[D]? =some (.deferred (some [])))→
  cJ P μ H w B→eN B w0 w→(∀w',cJ P μ H w' B→eN B w0 w'→LeavesIn (FR none) rm P fn tmps R [] .returning w')→LeavesInM (FR none) rm P fn tmps R (Ds.map SW) .returning w:=by
 intro Ds;induction Ds with
 |nil=>intro w _ _ hS hB hk;exact hk w hS hB
 |cons D Ds ih=>
  intro w hn hD hS hB hk;rw[List.nodup_cons] at hn;obtain⟨hn1,hn2⟩:=hn;obtain⟨h1,h2⟩:=hD D (by simp)
  refine⟨by simp,.inl ⟨D,_,rfl,run_takeDeferred h2,ih _ hn2 ?_ (hS.P1 h2 rfl (λ_ e=>by cases e) (λ_ _ e=>by cases e)) (hB.Uk h2 (Nat.le_trans hB0 h1) h1) hk⟩⟩
  intro E hE;refine⟨(hD E (by simp[hE])).1,?_⟩
  rw[World.putObj_heap_other (by rintro rfl;exact hn1 hE)]
  exact(hD E (by simp[hE])).2
theorem Ze {f:FuncId}{i:Nat}(h:f<P.funcs.size)(e:f=P.funcs.size+i):False:=by
 subst e;exact absurd h (Nat.not_lt.2 (Nat.le_add_right _ _))
theorem oD {bad:List FuncId}{G:ae}(eA:mK P bad=true)(hGh:gE G)(hG: ∀f args H v H',bad.contains f=true→G f args H=some (v,H')→
   (∃fn,P.funcs[f]? =some fn∧fn.body.isSome=true∧(fn.name== "runtime.NumGoroutine")=false)∧Bw P B f args H v H'): ∀n,zx P B (gr P bad G n):=by
 simp only[mK,Bool.and_eq_true] at eA;obtain⟨hm,jk⟩:=eA;intro n;induction n with
 |zero=>exact⟨λf args H v H' h=>(by simp only[gr] at h;cases h),Ah hGh _⟩
 |succ n ih=>
  refine⟨λf args H v H' h=>?_,Ah hGh _⟩
  simp only[gr] at h;split at h
  ·rename_i hb;obtain⟨⟨fn,ze,h1⟩,h2⟩:=hG f args H v H' hb h;have gB:=(Array.getElem?_eq_some_iff.1 ze).1;exact⟨λ_=>⟨⟨fn,ze,h1⟩,h2⟩,λi e=>(Ze gB e).elim⟩
  ·rename_i hb;split at h
   ·rename_i fn ze;have gB:f<P.funcs.size:=(Array.getElem?_eq_some_iff.1 ze).1;refine⟨λ_=>?_,λi e=>(Ze gB e).elim⟩
    split at h
    ·rename_i c hc;have hof:=List.all_eq_true.1 jk f (List.mem_range.2 gB);have Mq:bad.contains f=false:=by simpa using hb
     rw[Mq,ze] at hof;simp only[Bool.false_or,EL,hc,Bool.and_eq_true,Bool.not_eq_true'] at hof;obtain⟨Zf,Zg⟩:=hof;refine⟨⟨fn,ze,by rw[hc];rfl,Zf⟩,?_⟩
     intro μ w fe hS ou;refine(callsIn_wide (n:=0)).1 (callsIn_of_wp_marks (F:=FR none) ze hc trivial ?_);have Zh:gP μ (Env.get ((mJ fn).zip ((mJ fn).map λt=>args.getD t undef))) (fe.toArray++Array.replicate (fn.ntmps-fe.toArray.size) undef):=by
      refine gP.keep (E:=λt=>args.getD t undef) ?_ _
      intro t;have hu:VR μ undef undef:=cT.tuple (c:=#[]) (c':=#[]) .nil;show VR μ (args.getD t undef) _
      rw[List.getD_eq_getElem?_getD,Array.getD_eq_getD_getElem?,Array.getElem?_append];cases hx:args[t]? with
      |none=>
       have h1:args.length≤t:=List.getElem?_eq_none_iff.1 hx;rw[if_neg (by have:=ou.1;simp;omega),Array.getElem?_replicate]
       split<;>exact hu
      |some x=>
       obtain⟨x',e,r⟩:=ou.2 t x hx;have h1:t<fe.length:=(List.getElem?_eq_some_iff.1 e).1;rw[if_pos (by simpa using h1)]
       simpa[e] using r
     have go: ∀r,ev P (gr P bad G n) (mJ fn) n c ((mJ fn).map λt=>args.getD t undef) H=some r→(r.1= .normal∨r.1= .ret)→(Bd P fn ((mJ fn).zip r.2.1) r.2.2).map (·,r.2.2)=some (v,H')→
       c.wpIn (FR none) 0 P (bodyPostM (FR none) 0 P fn (Gu P B μ w v H'))
        {tmps:=fe.toArray++Array.replicate (fn.ntmps-fe.toArray.size) undef,defers:=[]} w:=by
      intro r Ai hx I4;rw[Option.map_eq_some_iff] at I4;obtain⟨v2,I4,e⟩:=I4;cases e;refine wpIn_mono (sW (ro:=none) (N:=fn.ntmps) ih hm c _ H r μ _ w (λ_ e=>by cases e) Zg Ai (by simp;omega) hS Zh) ?_
      rintro e a' w' ⟨rfl,μ',h1,h2,⟨Ds,d1,d2,d3⟩,h4,h5,h6⟩;have key:LeavesInM (FR none) 0 P fn a'.tmps (Gu P B μ w v r.2.2) a'.defers .returning w':=by
       rw[d1,List.append_nil];refine BD hS.base Ds w' d2 d3 h5 h6 ?_;intro w'' h5 h6;obtain⟨v',uD,sC⟩:=Fq (P:=P) h5 h2 I4;exact⟨v',uD,v',μ',rfl,h1,sC,h5,h6⟩
      rcases hx with hx|hx<;>rw[hx]<;>exact key
     split at h
     ·rename_i vs H2 Ai;exact go _ Ai (.inl rfl) h
     ·rename_i vs H2 Ai;exact go _ Ai (.inr rfl) h
     ·cases h
    ·cases h
   ·rename_i ze;have Yg:P.funcs.size≤f:=by
     by_cases hl:f<P.funcs.size
     ·rw[Array.getElem?_eq_getElem hl] at ze;cases ze
     ·exact Nat.le_of_not_lt hl
    refine⟨λhl=>absurd hl (Nat.not_lt.2 Yg),?_⟩
    rintro i rfl;rw[show P.funcs.size+i-P.funcs.size=i by omega] at h
    exact BB ih hm h
theorem DE {bad:List FuncId}{G:ae}{n:Nat}{f:FuncId}{args:List Value}{r:Value×aa}(hS:cJ P μ H w w.heap.size)(hb:bad.contains f=true→G f args H=some r→f<P.funcs.size)(h:gr P bad G n f args H=some r):f<P.funcs.size:=by
 cases n with
 |zero=>simp only[gr] at h;cases h
 |succ n=>
  simp only[gr] at h;split at h
  ·rename_i MH;exact hb MH h
  ·split at h
   ·rename_i fn ze;exact(Array.getElem?_eq_some_iff.1 ze).1
   ·unfold qm at h;split at h
    ·rename_i L ho;obtain⟨l,_,h1,h2⟩:=hS.dT.ok _ _ ho;have:=h2.lt
     omega
    ·cases h
def LS:ae:=λ_ _ _=>none
theorem DF:gE LS:=λ_ _ _ _ _ _ _ _ h=>by simp[LS] at h
theorem cJ.empty (w:World):cJ P (λ_=>none) [] w w.heap.size:=
 ⟨Nat.le_refl _,λi b h=>by simp[aa.get] at h,λ_ _=>rfl,λi j b c l m h=>by simp[aa.get] at h,λi b l h=>by simp[aa.get] at h,⟨λi o h=>by simp[aa.dT] at h,λi j o p l m h=>by simp[aa.dT] at h⟩,λi h=>by simp at h⟩
end Go.Proofs.YtgfgglponbmgmaaGreatA.Am
end
