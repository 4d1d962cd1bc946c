/- Texts of the proof of helpPlays_holds, put together by a small program of ours (names shortened, spaces taken out). No condition beyond the given statement. -/
import Derived.Test.YtgfgglponbmgmaaGreatHPL7
import Derived.Test.YtgfgglponbmgmaaGreatHPL3
import Derived.Deep.LoopGhost
import Derived.Scope
import Derived.RangeFuncLeaves
set_option linter.unusedVariables false
set_option linter.unusedSimpArgs false
set_option linter.unnecessarySimpa false
noncomputable section
section
namespace Go.Proofs.YtgfgglponbmgmaaGreatA.Am
open Go.RowKit (Below)
variable {P:Program} {μ:Mu} {H H':aa} {w:World} {B:Nat}
def w9:bA→Exit
 | .normal=>.normal
 | .exit id=>.exit id
 | .ret=>.ret
def Gq (P:Program)(B:Nat)(keep:List Nat)(μ:Mu)(a:Act)(w:World)(r:bA×List Value×aa)(x:Exit)(a':Act)(w':World):Prop:=
 x=w9 r.1∧∃μ',μ.le μ'∧gV μ' (Env.get (keep.zip r.2.1)) a'.tmps∧Marks w w' a a'∧a'.tmps.size=a.tmps.size∧cQ P μ' r.2.2 w' B∧eX B w w'
theorem Gq.trans {keep:List Nat}{μ μ1:Mu}{a a1:Act}{w w1:World}{r:bA×List Value×aa}{x:Exit}{a':Act}{w':World}(hle:μ.le μ1)(hd:Marks w w1 a a1)(hs:a1.tmps.size=a.tmps.size)(hb:eX B w w1)(h:Gq P B keep μ1 a1 w1 r x a' w'):Gq P B keep μ a w r x a' w':=by
 obtain⟨hx,μ',h1,h2,h3,h4,h5,h6⟩:=h;exact⟨hx,μ',Mu.le_trans hle h1,h2,hd.trans hb h6 h3,h4.trans hs,h5,hb.trans h6⟩
theorem HX (E:Nat→Value): ∀(keep:List Nat) (t:Nat),Env.get (keep.zip (keep.map E)) t=if t∈keep then E t else HN
 | [],t=>by simp[Env.get]
 |k::r,t=>by
  simp only[List.map_cons,List.zip_cons_cons,Env.get];by_cases e:t=k
  ·subst e;simp
  ·rw[if_neg e,HX E r t];simp[e]
theorem gV.keep {E:Nat→Value}{tmps:Array Value}(h:gV μ E tmps)(keep:List Nat):gV μ (Env.get (keep.zip (keep.map E))) tmps:=by
 intro t;rw[HX];split
 ·exact h t
 ·exact .HN _
theorem je {b:Frame}{c:Code}{k:List Item}{a:Act}{cs:List Frame}:step P (lone (b.atR a (.code (.scope c)::k)) cs w)= .next (lone (b.atR a (.code c:: .inScope c::k)) cs w):=
 step_lone_go (by simp[stepG,stepG.exec,Frame.atR])
theorem Af {b:Frame}{c:Code}{k:List Item}{a:Act}{cs:List Frame}:step P (lone (b.atR a (.inScope c::k)) cs w)= .next (lone (b.atR a k) cs w):=
 step_lone_go (by simp[stepG,stepG.exec,Frame.atR])
theorem pL {F:Fence}{n:Nat}{Q:Exit→Act→World→Prop}{a:Act}{c:Code}(h:c.wpIn F n P (Exit.noGoto Q) a w):(Code.scope c).wpIn F n P Q a w:=by
 intro b k cs iQ hb hr;have h0:(lone (b.atR a (.code (.scope c)::k)) cs w).fenced P F:=fenced_calm hb hr rfl;obtain⟨e,a₁,w₁,hq,uZ⟩:=h b (.inScope c::k) cs iQ hb hr;cases e with
 |normal=>exact⟨.normal,a₁,w₁,hq,.head h0 je (StepsIn.trans uZ (.one (fenced_calm hb hr rfl) Af))⟩
 |exit id=>
  have hx:exitTo id (.inScope c::k)=exitTo id k:=by simp[exitTo]
  exact⟨.exit id,a₁,w₁,hq,λk' hk=>.head h0 je (uZ.1 k' (by rw[hx];exact hk)),
   λVO hk=>let ⟨k₁,h1,h2⟩:=uZ.2 VO (by rw[hx];exact hk);⟨k₁,h1,.head h0 je h2⟩⟩
 |goto l=>exact hq.elim
 |ret=>exact⟨_,a₁,w₁,hq,.of_steps (.one h0 je) uZ⟩
 |panic ch=>exact⟨_,a₁,w₁,hq,.of_steps (.one h0 je) uZ⟩
 |outgrown=>exact⟨_,a₁,w₁,hq,.of_steps (.one h0 je) uZ⟩
theorem UH {ro:Option Nat}{w w1:World}(iQ: ∀l₀,ro=some l₀→∃r,w.heap[l₀]? =some (.loop r))(h:eX B w w1): ∀l₀,ro=some l₀→∃r,w1.heap[l₀]? =some (.loop r):=λl₀ e=>by
 obtain⟨r,hr⟩:=iQ l₀ e;obtain⟨r',h1,_⟩:=h.loops _ _ hr;exact⟨r',h1⟩
theorem Ag {ro:Option Nat}{rm:Nat}{C:ae}{keep:List Nat}{N id:Nat}{ops:Array Oper}{draw:Bool}{vs:List Value}{a:Act}{r:bA×List Value×aa}(hC:Ab P B C)(hm:P.follows .mixedOrders=true)(dR:ou P N ops draw=true)(n:Nat)(h:ev P C keep n (.region id ops draw) vs H=some r)(hN:N≤a.tmps.size)(hS:cQ P μ H w B)(hE:gV μ (Env.get (keep.zip vs)) a.tmps):
  (Code.region id ops draw).wpIn (FR ro) rm P (Gq P B keep μ a w r) a w:=by
 simp only[ev] at h;cases hr:fh P C ops draw (keep.zip vs) H with
 |none=>rw[hr] at h;cases h
 |some q=>
  obtain⟨E',H'⟩:=q;rw[hr] at h;simp only at h;cases h;have fin: ∀a' w' μ',μ.le μ'→gV μ' E'.get a'.tmps→a'.defers=a.defers→a'.tmps.size=a.tmps.size→cQ P μ' H' w' B→eX B w w'→
    Gq P B keep μ a w (.normal,keep.map E'.get,H') .normal a' w':=
   λa' w' μ' h1 h2 h3 h4 h5 h6=>⟨rfl,μ',h1,h2.keep keep,.of_eq h3,h4,h5,h6⟩
  cases draw with
  |true=>exact El hC hm dR hr hN hS hE fin
  |false=>
   refine wpIn_region_list ?_;simp only[ou,Bool.and_eq_true,List.all_eq_true] at dR;refine Ac (N:=N) hC ops.toList _ _ _ _ μ a w (by simpa[fh] using hr) ?_ hN hS hE fin
   intro o ho d hd;have:=dR.1 o ho
   rw[hd] at this;simpa using this
theorem Oe {ro:Option Nat}{rm:Nat}{C:ae}{keep:List Nat}{N n:Nat}{g:Operand}{ps:Array Tmp}{x y:Code}{vs:List Value}{r:bA×List Value×aa}{a:Act}(hC:Ab P B C)(iQ: ∀l₀,ro=some l₀→∃r,w.heap[l₀]? =some (.loop r))(dR:iW P N (.rangeFunc g ps x y)=true)(h:ev P C keep n (.rangeFunc g ps x y) vs H=some r)(hN:N≤a.tmps.size)(hS:cQ P μ H w B)(hE:gV μ (Env.get (keep.zip vs)) a.tmps):(Code.rangeFunc g ps x y).wpIn (FR ro) rm P (Gq P B keep μ a w r) a w:=by
 simp only[ev] at h;split at h
 case h_2=>cases h
 rename_i gf first captured hg
 split at h
 case isFalse=>cases h
 rename_i hgs;cases hc:C gf (first.toList++[.func (.yield H.length) #[] #[]]++captured.toList) (H.kt (.loop ⟨keep,vs,ps,x,y⟩ .ready)) with
 |none=>rw[hc] at h;cases h
 |some q=>
  obtain⟨v,H2⟩:=q;rw[hc] at h;simp only at h;obtain⟨⟨fn,zP,hb,ZJ⟩,VY⟩:=(hC.told _ _ _ _ _ hc).1 hgs;have lj:=hE.eval g;rw[gj,hg] at lj;obtain⟨lk,fT,eg,e1,e2⟩:=lj.wA rfl;refine wpIn_rangeFunc ?_;intro fnn _;obtain⟨l,mk,w1,rc,Wb,Ry,p1,p2,p3,p4,p5,p6,hle,hB1,BU,hM1⟩:=F7 iQ hS fnn a ps x y;obtain⟨hmu,hS1⟩:=hS.kt BU hB1.size hle (o:=.loop ⟨keep,vs,ps,x,y⟩ .ready)
   ⟨rc,N,Ry,p1,p2,p3,by rw[p4];exact hN,by simpa[iW] using dR,by rw[p4];exact hE,p5,p6⟩
  have oF:cY (μ.up H.length ⟨l,0,0,0⟩) (first.toList++[.func (.yield H.length) #[] #[]]++captured.toList) (lk.toList++[.func (.yield l) #[] #[]]++fT.toList):=
   ((e1.mono hmu).append (.cons (.Uv _ ⟨l,0,0,0⟩ Mu.aP) .nil)).append (e2.mono hmu)
  have Ec:=VY _ w1 _ hS1 oF;have uZ:(lk.toList++[Value.func (.yield l) #[] #[]]++fT.toList).toArray=lk++ #[Value.func (.yield l) #[] #[]]++fT:=by
   rw[←Array.toList_inj];simp
  rw[uZ] at Ec;have NT: ¬fn.body=none:=by intro e;rw[e] at hb;simp at hb
  have VZ: ¬fn.name= "runtime.NumGoroutine" :=by simpa using ZJ
  refine⟨l,mk,w1,{target:=.fn (.func gf) fT,args:=lk++ #[.func (.yield l) #[] #[]]},w1,gf,lk++ #[.func (.yield l) #[] #[]]++fT,w1,Wb,?_,?_,?_,?_,?_⟩
  ·simp[resolve,eg,Deferred.ofValue];rfl
  ·intro _ _;trivial
  ·simp[invoke,callFunc,zP,VZ,NT]
  ·intro h;simp[Fence.wide] at h
  have hci:CallsIn (FR ro) (rm-1) P gf (lk++ #[Value.func (.yield l) #[] #[]]++fT) w1 _:=N4 Ec;refine hci.mono ?_;rintro e w2 ⟨v',μ2,rfl,aaq,_,hS2,hB2⟩;have Ku:μ2 H.length=some ⟨l,0,0,0⟩:=aaq _ _ Mu.aP;have Kx:=Mu.le_trans hmu aaq;cases ho:H2.ef H.length with
  |none=>rw[ho] at h;simp[zV] at h
  |some o=>
   rw[ho] at h;cases o with
   |FG k es=>simp[zV] at h
   |loop L s=>
    obtain⟨l2,DZ,Wc,r2,N2,k1,k2,k3,k4,k5,k6,k7,k8⟩:=hS2.ef.ok _ _ ho;rw[Ku] at DZ;cases DZ;have hnb:r2.state≠ .busy:=by
     intro e;cases s with
     |ready=>rw[k8.1] at e;cases e
     |busy=>simp[zV] at h
     |ret=>rw[k8.1] at e;cases e
     |exit id=>rw[k8.1] at e;cases e
    have iX:=run_endLoop (P:=P) k1 hnb;have ZN:cQ P μ2 (H2.kill H.length) (w2.putObj l (.loop {r2 with state:=.exhausted})) B:=hS2.aae ho Ku
    have hB3:eX B w2 (w2.putObj l (.loop {r2 with state:=.exhausted})):=eX.rC k1 Wc rfl
    have hB4:=hB1.trans (hB2.trans hB3);have hM:Marks w (w2.putObj l (.loop {r2 with state:=.exhausted})) a {a with defers:=mk++a.defers}:=hM1.trans hB1 (hB2.trans hB3) (.of_eq rfl)
    generalize w2.putObj l (.loop {r2 with state:=.exhausted})=W at iX ZN hB3 hB4 hM
    refine⟨r2.pending,W,iX,?_⟩;cases s with
    |ready=>
     simp only[zV] at h;cases h;rw[k8.2];exact⟨rfl,μ2,Kx,hE.mono Kx,hM,rfl,ZN,hB4⟩
    |busy=>simp[zV] at h
    |ret=>
     simp only[zV] at h;cases h;rw[k8.2];exact wpIn_ret ⟨rfl,μ2,Kx,hE.mono Kx,hM,rfl,ZN,hB4⟩
    |exit id=>
     simp only[zV] at h;cases h;rw[k8.2];exact wpIn_exit ⟨rfl,μ2,Kx,hE.mono Kx,hM,rfl,ZN,hB4⟩
theorem tB {ro:Option Nat}{rm:Nat}{C:ae}{keep:List Nat}{N n:Nat}(hC:Ab P B C)(hm:P.follows .mixedOrders=true): ∀(c:Code) (vs:List Value) (H:aa) (r:bA×List Value×aa) (μ:Mu) (a:Act) (w:World),
  (∀l₀,ro=some l₀→∃r,w.heap[l₀]? =some (.loop r))→iW P N c=true→ev P C keep n c vs H=some r→N≤a.tmps.size→cQ P μ H w B→gV μ (Env.get (keep.zip vs)) a.tmps→c.wpIn (FR ro) rm P (Gq P B keep μ a w r) a w:=by
 intro c;induction c with
 |skip=>
  intro vs H r μ a w iQ _ h hN hS hE;simp only[ev] at h;cases h;exact wpIn_skip ⟨rfl,μ,μ.le_refl,hE,.of_eq rfl,rfl,hS,eX.refl _ _⟩
 |label l=>
  intro vs H r μ a w iQ _ h hN hS hE;simp only[ev] at h;cases h;exact wpIn_label ⟨rfl,μ,μ.le_refl,hE,.of_eq rfl,rfl,hS,eX.refl _ _⟩
 |exit id=>
  intro vs H r μ a w iQ _ h hN hS hE;simp only[ev] at h;cases h;exact wpIn_exit ⟨rfl,μ,μ.le_refl,hE,.of_eq rfl,rfl,hS,eX.refl _ _⟩
 |ret=>
  intro vs H r μ a w iQ _ h hN hS hE;simp only[ev] at h;cases h;exact wpIn_ret ⟨rfl,μ,μ.le_refl,hE,.of_eq rfl,rfl,hS,eX.refl _ _⟩
 |goto l=>intro vs H r μ a w _ _ h;simp only[ev] at h;cases h
 |refuse s=>intro vs H r μ a w _ _ h;simp only[ev] at h;cases h
 |rangeFunc f ps x y _ _=>intro vs H r μ a w iQ dR h hN hS hE;exact Oe hC iQ dR h hN hS hE
 |region id ops draw=>
  intro vs H r μ a w iQ dR h hN hS hE;exact Ag hC hm dR n h hN hS hE
 |seq x y VV VW=>
  intro vs H r μ a w iQ dR h hN hS hE;simp only[iW,Bool.and_eq_true] at dR;simp only[ev] at h;cases hx:ev P C keep n x vs H with
  |none=>rw[hx] at h;cases h
  |some q=>
   refine wpIn_seq (wpIn_mono (VV vs H q μ a w iQ dR.1 hx hN hS hE) ?_);rintro e a1 w1 hp;obtain⟨e1,Ge,H1⟩:=q;rw[hx] at h;have HY:=hp;obtain⟨rfl,μ1,h1,h2,h3,h4,h5,h6⟩:=hp;cases e1 with
   |normal=>
    simp only at h;exact wpIn_mono (VW Ge H1 r μ1 a1 w1 (UH iQ h6) dR.2 h (by rw[h4];exact hN) h5 h2) λ_ _ _ hq=>hq.trans h1 h3 h4 h6
   |exit id=>simp only at h;cases h;exact HY
   |ret=>simp only at h;cases h;exact HY
 |cond c x y VV VW=>
  intro vs H r μ a w iQ dR h hN hS hE;simp only[iW,Bool.and_eq_true] at dR;simp only[ev] at h;split at h
  ·rename_i t hc;have hv:=hE.eval c;rw[gj,hc] at hv;refine wpIn_cond hv.bool ?_;cases t with
   |true=>simp only[if_true] at h ⊢;exact VV vs H r μ a w iQ dR.1 h hN hS hE
   |false=>simp only[Bool.false_eq_true,if_false] at h ⊢;exact VW vs H r μ a w iQ dR.2 h hN hS hE
  ·cases h
 |block id c ih=>
  intro vs H r μ a w iQ dR h hN hS hE;simp only[ev] at h;cases hx:ev P C keep n c vs H with
  |none=>rw[hx] at h;cases h
  |some q=>
   refine wpIn_block (wpIn_mono (ih vs H q μ a w iQ dR hx hN hS hE) ?_);rintro e a1 w1 hp;obtain⟨e1,Ge,H1⟩:=q;rw[hx] at h;have HY:=hp;obtain⟨rfl,rest⟩:=hp;cases e1 with
   |normal=>simp only at h;cases h;exact HY
   |ret=>simp only at h;cases h;exact HY
   |exit Z6=>
    simp only at h;by_cases e:Z6=id
    ·rw[if_pos e] at h;cases h;simp only[w9,Exit.inBlock,e,if_true];exact⟨rfl,rest⟩
    ·rw[if_neg e] at h;cases h;simp only[w9,Exit.inBlock,e,if_false];exact⟨rfl,rest⟩
 |scope c ih=>
  intro vs H r μ a w iQ dR h hN hS hE;simp only[ev] at h;refine pL (wpIn_mono (ih vs H r μ a w iQ dR h hN hS hE) ?_);rintro e a1 w1 hp;have HY:=hp;obtain⟨rfl,rest⟩:=hp;cases hr:r.1<;>simp only[w9,Exit.noGoto,hr] at HY ⊢ <;>exact HY
 |loop c ih=>
  intro vs H r μ a w iQ dR h hN hS hE;simp only[ev] at h;refine wpIn_loop_ghost (λk a1 w1=>∃Ge H1 μ1,iter k (ev P C keep n c) Ge H1=some r∧μ.le μ1∧gV μ1 (Env.get (keep.zip Ge)) a1.tmps∧Marks w w1 a a1∧a1.tmps.size=a.tmps.size∧cQ P μ1 H1 w1 B∧eX B w w1) n
   ⟨vs,H,μ,h,μ.le_refl,hE,.of_eq rfl,rfl,hS,eX.refl _ _⟩ ?_
  rintro k a1 w1 ⟨Ge,H1,μ1,Nx,g1,g2,g3,g4,g5,g6⟩;cases k with
  |zero=>simp only[iter] at Nx;cases Nx
  |succ k=>
   simp only[iter] at Nx;cases hx:ev P C keep n c Ge H1 with
   |none=>rw[hx] at Nx;cases Nx
   |some q=>
    refine wpIn_mono (ih Ge H1 q μ1 a1 w1 (UH iQ g6) dR hx (by rw[g4];exact hN) g5 g2) ?_
    rintro e a2 w2 hp;obtain⟨e1,VX,H2⟩:=q;rw[hx] at Nx;have HY:=hp;obtain⟨rfl,μ2,h1,h2,h3,h4,h5,h6⟩:=hp;cases e1 with
    |normal=>
     simp only at Nx;exact⟨k,Nat.lt_succ_self k,VX,H2,μ2,Nx,Mu.le_trans g1 h1,h2,g3.trans g6 h6 h3,h4.trans g4,h5,g6.trans h6⟩
    |exit id=>simp only at Nx;cases Nx;exact HY.trans g1 g3 g4 g6
    |ret=>simp only at Nx;cases Nx;exact HY.trans g1 g3 g4 g6
theorem Em: ∀(ps:List Nat) (args fC:List Value) (E:Env) (tmps:Array Value),gV μ E.get tmps→cY μ args fC→(∀p∈ps,p<tmps.size)→
  gV μ (HO E (ps.zip args)).get ((ps.zip fC).foldl (λt p=>t.setIfInBounds p.1 p.2) tmps)∧((ps.zip fC).foldl (λ(t:Array Value) p=>t.setIfInBounds p.1 p.2) tmps).size=tmps.size:=by
 intro ps;induction ps with
 |nil=>intro args fC E tmps h _ _;exact⟨h,rfl⟩
 |cons p ps ih=>
  intro args fC E tmps h ha hp;cases args with
  |nil=>rw[ha.ic];exact⟨h,rfl⟩
  |cons v args=>
   obtain⟨v',y,rfl,h1,h2⟩:=ha.fJ;simp only[List.zip_cons_cons,HO,List.foldl_cons];have:=ih args y (E.put (some p) v) (tmps.setIfInBounds p v') ?_ h2 (λq hq=>by simpa using hp q (by simp[hq]))
   ·refine⟨this.1,by rw[this.2];simp⟩
   ·intro t;rw[Env.aG];have VP:=hp p (by simp)
    by_cases e:p=t
    ·subst e;simp[VP,h1]
    ·rw[if_neg (λx=>e (Option.some.inj x))]
     have:=h t
     simpa[Array.getD_eq_getD_getElem?,Array.getElem?_setIfInBounds_ne e] using this
theorem xb (ps:Array Tmp)(args:Array Value)(tmps:Array Value):
  (ps.zip args).foldl (λtmps (t,a)=>tmps.setIfInBounds t a) tmps=(ps.toList.zip args.toList).foldl (λt p=>t.setIfInBounds p.1 p.2) tmps:=by
 rw[←Array.foldl_toList,Array.toList_zip]
theorem Gr {i:Nat}{e:bA}{v:Value}{l:Loc}(h:Rl i e H=some (v,H'))(hS:cQ P μ H w B)(hl:μ i=some l):
  ∃w',(Instr.endRound l.b (match e with| .normal=>none| .ret=>some .ret| .exit id=>some (.exit id))).run P w= .ok v w'∧cw v=true∧cQ P μ H' w' B∧eX B w w':=by
 unfold Rl at h;split at h
 case h_2=>cases h
 rename_i L ho;cases h;obtain⟨l2,DZ,Wc,r2,N2,k1,k2,k3,k4,k5,k6,k7,k8⟩:=hS.ef.ok _ _ ho;rw[hl] at DZ;cases DZ;have gH:=(Array.getElem?_eq_some_iff.1 k1).1;cases e with
 |normal=>exact⟨_,run_endRound _ k1,rfl,hS.jK (o':=.loop L (.of .normal)) ho hl ⟨_,N2,World.putObj_heap_same gH,k2,k3,k4,k5,k6,k7,⟨rfl,rfl⟩⟩,eX.rC k1 Wc rfl⟩
 |ret=>exact⟨_,run_endRound _ k1,rfl,hS.jK (o':=.loop L (.of .ret)) ho hl ⟨_,N2,World.putObj_heap_same gH,k2,k3,k4,k5,k6,k7,⟨rfl,rfl⟩⟩,eX.rC k1 Wc rfl⟩
 |exit id=>exact⟨_,run_endRound _ k1,rfl,hS.jK (o':=.loop L (.of (.exit id))) ho hl ⟨_,N2,World.putObj_heap_same gH,k2,k3,k4,k5,k6,k7,⟨rfl,rfl⟩⟩,eX.rC k1 Wc rfl⟩
theorem B6 {C:ae}{n i:Nat}{args:List Value}{v:Value}(hC:Ab P B C)(hm:P.follows .mixedOrders=true)(h:qv P C n i args H=some (v,H')):N5 P B i args H v H':=by
 intro ro rn μ w fC l hS oF hl;unfold qv at h;split at h
 case h_2=>cases h
 rename_i L ho;split at h
 case isFalse=>cases h
 rename_i hlen;obtain⟨l2,DZ,Wc,r,N,k1,k2,k3,k4,k5,k6,k7,k8,k9⟩:=hS.ef.ok _ _ ho;rw[hl] at DZ;cases DZ;simp only[iW,Bool.and_eq_true,List.all_eq_true,decide_eq_true_eq] at k6;obtain⟨⟨hps,hka⟩,hkb⟩:=k6;have uU:fC.toArray.size=r.params.size:=by rw[k2];have:=oF.1;simp;omega
 have Wd:=Em L.ps.toList args fC (L.keep.zip L.vs) r.tmps k7 oF (λp hp=>Nat.lt_of_lt_of_le (hps p hp) k5)
 refine⟨r.fn,_,r.assign,r.body,run_yield k1 uU,roundIn_of_wpIn trivial ?_⟩;rw[k2,xb,k3,k4];have hlp: ∀{w1:World} {r1:Loop},w1.heap[l.b]? =some (.loop r1)→∀l₀,some l.b=some l₀→∃r,w1.heap[l₀]? =some (.loop r):=λhr l₀ e=>by cases e;exact⟨_,hr⟩
 cases ha:ev P C L.keep n L.assign (L.keep.map (HO (L.keep.zip L.vs) (L.ps.toList.zip args)).get) H with
 |none=>rw[ha] at h;cases h
 |some q=>
  obtain⟨e1,Ge,H1⟩:=q;rw[ha] at h;cases e1 with
  |ret=>cases h
  |exit id=>cases h
  |normal=>
   simp only at h;refine wpIn_mono (tB (ro:=some l.b) (rm:=rn) (N:=N) hC hm L.assign _ H _ μ {tmps:=_,defers:=[]} w (hlp k1) hka ha (by simpa[Wd.2] using k5) hS (Wd.1.keep L.keep)) ?_
   rintro e a1 w1 ⟨rfl,μ1,h1,h2,h3,h4,h5,h6⟩;simp only[w9];split at h
   case h_2=>cases h
   rename_i L1 Kr;obtain⟨l3,We,aeg,r3,N3,m1,m2,m3,m4,m5,m6,m7,m8,m9⟩:=h5.ef.ok _ _ Kr;have Ry:=h1 _ _ hl;rw[Ry] at We;cases We;have gH:=(Array.getElem?_eq_some_iff.1 m1).1;refine⟨_,run_beginRound m1 m8,?_⟩;have hS2:cQ P μ1 (H1.jK i (.loop L1 .busy)) (w1.putObj l.b (.loop {r3 with state:=.busy})) B:=
    h5.jK Kr Ry ⟨_,N3,World.putObj_heap_same gH,m2,m3,m4,m5,m6,m7,rfl⟩
   have hB2:eX B w1 (w1.putObj l.b (.loop {r3 with state:=.busy})):=eX.rC m1 Wc rfl
   cases hb:ev P C L.keep n L.body Ge (H1.jK i (.loop L1 .busy)) with
   |none=>rw[hb] at h;cases h
   |some q2=>
    obtain⟨e2,VX,H2⟩:=q2;rw[hb] at h;simp only at h;refine wpIn_mono (tB (ro:=some l.b) (rm:=rn) (N:=N) hC hm L.body Ge _ _ μ1 a1 _ (hlp (World.putObj_heap_same gH)) hkb hb (by rw[h4];simpa[Wd.2] using k5) hS2 h2) ?_
    rintro e a2 w2 ⟨rfl,μ2,g1,g2,g3,g4,g5,g6⟩;obtain⟨w3,dJ,hp,ZN,hB3⟩:=Gr h g5 (g1 _ _ Ry);have hB:=h6.trans (hB2.trans (g6.trans hB3));cases e2<;>exact⟨v,w3,dJ,v,μ2,rfl,Mu.le_trans h1 g1,.plain _ hp,ZN,hB⟩
def B7 (tmps:Array Value):ResultVar→Sem Value
 | .tmp t=>pure (tmps.getD t undef)
 | .cell ad t=>do loadVar t (←asAddr (tmps.getD ad undef))
theorem Gs (fn:Func)(tmps:Array Value):results fn tmps=(do let vs ←fn.results.mapM (B7 tmps);pure (if h:vs.size=1 then vs[0] else .tuple vs)):=by
 unfold results
 congr 1
theorem Gt {fn:Func}{E:Env}{a:Act}{v:Value}(hS:cQ P μ H w B)(hE:gV μ E.get a.tmps)(h:BG P fn E H=some v): ∃v',(results fn a.tmps).run P w= .ok v' w∧VR μ v v':=by
 unfold BG at h;rw[Option.map_eq_some_iff] at h;obtain⟨vs,hvs,rfl⟩:=h;have key: ∀(l:List ResultVar) (vs:List Value),l.mapM (λ(r:ResultVar)=>match r with
   | .tmp t=>some (E.get t)
   | .cell ad t=>jj P t (E.get ad) H)=some vs→
   ∃jf,(l.mapM (B7 a.tmps)).run P w= .ok jf w∧cY μ vs jf:=by
  intro l;induction l with
  |nil=>intro vs h;simp at h;subst h;exact⟨[],rfl,.nil⟩
  |cons r l ih=>
   intro vs h;rw[List.mapM_cons] at h;simp only[Option.bind_eq_bind,Option.bind_eq_some_iff] at h;obtain⟨v,hv,VX,h2,e⟩:=h;cases e;obtain⟨jf,hr,mA⟩:=ih VX h2;have h1: ∃v',(B7 a.tmps r).run P w= .ok v' w∧VR μ v v':=by
    cases r with
    |tmp t=>simp only at hv;cases hv;exact⟨_,rfl,hE t⟩
    |cell ad t=>
     simp only at hv;have hp:=hE ad;obtain⟨v',u6,sT⟩:=ur (P:=P) hS hp hv;refine⟨v',?_,sT⟩;have acC: ∃x,E.get ad= .pointer (some x):=by
      unfold jj at hv;split at hv
      ·rename_i e;exact⟨_,e⟩
      ·cases hv
     obtain⟨x,e⟩:=acC;rw[e] at hp;obtain⟨i,off,l,_,_,e2⟩:=hp.nc;rw[e2] at u6;unfold B7;simp only[e2];simpa[Instr.loadAt,Instr.sureAddr,asAddr] using u6
   obtain⟨v',VK,DA⟩:=h1;refine⟨v'::jf,?_,.cons DA mA⟩;rw[List.mapM_cons];simp only[Sem.run_bind,VK,Result.andThen_ok,hr,Sem.run_pure]
 obtain⟨jf,hr,mA⟩:=key _ _ hvs;have dJ:(results fn a.tmps).run P w= .ok (if h:jf.toArray.size=1 then jf.toArray[0] else .tuple jf.toArray) w:=by
  rw[Gs,Array.mapM_eq_mapM_toList];simp only[Sem.run_bind,Sem.run_map,hr,Result.andThen_ok,Sem.run_pure]
 refine⟨_,dJ,?_⟩
 match vs,mA with
 | [],mA=>rw[mA.ic];exact cY.tuple (c:=#[]) (c':=#[]) .nil
 | [v],mA=>
  obtain⟨v',y,rfl,h1,h2⟩:=mA.fJ;rw[h2.ic];exact h1
 |v1::v2::r,mA=>
  obtain⟨u1,y,rfl,h1,h2⟩:=mA.fJ;obtain⟨u2,y2,rfl,h3,h4⟩:=h2.fJ;have: ¬(u1::u2::y2).toArray.size=1:=by simp
  rw[dif_neg this];exact cY.tuple (by simpa using mA)
theorem B8 {fn:Func}{tmps:Array Value}{rm:Nat}{R:Ending→World→Prop}{w0:World}(hB0:B≤w0.heap.size): ∀(Ds:List Nat) (w:World),Ds.Nodup→(∀D∈Ds,w0.heap.size≤D∧w.heap[D]? =some (.deferred (some [])))→
  cQ P μ H w B→eX B w0 w→(∀w',cQ P μ H w' B→eX B w0 w'→LeavesIn (FR none) rm P fn tmps R [] .returning w')→LeavesInM (FR none) rm P fn tmps R (Ds.map UB) .returning w:=by
 intro Ds;induction Ds with
 |nil=>intro w _ _ hS hB hk;exact hk w hS hB
 |cons D Ds ih=>
  intro w hn hD hS hB hk;rw[List.nodup_cons] at hn;obtain⟨hn1,hn2⟩:=hn;obtain⟨h1,h2⟩:=hD D (by simp)
  refine⟨by simp,.inl ⟨D,_,rfl,run_takeDeferred h2,ih _ hn2 ?_ (hS.Rp h2 rfl (λ_ e=>by cases e) (λ_ _ e=>by cases e)) (hB.VS h2 (Nat.le_trans hB0 h1) h1) hk⟩⟩
  intro E hE;refine⟨(hD E (by simp[hE])).1,?_⟩
  rw[World.putObj_heap_other (by rintro rfl;exact hn1 hE)]
  exact(hD E (by simp[hE])).2
theorem aar {f:FuncId}{i:Nat}(h:f<P.funcs.size)(e:f=P.funcs.size+i):False:=by
 subst e;exact absurd h (Nat.not_lt.2 (Nat.le_add_right _ _))
theorem oK {bad:List FuncId}{G:ae}(dR:nb P bad=true)(hGh:gK G)(hG: ∀f args H v H',bad.contains f=true→G f args H=some (v,H')→
   (∃fn,P.funcs[f]? =some fn∧fn.body.isSome=true∧(fn.name== "runtime.NumGoroutine")=false)∧BY P B f args H v H'): ∀n,Ab P B (gC P bad G n):=by
 simp only[nb,Bool.and_eq_true] at dR;obtain⟨hm,jy⟩:=dR;intro n;induction n with
 |zero=>exact⟨λf args H v H' h=>(by simp only[gC] at h;cases h),AM hGh _⟩
 |succ n ih=>
  refine⟨λf args H v H' h=>?_,AM hGh _⟩
  simp only[gC] at h;split at h
  ·rename_i hb;obtain⟨⟨fn,zP,h1⟩,h2⟩:=hG f args H v H' hb h;have gH:=(Array.getElem?_eq_some_iff.1 zP).1;exact⟨λ_=>⟨⟨fn,zP,h1⟩,h2⟩,λi e=>(aar gH e).elim⟩
  ·rename_i hb;split at h
   ·rename_i fn zP;have gH:f<P.funcs.size:=(Array.getElem?_eq_some_iff.1 zP).1;refine⟨λ_=>?_,λi e=>(aar gH e).elim⟩
    split at h
    ·rename_i c hc;have hof:=List.all_eq_true.1 jy f (List.mem_range.2 gH);have NT:bad.contains f=false:=by simpa using hb
     rw[NT,zP] at hof;simp only[Bool.false_or,FQ,hc,Bool.and_eq_true,Bool.not_eq_true'] at hof;obtain⟨aas,aat⟩:=hof;refine⟨⟨fn,zP,by rw[hc];rfl,aas⟩,?_⟩
     intro μ w fC hS oF;refine(callsIn_wide (n:=0)).1 (callsIn_of_wp_marks (F:=FR none) zP hc trivial ?_);have aau:gV μ (Env.get ((mZ fn).zip ((mZ fn).map λt=>args.getD t undef))) (fC.toArray++Array.replicate (fn.ntmps-fC.toArray.size) undef):=by
      refine gV.keep (E:=λt=>args.getD t undef) ?_ _
      intro t;have hu:VR μ undef undef:=cY.tuple (c:=#[]) (c':=#[]) .nil;show VR μ (args.getD t undef) _
      rw[List.getD_eq_getElem?_getD,Array.getD_eq_getD_getElem?,Array.getElem?_append];cases hx:args[t]? with
      |none=>
       have h1:args.length≤t:=List.getElem?_eq_none_iff.1 hx;rw[if_neg (by have:=oF.1;simp;omega),Array.getElem?_replicate]
       split<;>exact hu
      |some x=>
       obtain⟨x',e,r⟩:=oF.2 t x hx;have h1:t<fC.length:=(List.getElem?_eq_some_iff.1 e).1;rw[if_pos (by simpa using h1)]
       simpa[e] using r
     have go: ∀r,ev P (gC P bad G n) (mZ fn) n c ((mZ fn).map λt=>args.getD t undef) H=some r→(r.1= .normal∨r.1= .ret)→(BG P fn ((mZ fn).zip r.2.1) r.2.2).map (·,r.2.2)=some (v,H')→
       c.wpIn (FR none) 0 P (bodyPostM (FR none) 0 P fn (HT P B μ w v H'))
        {tmps:=fC.toArray++Array.replicate (fn.ntmps-fC.toArray.size) undef,defers:=[]} w:=by
      intro r AN hx Kv;rw[Option.map_eq_some_iff] at Kv;obtain⟨v2,Kv,e⟩:=Kv;cases e;refine wpIn_mono (tB (ro:=none) (N:=fn.ntmps) ih hm c _ H r μ _ w (λ_ e=>by cases e) aat AN (by simp;omega) hS aau) ?_
      rintro e a' w' ⟨rfl,μ',h1,h2,⟨Ds,d1,d2,d3⟩,h4,h5,h6⟩;have key:LeavesInM (FR none) 0 P fn a'.tmps (HT P B μ w v r.2.2) a'.defers .returning w':=by
       rw[d1,List.append_nil];refine B8 hS.base Ds w' d2 d3 h5 h6 ?_;intro w'' h5 h6;obtain⟨v',u6,sT⟩:=Gt (P:=P) h5 h2 Kv;exact⟨v',u6,v',μ',rfl,h1,sT,h5,h6⟩
      rcases hx with hx|hx<;>rw[hx]<;>exact key
     split at h
     ·rename_i vs H2 AN;exact go _ AN (.inl rfl) h
     ·rename_i vs H2 AN;exact go _ AN (.inr rfl) h
     ·cases h
    ·cases h
   ·rename_i zP;have ZH:P.funcs.size≤f:=by
     by_cases hl:f<P.funcs.size
     ·rw[Array.getElem?_eq_getElem hl] at zP;cases zP
     ·exact Nat.le_of_not_lt hl
    refine⟨λhl=>absurd hl (Nat.not_lt.2 ZH),?_⟩
    rintro i rfl;rw[show P.funcs.size+i-P.funcs.size=i by omega] at h
    exact B6 ih hm h
theorem Eo {bad:List FuncId}{G:ae}{n:Nat}{f:FuncId}{args:List Value}{r:Value×aa}(hS:cQ P μ H w w.heap.size)(hb:bad.contains f=true→G f args H=some r→f<P.funcs.size)(h:gC P bad G n f args H=some r):f<P.funcs.size:=by
 cases n with
 |zero=>simp only[gC] at h;cases h
 |succ n=>
  simp only[gC] at h;split at h
  ·rename_i Ob;exact hb Ob h
  ·split at h
   ·rename_i fn zP;exact(Array.getElem?_eq_some_iff.1 zP).1
   ·unfold qv at h;split at h
    ·rename_i L ho;obtain⟨l,_,h1,h2⟩:=hS.ef.ok _ _ ho;have:=h2.lt
     omega
    ·cases h
def Ny:ae:=λ_ _ _=>none
theorem Ep:gK Ny:=λ_ _ _ _ _ _ _ _ h=>by simp[Ny] at h
theorem cQ.empty (w:World):cQ P (λ_=>none) [] w w.heap.size:=
 ⟨Nat.le_refl _,λi b h=>by simp[aa.get] at h,λ_ _=>rfl,λi j b c l m h=>by simp[aa.get] at h,λi b l h=>by simp[aa.get] at h,⟨λi o h=>by simp[aa.ef] at h,λi j o p l m h=>by simp[aa.ef] at h⟩,λi h=>by simp at h⟩
end Go.Proofs.YtgfgglponbmgmaaGreatA.Am
end
