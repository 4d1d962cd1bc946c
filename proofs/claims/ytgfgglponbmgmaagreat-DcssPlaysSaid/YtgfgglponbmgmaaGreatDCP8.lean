/- Texts of the proof of dcssPlays_holds, put together by a small program of ours (names shortened, spaces taken out). No condition beyond the given statement. -/
import Derived.Test.YtgfgglponbmgmaaGreatDCP7
import Derived.Test.YtgfgglponbmgmaaGreatDCP3
import Derived.Deep.LoopGhost
import Derived.Scope
import Derived.RangeFuncLeaves
set_option linter.unusedVariables false
set_option linter.unusedSimpArgs false
set_option linter.unnecessarySimpa false
noncomputable section
section
namespace Go.Proofs.YtgfgglponbmgmaaGreatA.Am
open Go.RowKit (Below)
variable {P:Program} {μ:Mu} {H H':aa} {w:World} {B:Nat}
def w6:bG→Exit
 | .normal=>.normal
 | .exit id=>.exit id
 | .ret=>.ret
def Gf (P:Program)(B:Nat)(keep:List Nat)(μ:Mu)(a:Act)(w:World)(r:bG×List Value×aa)(x:Exit)(a':Act)(w':World):Prop:=
 x=w6 r.1∧∃μ',μ.le μ'∧gW μ' (Env.get (keep.zip r.2.1)) a'.tmps∧Marks w w' a a'∧a'.tmps.size=a.tmps.size∧cO P μ' r.2.2 w' B∧eW B w w'
theorem Gf.trans {keep:List Nat}{μ μ1:Mu}{a a1:Act}{w w1:World}{r:bG×List Value×aa}{x:Exit}{a':Act}{w':World}(hle:μ.le μ1)(hd:Marks w w1 a a1)(hs:a1.tmps.size=a.tmps.size)(hb:eW B w w1)(h:Gf P B keep μ1 a1 w1 r x a' w'):Gf P B keep μ a w r x a' w':=by
 obtain⟨hx,μ',h1,h2,h3,h4,h5,h6⟩:=h;exact⟨hx,μ',Mu.le_trans hle h1,h2,hd.trans hb h6 h3,h4.trans hs,h5,hb.trans h6⟩
theorem HP (E:Nat→Value): ∀(keep:List Nat) (t:Nat),Env.get (keep.zip (keep.map E)) t=if t∈keep then E t else HF
 | [],t=>by simp[Env.get]
 |k::r,t=>by
  simp only[List.map_cons,List.zip_cons_cons,Env.get];by_cases e:t=k
  ·subst e;simp
  ·rw[if_neg e,HP E r t];simp[e]
theorem gW.keep {E:Nat→Value}{tmps:Array Value}(h:gW μ E tmps)(keep:List Nat):gW μ (Env.get (keep.zip (keep.map E))) tmps:=by
 intro t;rw[HP];split
 ·exact h t
 ·exact .HF _
theorem iW {b:Frame}{c:Code}{k:List Item}{a:Act}{cs:List Frame}:step P (lone (b.atR a (.code (.scope c)::k)) cs w)= .next (lone (b.atR a (.code c:: .inScope c::k)) cs w):=
 step_lone_go (by simp[stepG,stepG.exec,Frame.atR])
theorem Ad {b:Frame}{c:Code}{k:List Item}{a:Act}{cs:List Frame}:step P (lone (b.atR a (.inScope c::k)) cs w)= .next (lone (b.atR a k) cs w):=
 step_lone_go (by simp[stepG,stepG.exec,Frame.atR])
theorem pE {F:Fence}{n:Nat}{Q:Exit→Act→World→Prop}{a:Act}{c:Code}(h:c.wpIn F n P (Exit.noGoto Q) a w):(Code.scope c).wpIn F n P Q a w:=by
 intro b k cs iJ hb hr;have h0:(lone (b.atR a (.code (.scope c)::k)) cs w).fenced P F:=fenced_calm hb hr rfl;obtain⟨e,a₁,w₁,hq,uX⟩:=h b (.inScope c::k) cs iJ hb hr;cases e with
 |normal=>exact⟨.normal,a₁,w₁,hq,.head h0 iW (StepsIn.trans uX (.one (fenced_calm hb hr rfl) Ad))⟩
 |exit id=>
  have hx:exitTo id (.inScope c::k)=exitTo id k:=by simp[exitTo]
  exact⟨.exit id,a₁,w₁,hq,λk' hk=>.head h0 iW (uX.1 k' (by rw[hx];exact hk)),
   λWh hk=>let ⟨k₁,h1,h2⟩:=uX.2 Wh (by rw[hx];exact hk);⟨k₁,h1,.head h0 iW h2⟩⟩
 |goto l=>exact hq.elim
 |ret=>exact⟨_,a₁,w₁,hq,.of_steps (.one h0 iW) uX⟩
 |panic ch=>exact⟨_,a₁,w₁,hq,.of_steps (.one h0 iW) uX⟩
 |outgrown=>exact⟨_,a₁,w₁,hq,.of_steps (.one h0 iW) uX⟩
theorem UW {ro:Option Nat}{w w1:World}(iJ: ∀l₀,ro=some l₀→∃r,w.heap[l₀]? =some (.loop r))(h:eW B w w1): ∀l₀,ro=some l₀→∃r,w1.heap[l₀]? =some (.loop r):=λl₀ e=>by
 obtain⟨r,hr⟩:=iJ l₀ e;obtain⟨r',h1,_⟩:=h.loops _ _ hr;exact⟨r',h1⟩
theorem Ae {ro:Option Nat}{rm:Nat}{C:ae}{keep:List Nat}{N id:Nat}{ops:Array Oper}{draw:Bool}{vs:List Value}{a:Act}{r:bG×List Value×aa}(hC:z9 P B C)(hm:P.follows .mixedOrders=true)(dH:om P N ops draw=true)(n:Nat)(h:ev P C keep n (.region id ops draw) vs H=some r)(hN:N≤a.tmps.size)(hS:cO P μ H w B)(hE:gW μ (Env.get (keep.zip vs)) a.tmps):
  (Code.region id ops draw).wpIn (FR ro) rm P (Gf P B keep μ a w r) a w:=by
 simp only[ev] at h;cases hr:fg P C ops draw (keep.zip vs) H with
 |none=>rw[hr] at h;cases h
 |some q=>
  obtain⟨E',H'⟩:=q;rw[hr] at h;simp only at h;cases h;have fin: ∀a' w' μ',μ.le μ'→gW μ' E'.get a'.tmps→a'.defers=a.defers→a'.tmps.size=a.tmps.size→cO P μ' H' w' B→eW B w w'→
    Gf P B keep μ a w (.normal,keep.map E'.get,H') .normal a' w':=
   λa' w' μ' h1 h2 h3 h4 h5 h6=>⟨rfl,μ',h1,h2.keep keep,.of_eq h3,h4,h5,h6⟩
  cases draw with
  |true=>exact D9 hC hm dH hr hN hS hE fin
  |false=>
   refine wpIn_region_list ?_;simp only[om,Bool.and_eq_true,List.all_eq_true] at dH;refine Aa (N:=N) hC ops.toList _ _ _ _ μ a w (by simpa[fg] using hr) ?_ hN hS hE fin
   intro o ho d hd;have:=dH.1 o ho
   rw[hd] at this;simpa using this
theorem N4 {ro:Option Nat}{rm:Nat}{C:ae}{keep:List Nat}{N n:Nat}{g:Operand}{ps:Array Tmp}{x y:Code}{vs:List Value}{r:bG×List Value×aa}{a:Act}(hC:z9 P B C)(iJ: ∀l₀,ro=some l₀→∃r,w.heap[l₀]? =some (.loop r))(dH:iO P N (.rangeFunc g ps x y)=true)(h:ev P C keep n (.rangeFunc g ps x y) vs H=some r)(hN:N≤a.tmps.size)(hS:cO P μ H w B)(hE:gW μ (Env.get (keep.zip vs)) a.tmps):(Code.rangeFunc g ps x y).wpIn (FR ro) rm P (Gf P B keep μ a w r) a w:=by
 simp only[ev] at h;split at h
 case h_2=>cases h
 rename_i gf first captured hg
 split at h
 case isFalse=>cases h
 rename_i hgs;cases hc:C gf (first.toList++[.func (.yield H.length) #[] #[]]++captured.toList) (H.km (.loop ⟨keep,vs,ps,x,y⟩ .ready)) with
 |none=>rw[hc] at h;cases h
 |some q=>
  obtain⟨v,H2⟩:=q;rw[hc] at h;simp only at h;obtain⟨⟨fn,zO,hb,hnm⟩,Wp⟩:=(hC.told _ _ _ _ _ hc).1 hgs;have kW:=hE.eval g;rw[gg,hg] at kW;obtain⟨kX,fQ,eg,e1,e2⟩:=kW.wu rfl;refine wpIn_rangeFunc ?_;intro fnn _;obtain⟨l,mk,w1,rc,WC,RA,p1,p2,p3,p4,p5,p6,hle,hB1,DP,hM1⟩:=FV iJ hS fnn a ps x y;obtain⟨hmu,hS1⟩:=hS.km DP hB1.size hle (o:=.loop ⟨keep,vs,ps,x,y⟩ .ready)
   ⟨rc,N,RA,p1,p2,p3,by rw[p4];exact hN,by simpa[iO] using dH,by rw[p4];exact hE,p5,p6⟩
  have oB:cU (μ.up H.length ⟨l,0,0,0⟩) (first.toList++[.func (.yield H.length) #[] #[]]++captured.toList) (kX.toList++[.func (.yield l) #[] #[]]++fQ.toList):=
   ((e1.mono hmu).append (.cons (.UL _ ⟨l,0,0,0⟩ Mu.aO) .nil)).append (e2.mono hmu)
  have DY:=Wp _ w1 _ hS1 oB;have uX:(kX.toList++[Value.func (.yield l) #[] #[]]++fQ.toList).toArray=kX++ #[Value.func (.yield l) #[] #[]]++fQ:=by
   rw[←Array.toList_inj];simp
  rw[uX] at DY;have NJ: ¬fn.body=none:=by intro e;rw[e] at hb;simp at hb
  have Wq: ¬fn.name= "runtime.NumGoroutine" :=by simpa using hnm
  refine⟨l,mk,w1,{target:=.fn (.func gf) fQ,args:=kX++ #[.func (.yield l) #[] #[]]},w1,gf,kX++ #[.func (.yield l) #[] #[]]++fQ,w1,WC,?_,?_,?_,?_,?_⟩
  ·simp[resolve,eg,Deferred.ofValue];rfl
  ·intro _ _;trivial
  ·simp[invoke,callFunc,zO,Wq,NJ]
  ·intro h;simp[Fence.wide] at h
  have hci:CallsIn (FR ro) (rm-1) P gf (kX++ #[Value.func (.yield l) #[] #[]]++fQ) w1 _:=NS DY;refine hci.mono ?_;rintro e w2 ⟨v',μ2,rfl,aaw,_,hS2,hB2⟩;have Kg:μ2 H.length=some ⟨l,0,0,0⟩:=aaw _ _ Mu.aO;have Kj:=Mu.le_trans hmu aaw;cases ho:H2.dZ H.length with
  |none=>rw[ho] at h;simp[zT] at h
  |some o=>
   rw[ho] at h;cases o with
   |Fv k es=>simp[zT] at h
   |loop L s=>
    obtain⟨l2,DK,WD,r2,N2,k1,k2,k3,k4,k5,k6,k7,k8⟩:=hS2.dZ.ok _ _ ho;rw[Kg] at DK;cases DK;have hnb:r2.state≠ .busy:=by
     intro e;cases s with
     |ready=>rw[k8.1] at e;cases e
     |busy=>simp[zT] at h
     |ret=>rw[k8.1] at e;cases e
     |exit id=>rw[k8.1] at e;cases e
    have iP:=run_endLoop (P:=P) k1 hnb;have hS3:cO P μ2 (H2.kill H.length) (w2.putObj l (.loop {r2 with state:=.exhausted})) B:=hS2.aak ho Kg
    have hB3:eW B w2 (w2.putObj l (.loop {r2 with state:=.exhausted})):=eW.rp k1 WD rfl
    have hB4:=hB1.trans (hB2.trans hB3);have hM:Marks w (w2.putObj l (.loop {r2 with state:=.exhausted})) a {a with defers:=mk++a.defers}:=hM1.trans hB1 (hB2.trans hB3) (.of_eq rfl)
    generalize w2.putObj l (.loop {r2 with state:=.exhausted})=W at iP hS3 hB3 hB4 hM
    refine⟨r2.pending,W,iP,?_⟩;cases s with
    |ready=>
     simp only[zT] at h;cases h;rw[k8.2];exact⟨rfl,μ2,Kj,hE.mono Kj,hM,rfl,hS3,hB4⟩
    |busy=>simp[zT] at h
    |ret=>
     simp only[zT] at h;cases h;rw[k8.2];exact wpIn_ret ⟨rfl,μ2,Kj,hE.mono Kj,hM,rfl,hS3,hB4⟩
    |exit id=>
     simp only[zT] at h;cases h;rw[k8.2];exact wpIn_exit ⟨rfl,μ2,Kj,hE.mono Kj,hM,rfl,hS3,hB4⟩
theorem tx {ro:Option Nat}{rm:Nat}{C:ae}{keep:List Nat}{N n:Nat}(hC:z9 P B C)(hm:P.follows .mixedOrders=true): ∀(c:Code) (vs:List Value) (H:aa) (r:bG×List Value×aa) (μ:Mu) (a:Act) (w:World),
  (∀l₀,ro=some l₀→∃r,w.heap[l₀]? =some (.loop r))→iO P N c=true→ev P C keep n c vs H=some r→N≤a.tmps.size→cO P μ H w B→gW μ (Env.get (keep.zip vs)) a.tmps→c.wpIn (FR ro) rm P (Gf P B keep μ a w r) a w:=by
 intro c;induction c with
 |skip=>
  intro vs H r μ a w iJ _ h hN hS hE;simp only[ev] at h;cases h;exact wpIn_skip ⟨rfl,μ,μ.le_refl,hE,.of_eq rfl,rfl,hS,eW.refl _ _⟩
 |label l=>
  intro vs H r μ a w iJ _ h hN hS hE;simp only[ev] at h;cases h;exact wpIn_label ⟨rfl,μ,μ.le_refl,hE,.of_eq rfl,rfl,hS,eW.refl _ _⟩
 |exit id=>
  intro vs H r μ a w iJ _ h hN hS hE;simp only[ev] at h;cases h;exact wpIn_exit ⟨rfl,μ,μ.le_refl,hE,.of_eq rfl,rfl,hS,eW.refl _ _⟩
 |ret=>
  intro vs H r μ a w iJ _ h hN hS hE;simp only[ev] at h;cases h;exact wpIn_ret ⟨rfl,μ,μ.le_refl,hE,.of_eq rfl,rfl,hS,eW.refl _ _⟩
 |goto l=>intro vs H r μ a w _ _ h;simp only[ev] at h;cases h
 |refuse s=>intro vs H r μ a w _ _ h;simp only[ev] at h;cases h
 |rangeFunc f ps x y _ _=>intro vs H r μ a w iJ dH h hN hS hE;exact N4 hC iJ dH h hN hS hE
 |region id ops draw=>
  intro vs H r μ a w iJ dH h hN hS hE;exact Ae hC hm dH n h hN hS hE
 |seq x y Wm Wn=>
  intro vs H r μ a w iJ dH h hN hS hE;simp only[iO,Bool.and_eq_true] at dH;simp only[ev] at h;cases hx:ev P C keep n x vs H with
  |none=>rw[hx] at h;cases h
  |some q=>
   refine wpIn_seq (wpIn_mono (Wm vs H q μ a w iJ dH.1 hx hN hS hE) ?_);rintro e a1 w1 hp;obtain⟨e1,F1,H1⟩:=q;rw[hx] at h;have HQ:=hp;obtain⟨rfl,μ1,h1,h2,h3,h4,h5,h6⟩:=hp;cases e1 with
   |normal=>
    simp only at h;exact wpIn_mono (Wn F1 H1 r μ1 a1 w1 (UW iJ h6) dH.2 h (by rw[h4];exact hN) h5 h2) λ_ _ _ hq=>hq.trans h1 h3 h4 h6
   |exit id=>simp only at h;cases h;exact HQ
   |ret=>simp only at h;cases h;exact HQ
 |cond c x y Wm Wn=>
  intro vs H r μ a w iJ dH h hN hS hE;simp only[iO,Bool.and_eq_true] at dH;simp only[ev] at h;split at h
  ·rename_i t hc;have hv:=hE.eval c;rw[gg,hc] at hv;refine wpIn_cond hv.bool ?_;cases t with
   |true=>simp only[if_true] at h ⊢;exact Wm vs H r μ a w iJ dH.1 h hN hS hE
   |false=>simp only[Bool.false_eq_true,if_false] at h ⊢;exact Wn vs H r μ a w iJ dH.2 h hN hS hE
  ·cases h
 |block id c ih=>
  intro vs H r μ a w iJ dH h hN hS hE;simp only[ev] at h;cases hx:ev P C keep n c vs H with
  |none=>rw[hx] at h;cases h
  |some q=>
   refine wpIn_block (wpIn_mono (ih vs H q μ a w iJ dH hx hN hS hE) ?_);rintro e a1 w1 hp;obtain⟨e1,F1,H1⟩:=q;rw[hx] at h;have HQ:=hp;obtain⟨rfl,rest⟩:=hp;cases e1 with
   |normal=>simp only at h;cases h;exact HQ
   |ret=>simp only at h;cases h;exact HQ
   |exit id'=>
    simp only at h;by_cases e:id'=id
    ·rw[if_pos e] at h;cases h;simp only[w6,Exit.inBlock,e,if_true];exact⟨rfl,rest⟩
    ·rw[if_neg e] at h;cases h;simp only[w6,Exit.inBlock,e,if_false];exact⟨rfl,rest⟩
 |scope c ih=>
  intro vs H r μ a w iJ dH h hN hS hE;simp only[ev] at h;refine pE (wpIn_mono (ih vs H r μ a w iJ dH h hN hS hE) ?_);rintro e a1 w1 hp;have HQ:=hp;obtain⟨rfl,rest⟩:=hp;cases hr:r.1<;>simp only[w6,Exit.noGoto,hr] at HQ ⊢ <;>exact HQ
 |loop c ih=>
  intro vs H r μ a w iJ dH h hN hS hE;simp only[ev] at h;refine wpIn_loop_ghost (λk a1 w1=>∃F1 H1 μ1,iter k (ev P C keep n c) F1 H1=some r∧μ.le μ1∧gW μ1 (Env.get (keep.zip F1)) a1.tmps∧Marks w w1 a a1∧a1.tmps.size=a.tmps.size∧cO P μ1 H1 w1 B∧eW B w w1) n
   ⟨vs,H,μ,h,μ.le_refl,hE,.of_eq rfl,rfl,hS,eW.refl _ _⟩ ?_
  rintro k a1 w1 ⟨F1,H1,μ1,Nm,g1,g2,g3,g4,g5,g6⟩;cases k with
  |zero=>simp only[iter] at Nm;cases Nm
  |succ k=>
   simp only[iter] at Nm;cases hx:ev P C keep n c F1 H1 with
   |none=>rw[hx] at Nm;cases Nm
   |some q=>
    refine wpIn_mono (ih F1 H1 q μ1 a1 w1 (UW iJ g6) dH hx (by rw[g4];exact hN) g5 g2) ?_
    rintro e a2 w2 hp;obtain⟨e1,Wo,H2⟩:=q;rw[hx] at Nm;have HQ:=hp;obtain⟨rfl,μ2,h1,h2,h3,h4,h5,h6⟩:=hp;cases e1 with
    |normal=>
     simp only at Nm;exact⟨k,Nat.lt_succ_self k,Wo,H2,μ2,Nm,Mu.le_trans g1 h1,h2,g3.trans g6 h6 h3,h4.trans g4,h5,g6.trans h6⟩
    |exit id=>simp only at Nm;cases Nm;exact HQ.trans g1 g3 g4 g6
    |ret=>simp only at Nm;cases Nm;exact HQ.trans g1 g3 g4 g6
theorem Ea: ∀(ps:List Nat) (args fq:List Value) (E:Env) (tmps:Array Value),gW μ E.get tmps→cU μ args fq→(∀p∈ps,p<tmps.size)→
  gW μ (HG E (ps.zip args)).get ((ps.zip fq).foldl (λt p=>t.setIfInBounds p.1 p.2) tmps)∧((ps.zip fq).foldl (λ(t:Array Value) p=>t.setIfInBounds p.1 p.2) tmps).size=tmps.size:=by
 intro ps;induction ps with
 |nil=>intro args fq E tmps h _ _;exact⟨h,rfl⟩
 |cons p ps ih=>
  intro args fq E tmps h ha hp;cases args with
  |nil=>rw[ha.ia];exact⟨h,rfl⟩
  |cons v args=>
   obtain⟨v',y,rfl,h1,h2⟩:=ha.fG;simp only[List.zip_cons_cons,HG,List.foldl_cons];have:=ih args y (E.put (some p) v) (tmps.setIfInBounds p v') ?_ h2 (λq hq=>by simpa using hp q (by simp[hq]))
   ·refine⟨this.1,by rw[this.2];simp⟩
   ·intro t;rw[Env.aH];have hpl:=hp p (by simp)
    by_cases e:p=t
    ·subst e;simp[hpl,h1]
    ·rw[if_neg (λx=>e (Option.some.inj x))]
     have:=h t
     simpa[Array.getD_eq_getD_getElem?,Array.getElem?_setIfInBounds_ne e] using this
theorem w7 (ps:Array Tmp)(args:Array Value)(tmps:Array Value):
  (ps.zip args).foldl (λtmps (t,a)=>tmps.setIfInBounds t a) tmps=(ps.toList.zip args.toList).foldl (λt p=>t.setIfInBounds p.1 p.2) tmps:=by
 rw[←Array.foldl_toList,Array.toList_zip]
theorem Gg {i:Nat}{e:bG}{v:Value}{l:Loc}(h:Rn i e H=some (v,H'))(hS:cO P μ H w B)(hl:μ i=some l):
  ∃w',(Instr.endRound l.b (match e with| .normal=>none| .ret=>some .ret| .exit id=>some (.exit id))).run P w= .ok v w'∧cu v=true∧cO P μ H' w' B∧eW B w w':=by
 unfold Rn at h;split at h
 case h_2=>cases h
 rename_i L ho;cases h;obtain⟨l2,DK,WD,r2,N2,k1,k2,k3,k4,k5,k6,k7,k8⟩:=hS.dZ.ok _ _ ho;rw[hl] at DK;cases DK;have gF:=(Array.getElem?_eq_some_iff.1 k1).1;cases e with
 |normal=>exact⟨_,run_endRound _ k1,rfl,hS.jJ (o':=.loop L (.of .normal)) ho hl ⟨_,N2,World.putObj_heap_same gF,k2,k3,k4,k5,k6,k7,⟨rfl,rfl⟩⟩,eW.rp k1 WD rfl⟩
 |ret=>exact⟨_,run_endRound _ k1,rfl,hS.jJ (o':=.loop L (.of .ret)) ho hl ⟨_,N2,World.putObj_heap_same gF,k2,k3,k4,k5,k6,k7,⟨rfl,rfl⟩⟩,eW.rp k1 WD rfl⟩
 |exit id=>exact⟨_,run_endRound _ k1,rfl,hS.jJ (o':=.loop L (.of (.exit id))) ho hl ⟨_,N2,World.putObj_heap_same gF,k2,k3,k4,k5,k6,k7,⟨rfl,rfl⟩⟩,eW.rp k1 WD rfl⟩
theorem BZ {C:ae}{n i:Nat}{args:List Value}{v:Value}(hC:z9 P B C)(hm:P.follows .mixedOrders=true)(h:ql P C n i args H=some (v,H')):NT P B i args H v H':=by
 intro ro rn μ w fq l hS oB hl;unfold ql at h;split at h
 case h_2=>cases h
 rename_i L ho;split at h
 case isFalse=>cases h
 rename_i hlen;obtain⟨l2,DK,WD,r,N,k1,k2,k3,k4,k5,k6,k7,k8,k9⟩:=hS.dZ.ok _ _ ho;rw[hl] at DK;cases DK;simp only[iO,Bool.and_eq_true,List.all_eq_true,decide_eq_true_eq] at k6;obtain⟨⟨hps,hka⟩,hkb⟩:=k6;have uS:fq.toArray.size=r.params.size:=by rw[k2];have:=oB.1;simp;omega
 have WE:=Ea L.ps.toList args fq (L.keep.zip L.vs) r.tmps k7 oB (λp hp=>Nat.lt_of_lt_of_le (hps p hp) k5)
 refine⟨r.fn,_,r.assign,r.body,run_yield k1 uS,roundIn_of_wpIn trivial ?_⟩;rw[k2,w7,k3,k4];have hlp: ∀{w1:World} {r1:Loop},w1.heap[l.b]? =some (.loop r1)→∀l₀,some l.b=some l₀→∃r,w1.heap[l₀]? =some (.loop r):=λhr l₀ e=>by cases e;exact⟨_,hr⟩
 cases ha:ev P C L.keep n L.assign (L.keep.map (HG (L.keep.zip L.vs) (L.ps.toList.zip args)).get) H with
 |none=>rw[ha] at h;cases h
 |some q=>
  obtain⟨e1,F1,H1⟩:=q;rw[ha] at h;cases e1 with
  |ret=>cases h
  |exit id=>cases h
  |normal=>
   simp only at h;refine wpIn_mono (tx (ro:=some l.b) (rm:=rn) (N:=N) hC hm L.assign _ H _ μ {tmps:=_,defers:=[]} w (hlp k1) hka ha (by simpa[WE.2] using k5) hS (WE.1.keep L.keep)) ?_
   rintro e a1 w1 ⟨rfl,μ1,h1,h2,h3,h4,h5,h6⟩;simp only[w6];split at h
   case h_2=>cases h
   rename_i L1 Kd;obtain⟨l3,WG,aed,r3,N3,m1,m2,m3,m4,m5,m6,m7,m8,m9⟩:=h5.dZ.ok _ _ Kd;have RA:=h1 _ _ hl;rw[RA] at WG;cases WG;have gF:=(Array.getElem?_eq_some_iff.1 m1).1;refine⟨_,run_beginRound m1 m8,?_⟩;have hS2:cO P μ1 (H1.jJ i (.loop L1 .busy)) (w1.putObj l.b (.loop {r3 with state:=.busy})) B:=
    h5.jJ Kd RA ⟨_,N3,World.putObj_heap_same gF,m2,m3,m4,m5,m6,m7,rfl⟩
   have hB2:eW B w1 (w1.putObj l.b (.loop {r3 with state:=.busy})):=eW.rp m1 WD rfl
   cases hb:ev P C L.keep n L.body F1 (H1.jJ i (.loop L1 .busy)) with
   |none=>rw[hb] at h;cases h
   |some q2=>
    obtain⟨e2,Wo,H2⟩:=q2;rw[hb] at h;simp only at h;refine wpIn_mono (tx (ro:=some l.b) (rm:=rn) (N:=N) hC hm L.body F1 _ _ μ1 a1 _ (hlp (World.putObj_heap_same gF)) hkb hb (by rw[h4];simpa[WE.2] using k5) hS2 h2) ?_
    rintro e a2 w2 ⟨rfl,μ2,g1,g2,g3,g4,g5,g6⟩;obtain⟨w3,dI,hp,hS3,hB3⟩:=Gg h g5 (g1 _ _ RA);have hB:=h6.trans (hB2.trans (g6.trans hB3));cases e2<;>exact⟨v,w3,dI,v,μ2,rfl,Mu.le_trans h1 g1,.plain _ hp,hS3,hB⟩
def B0 (tmps:Array Value):ResultVar→Sem Value
 | .tmp t=>pure (tmps.getD t undef)
 | .cell ad t=>do loadVar t (←asAddr (tmps.getD ad undef))
theorem Gh (fn:Func)(tmps:Array Value):results fn tmps=(do let vs ←fn.results.mapM (B0 tmps);pure (if h:vs.size=1 then vs[0] else .tuple vs)):=by
 unfold results
 congr 1
theorem Gi {fn:Func}{E:Env}{a:Act}{v:Value}(hS:cO P μ H w B)(hE:gW μ E.get a.tmps)(h:BD P fn E H=some v): ∃v',(results fn a.tmps).run P w= .ok v' w∧VR μ v v':=by
 unfold BD at h;rw[Option.map_eq_some_iff] at h;obtain⟨vs,hvs,rfl⟩:=h;have key: ∀(l:List ResultVar) (vs:List Value),l.mapM (λ(r:ResultVar)=>match r with
   | .tmp t=>some (E.get t)
   | .cell ad t=>jf P t (E.get ad) H)=some vs→
   ∃iY,(l.mapM (B0 a.tmps)).run P w= .ok iY w∧cU μ vs iY:=by
  intro l;induction l with
  |nil=>intro vs h;simp at h;subst h;exact⟨[],rfl,.nil⟩
  |cons r l ih=>
   intro vs h;rw[List.mapM_cons] at h;simp only[Option.bind_eq_bind,Option.bind_eq_some_iff] at h;obtain⟨v,hv,Wo,h2,e⟩:=h;cases e;obtain⟨iY,hr,mq⟩:=ih Wo h2;have h1: ∃v',(B0 a.tmps r).run P w= .ok v' w∧VR μ v v':=by
    cases r with
    |tmp t=>simp only at hv;cases hv;exact⟨_,rfl,hE t⟩
    |cell ad t=>
     simp only at hv;have hp:=hE ad;obtain⟨v',u4,rI⟩:=uq (P:=P) hS hp hv;refine⟨v',?_,rI⟩;have acG: ∃x,E.get ad= .pointer (some x):=by
      unfold jf at hv;split at hv
      ·rename_i e;exact⟨_,e⟩
      ·cases hv
     obtain⟨x,e⟩:=acG;rw[e] at hp;obtain⟨i,off,l,_,_,e2⟩:=hp.mX;rw[e2] at u4;unfold B0;simp only[e2];simpa[Instr.loadAt,Instr.sureAddr,asAddr] using u4
   obtain⟨v',Wc,Dv⟩:=h1;refine⟨v'::iY,?_,.cons Dv mq⟩;rw[List.mapM_cons];simp only[Sem.run_bind,Wc,Result.andThen_ok,hr,Sem.run_pure]
 obtain⟨iY,hr,mq⟩:=key _ _ hvs;have dI:(results fn a.tmps).run P w= .ok (if h:iY.toArray.size=1 then iY.toArray[0] else .tuple iY.toArray) w:=by
  rw[Gh,Array.mapM_eq_mapM_toList];simp only[Sem.run_bind,Sem.run_map,hr,Result.andThen_ok,Sem.run_pure]
 refine⟨_,dI,?_⟩
 match vs,mq with
 | [],mq=>rw[mq.ia];exact cU.tuple (c:=#[]) (c':=#[]) .nil
 | [v],mq=>
  obtain⟨v',y,rfl,h1,h2⟩:=mq.fG;rw[h2.ia];exact h1
 |v1::v2::r,mq=>
  obtain⟨u1,y,rfl,h1,h2⟩:=mq.fG;obtain⟨u2,y2,rfl,h3,h4⟩:=h2.fG;have: ¬(u1::u2::y2).toArray.size=1:=by simp
  rw[dif_neg this];exact cU.tuple (by simpa using mq)
theorem B4 {fn:Func}{tmps:Array Value}{rm:Nat}{R:Ending→World→Prop}{w0:World}(hB0:B≤w0.heap.size): ∀(Ds:List Nat) (w:World),Ds.Nodup→(∀D∈Ds,w0.heap.size≤D∧w.heap[D]? =some (.deferred (some [])))→
  cO P μ H w B→eW B w0 w→(∀w',cO P μ H w' B→eW B w0 w'→LeavesIn (FR none) rm P fn tmps R [] .returning w')→LeavesInM (FR none) rm P fn tmps R (Ds.map UP) .returning w:=by
 intro Ds;induction Ds with
 |nil=>intro w _ _ hS hB hk;exact hk w hS hB
 |cons D Ds ih=>
  intro w hn hD hS hB hk;rw[List.nodup_cons] at hn;obtain⟨hn1,hn2⟩:=hn;obtain⟨h1,h2⟩:=hD D (by simp)
  refine⟨by simp,.inl ⟨D,_,rfl,run_takeDeferred h2,ih _ hn2 ?_ (hS.Rr h2 rfl (λ_ e=>by cases e) (λ_ _ e=>by cases e)) (hB.Wj h2 (Nat.le_trans hB0 h1) h1) hk⟩⟩
  intro E hE;refine⟨(hD E (by simp[hE])).1,?_⟩
  rw[World.putObj_heap_other (by rintro rfl;exact hn1 hE)]
  exact(hD E (by simp[hE])).2
theorem aax {f:FuncId}{i:Nat}(h:f<P.funcs.size)(e:f=P.funcs.size+i):False:=by
 subst e;exact absurd h (Nat.not_lt.2 (Nat.le_add_right _ _))
theorem oG {bad:List FuncId}{G:ae}(dH:mW P bad=true)(hGh:gJ G)(hG: ∀f args H v H',bad.contains f=true→G f args H=some (v,H')→
   (∃fn,P.funcs[f]? =some fn∧fn.body.isSome=true∧(fn.name== "runtime.NumGoroutine")=false)∧BU P B f args H v H'): ∀n,z9 P B (gC P bad G n):=by
 simp only[mW,Bool.and_eq_true] at dH;obtain⟨hm,jz⟩:=dH;intro n;induction n with
 |zero=>exact⟨λf args H v H' h=>(by simp only[gC] at h;cases h),AL hGh _⟩
 |succ n ih=>
  refine⟨λf args H v H' h=>?_,AL hGh _⟩
  simp only[gC] at h;split at h
  ·rename_i hb;obtain⟨⟨fn,zO,h1⟩,h2⟩:=hG f args H v H' hb h;have gF:=(Array.getElem?_eq_some_iff.1 zO).1;exact⟨λ_=>⟨⟨fn,zO,h1⟩,h2⟩,λi e=>(aax gF e).elim⟩
  ·rename_i hb;split at h
   ·rename_i fn zO;have gF:f<P.funcs.size:=(Array.getElem?_eq_some_iff.1 zO).1;refine⟨λ_=>?_,λi e=>(aax gF e).elim⟩
    split at h
    ·rename_i c hc;have hof:=List.all_eq_true.1 jz f (List.mem_range.2 gF);have NJ:bad.contains f=false:=by simpa using hb
     rw[NJ,zO] at hof;simp only[Bool.false_or,FE,hc,Bool.and_eq_true,Bool.not_eq_true'] at hof;obtain⟨aay,aaz⟩:=hof;refine⟨⟨fn,zO,by rw[hc];rfl,aay⟩,?_⟩
     intro μ w fq hS oB;refine(callsIn_wide (n:=0)).1 (callsIn_of_wp_marks (F:=FR none) zO hc trivial ?_);have aaA:gW μ (Env.get ((mV fn).zip ((mV fn).map λt=>args.getD t undef))) (fq.toArray++Array.replicate (fn.ntmps-fq.toArray.size) undef):=by
      refine gW.keep (E:=λt=>args.getD t undef) ?_ _
      intro t;have hu:VR μ undef undef:=cU.tuple (c:=#[]) (c':=#[]) .nil;show VR μ (args.getD t undef) _
      rw[List.getD_eq_getElem?_getD,Array.getD_eq_getD_getElem?,Array.getElem?_append];cases hx:args[t]? with
      |none=>
       have h1:args.length≤t:=List.getElem?_eq_none_iff.1 hx;rw[if_neg (by have:=oB.1;simp;omega),Array.getElem?_replicate]
       split<;>exact hu
      |some x=>
       obtain⟨x',e,r⟩:=oB.2 t x hx;have h1:t<fq.length:=(List.getElem?_eq_some_iff.1 e).1;rw[if_pos (by simpa using h1)]
       simpa[e] using r
     have go: ∀r,ev P (gC P bad G n) (mV fn) n c ((mV fn).map λt=>args.getD t undef) H=some r→(r.1= .normal∨r.1= .ret)→(BD P fn ((mV fn).zip r.2.1) r.2.2).map (·,r.2.2)=some (v,H')→
       c.wpIn (FR none) 0 P (bodyPostM (FR none) 0 P fn (HL P B μ w v H'))
        {tmps:=fq.toArray++Array.replicate (fn.ntmps-fq.toArray.size) undef,defers:=[]} w:=by
      intro r AM hx Kh;rw[Option.map_eq_some_iff] at Kh;obtain⟨v2,Kh,e⟩:=Kh;cases e;refine wpIn_mono (tx (ro:=none) (N:=fn.ntmps) ih hm c _ H r μ _ w (λ_ e=>by cases e) aaz AM (by simp;omega) hS aaA) ?_
      rintro e a' w' ⟨rfl,μ',h1,h2,⟨Ds,d1,d2,d3⟩,h4,h5,h6⟩;have key:LeavesInM (FR none) 0 P fn a'.tmps (HL P B μ w v r.2.2) a'.defers .returning w':=by
       rw[d1,List.append_nil];refine B4 hS.base Ds w' d2 d3 h5 h6 ?_;intro w'' h5 h6;obtain⟨v',u4,rI⟩:=Gi (P:=P) h5 h2 Kh;exact⟨v',u4,v',μ',rfl,h1,rI,h5,h6⟩
      rcases hx with hx|hx<;>rw[hx]<;>exact key
     split at h
     ·rename_i vs H2 AM;exact go _ AM (.inl rfl) h
     ·rename_i vs H2 AM;exact go _ AM (.inr rfl) h
     ·cases h
    ·cases h
   ·rename_i zO;have hge:P.funcs.size≤f:=by
     by_cases hl:f<P.funcs.size
     ·rw[Array.getElem?_eq_getElem hl] at zO;cases zO
     ·exact Nat.le_of_not_lt hl
    refine⟨λhl=>absurd hl (Nat.not_lt.2 hge),?_⟩
    rintro i rfl;rw[show P.funcs.size+i-P.funcs.size=i by omega] at h
    exact BZ ih hm h
theorem Eb {bad:List FuncId}{G:ae}{n:Nat}{f:FuncId}{args:List Value}{r:Value×aa}(hS:cO P μ H w w.heap.size)(hb:bad.contains f=true→G f args H=some r→f<P.funcs.size)(h:gC P bad G n f args H=some r):f<P.funcs.size:=by
 cases n with
 |zero=>simp only[gC] at h;cases h
 |succ n=>
  simp only[gC] at h;split at h
  ·rename_i NZ;exact hb NZ h
  ·split at h
   ·rename_i fn zO;exact(Array.getElem?_eq_some_iff.1 zO).1
   ·unfold ql at h;split at h
    ·rename_i L ho;obtain⟨l,_,h1,h2⟩:=hS.dZ.ok _ _ ho;have:=h2.lt
     omega
    ·cases h
def Nn:ae:=λ_ _ _=>none
theorem Ec:gJ Nn:=λ_ _ _ _ _ _ _ _ h=>by simp[Nn] at h
theorem cO.empty (w:World):cO P (λ_=>none) [] w w.heap.size:=
 ⟨Nat.le_refl _,λi b h=>by simp[aa.get] at h,λ_ _=>rfl,λi j b c l m h=>by simp[aa.get] at h,λi b l h=>by simp[aa.get] at h,⟨λi o h=>by simp[aa.dZ] at h,λi j o p l m h=>by simp[aa.dZ] at h⟩,λi h=>by simp at h⟩
end Go.Proofs.YtgfgglponbmgmaaGreatA.Am
end
