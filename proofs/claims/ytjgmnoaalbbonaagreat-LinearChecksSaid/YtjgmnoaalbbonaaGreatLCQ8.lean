/- Texts of the proof of linearChecks_holds, put together by a small program of ours (names shortened, spaces taken out). No condition beyond the given statement. -/
import Derived.Test.YtjgmnoaalbbonaaGreatLCQ7
import Derived.Test.YtjgmnoaalbbonaaGreatLCQ3
import Derived.Deep.LoopGhost
import Derived.Scope
import Derived.RangeFuncLeaves
set_option linter.unusedVariables false
set_option linter.unusedSimpArgs false
set_option linter.unnecessarySimpa false
noncomputable section
section
namespace Go.Proofs.YtjgmnoaalbbonaaGreatA.Am
open Go.RowKit (Below)
variable {P:Program} {μ:Mu} {H H':ae} {w:World} {B:Nat}
def tn:cg→Exit
 | .normal=>.normal
 | .exit id=>.exit id
 | .ret=>.ret
def EI (P:Program)(B:Nat)(keep:List Nat)(μ:Mu)(a:Act)(w:World)(r:cg×List Value×ae)(x:Exit)(a':Act)(w':World):Prop:=
 x=tn r.1∧∃μ',μ.le μ'∧fX μ' (Env.get (keep.zip r.2.1)) a'.tmps∧Marks w w' a a'∧a'.tmps.size=a.tmps.size∧da P μ' r.2.2 w' B∧gE B w w'
theorem EI.trans {keep:List Nat}{μ μ1:Mu}{a a1:Act}{w w1:World}{r:cg×List Value×ae}{x:Exit}{a':Act}{w':World}(hle:μ.le μ1)(hd:Marks w w1 a a1)(hs:a1.tmps.size=a.tmps.size)(hb:gE B w w1)(h:EI P B keep μ1 a1 w1 r x a' w'):EI P B keep μ a w r x a' w':=by
 obtain⟨hx,μ',h1,h2,h3,h4,h5,h6⟩:=h;exact⟨hx,μ',Mu.le_trans hle h1,h2,hd.trans hb h6 h3,h4.trans hs,h5,hb.trans h6⟩
theorem LG (E:Nat→Value): ∀(keep:List Nat) (t:Nat),Env.get (keep.zip (keep.map E)) t=if t∈keep then E t else lY
 | [],t=>by simp[Env.get]
 |k::r,t=>by
  simp only[List.map_cons,List.zip_cons_cons,Env.get];by_cases e:t=k
  ·subst e;simp
  ·rw[if_neg e,LG E r t];simp[e]
theorem fX.keep {E:Nat→Value}{tmps:Array Value}(h:fX μ E tmps)(keep:List Nat):fX μ (Env.get (keep.zip (keep.map E))) tmps:=by
 intro t;rw[LG];split
 ·exact h t
 ·exact .lY _
theorem jV {b:Frame}{c:Code}{k:List Item}{a:Act}{cs:List Frame}:step P (lone (b.atR a (.code (.scope c)::k)) cs w)= .next (lone (b.atR a (.code c:: .inScope c::k)) cs w):=
 step_lone_go (by simp[stepG,stepG.exec,Frame.atR])
theorem CJ {b:Frame}{c:Code}{k:List Item}{a:Act}{cs:List Frame}:step P (lone (b.atR a (.inScope c::k)) cs w)= .next (lone (b.atR a k) cs w):=
 step_lone_go (by simp[stepG,stepG.exec,Frame.atR])
theorem sg {F:Fence}{n:Nat}{Q:Exit→Act→World→Prop}{a:Act}{c:Code}(h:c.wpIn F n P (Exit.noGoto Q) a w):(Code.scope c).wpIn F n P Q a w:=by
 intro b k cs fQ hb hr;have h0:(lone (b.atR a (.code (.scope c)::k)) cs w).fenced P F:=fenced_calm hb hr rfl;obtain⟨e,a₁,w₁,hq,xL⟩:=h b (.inScope c::k) cs fQ hb hr;cases e with
 |normal=>exact⟨.normal,a₁,w₁,hq,.head h0 jV (StepsIn.trans xL (.one (fenced_calm hb hr rfl) CJ))⟩
 |exit id=>
  have hx:exitTo id (.inScope c::k)=exitTo id k:=by simp[exitTo]
  exact⟨.exit id,a₁,w₁,hq,λk' hk=>.head h0 jV (xL.1 k' (by rw[hx];exact hk)),
   λUm hk=>let ⟨k₁,h1,h2⟩:=xL.2 Um (by rw[hx];exact hk);⟨k₁,h1,.head h0 jV h2⟩⟩
 |goto l=>exact hq.elim
 |ret=>exact⟨_,a₁,w₁,hq,.of_steps (.one h0 jV) xL⟩
 |panic ch=>exact⟨_,a₁,w₁,hq,.of_steps (.one h0 jV) xL⟩
 |outgrown=>exact⟨_,a₁,w₁,hq,.of_steps (.one h0 jV) xL⟩
theorem QM {ro:Option Nat}{w w1:World}(fQ: ∀l₀,ro=some l₀→∃r,w.heap[l₀]? =some (.loop r))(h:gE B w w1): ∀l₀,ro=some l₀→∃r,w1.heap[l₀]? =some (.loop r):=λl₀ e=>by
 obtain⟨r,hr⟩:=fQ l₀ e;obtain⟨r',h1,_⟩:=h.loops _ _ hr;exact⟨r',h1⟩
theorem CK {ro:Option Nat}{rm:Nat}{C:ag}{keep:List Nat}{N id:Nat}{ops:Array Oper}{draw:Bool}{vs:List Value}{a:Act}{r:cg×List Value×ae}(hC:xK P B C)(hm:P.follows .mixedOrders=true)(gJ:qA P N ops draw=true)(n:Nat)(h:ev P C keep n (.region id ops draw) vs H=some r)(hN:N≤a.tmps.size)(hS:da P μ H w B)(hE:fX μ (Env.get (keep.zip vs)) a.tmps):
  (Code.region id ops draw).wpIn (FR ro) rm P (EI P B keep μ a w r) a w:=by
 simp only[ev] at h;cases hr:gz P C ops draw (keep.zip vs) H with
 |none=>rw[hr] at h;cases h
 |some q=>
  obtain⟨E',H'⟩:=q;rw[hr] at h;simp only at h;cases h;have fin: ∀a' w' μ',μ.le μ'→fX μ' E'.get a'.tmps→a'.defers=a.defers→a'.tmps.size=a.tmps.size→da P μ' H' w' B→gE B w w'→
    EI P B keep μ a w (.normal,keep.map E'.get,H') .normal a' w':=
   λa' w' μ' h1 h2 h3 h4 h5 h6=>⟨rfl,μ',h1,h2.keep keep,.of_eq h3,h4,h5,h6⟩
  cases draw with
  |true=>exact Hp hC hm gJ hr hN hS hE fin
  |false=>
   refine wpIn_region_list ?_;simp only[qA,Bool.and_eq_true,List.all_eq_true] at gJ;refine CC (N:=N) hC ops.toList _ _ _ _ μ a w (by simpa[gz] using hr) ?_ hN hS hE fin
   intro o ho d hd;have:=gJ.1 o ho
   rw[hd] at this;simpa using this
theorem QN {ro:Option Nat}{rm:Nat}{C:ag}{keep:List Nat}{N n:Nat}{g:Operand}{ps:Array Tmp}{x y:Code}{vs:List Value}{r:cg×List Value×ae}{a:Act}(hC:xK P B C)(fQ: ∀l₀,ro=some l₀→∃r,w.heap[l₀]? =some (.loop r))(gJ:fK P N (.rangeFunc g ps x y)=true)(h:ev P C keep n (.rangeFunc g ps x y) vs H=some r)(hN:N≤a.tmps.size)(hS:da P μ H w B)(hE:fX μ (Env.get (keep.zip vs)) a.tmps):(Code.rangeFunc g ps x y).wpIn (FR ro) rm P (EI P B keep μ a w r) a w:=by
 simp only[ev] at h;split at h
 case h_2=>cases h
 rename_i gf first captured hg
 split at h
 case isFalse=>cases h
 rename_i hgs;cases hc:C gf (first.toList++[.func (.yield H.length) #[] #[]]++captured.toList) (H.gX (.loop ⟨keep,vs,ps,x,y⟩ .ready)) with
 |none=>rw[hc] at h;cases h
 |some q=>
  obtain⟨v,H2⟩:=q;rw[hc] at h;simp only at h;obtain⟨⟨fn,Cn,hb,UW⟩,Y9⟩:=(hC.told _ _ _ _ _ hc).1 hgs;have nN:=hE.eval g;rw[ir,hg] at nN;obtain⟨mI,hU,eg,e1,e2⟩:=nN.y8 rfl;refine wpIn_rangeFunc ?_;intro fnn _;obtain⟨l,mk,w1,rc,Zi,U1,p1,p2,p3,p4,p5,p6,hle,hB1,GH,hM1⟩:=Jd fQ hS fnn a ps x y;obtain⟨hmu,hS1⟩:=hS.gX GH hB1.size hle (o:=.loop ⟨keep,vs,ps,x,y⟩ .ready)
   ⟨rc,N,U1,p1,p2,p3,by rw[p4];exact hN,by simpa[fK] using gJ,by rw[p4];exact hE,p5,p6⟩
  have qF:dR (μ.up H.length ⟨l,0,0,0⟩) (first.toList++[.func (.yield H.length) #[] #[]]++captured.toList) (mI.toList++[.func (.yield l) #[] #[]]++hU.toList):=
   ((e1.mono hmu).append (.cons (.XZ _ ⟨l,0,0,0⟩ Mu.aQ) .nil)).append (e2.mono hmu)
  have mJ:=Y9 _ w1 _ hS1 qF;have xL:(mI.toList++[Value.func (.yield l) #[] #[]]++hU.toList).toArray=mI++ #[Value.func (.yield l) #[] #[]]++hU:=by
   rw[←Array.toList_inj];simp
  rw[xL] at mJ;have tN: ¬fn.body=none:=by intro e;rw[e] at hb;simp at hb
  have Za: ¬fn.name= "runtime.NumGoroutine" :=by simpa using UW
  refine⟨l,mk,w1,{target:=.fn (.func gf) hU,args:=mI++ #[.func (.yield l) #[] #[]]},w1,gf,mI++ #[.func (.yield l) #[] #[]]++hU,w1,Zi,?_,?_,?_,?_,?_⟩
  ·simp[resolve,eg,Deferred.ofValue];rfl
  ·intro _ _;trivial
  ·simp[invoke,callFunc,Cn,Za,tN]
  ·intro h;simp[Fence.wide] at h
  have hci:CallsIn (FR ro) (rm-1) P gf (mI++ #[Value.func (.yield l) #[] #[]]++hU) w1 _:=QA mJ;refine hci.mono ?_;rintro e w2 ⟨v',μ2,rfl,EJ,_,U2,Jw⟩;have GI:μ2 H.length=some ⟨l,0,0,0⟩:=EJ _ _ Mu.aQ;have NC:=Mu.le_trans hmu EJ;cases ho:H2.db H.length with
  |none=>rw[ho] at h;simp[Cu] at h
  |some o=>
   rw[ho] at h;cases o with
   |kz k es=>simp[Cu] at h
   |loop L s=>
    obtain⟨l2,GG,Zj,r2,N2,k1,k2,k3,k4,k5,k6,k7,k8⟩:=U2.db.ok _ _ ho;rw[GI] at GG;cases GG;have hnb:r2.state≠ .busy:=by
     intro e;cases s with
     |ready=>rw[k8.1] at e;cases e
     |busy=>simp[Cu] at h
     |ret=>rw[k8.1] at e;cases e
     |exit id=>rw[k8.1] at e;cases e
    have mf:=run_endLoop (P:=P) k1 hnb;have hS3:da P μ2 (H2.kill H.length) (w2.putObj l (.loop {r2 with state:=.exhausted})) B:=U2.adG ho GI
    have hB3:gE B w2 (w2.putObj l (.loop {r2 with state:=.exhausted})):=gE.uw k1 Zj rfl
    have hB4:=hB1.trans (Jw.trans hB3);have hM:Marks w (w2.putObj l (.loop {r2 with state:=.exhausted})) a {a with defers:=mk++a.defers}:=hM1.trans hB1 (Jw.trans hB3) (.of_eq rfl)
    generalize w2.putObj l (.loop {r2 with state:=.exhausted})=W at mf hS3 hB3 hB4 hM
    refine⟨r2.pending,W,mf,?_⟩;cases s with
    |ready=>
     simp only[Cu] at h;cases h;rw[k8.2];exact⟨rfl,μ2,NC,hE.mono NC,hM,rfl,hS3,hB4⟩
    |busy=>simp[Cu] at h
    |ret=>
     simp only[Cu] at h;cases h;rw[k8.2];exact wpIn_ret ⟨rfl,μ2,NC,hE.mono NC,hM,rfl,hS3,hB4⟩
    |exit id=>
     simp only[Cu] at h;cases h;rw[k8.2];exact wpIn_exit ⟨rfl,μ2,NC,hE.mono NC,hM,rfl,hS3,hB4⟩
theorem jW {ro:Option Nat}{rm:Nat}{C:ag}{keep:List Nat}{N n:Nat}(hC:xK P B C)(hm:P.follows .mixedOrders=true): ∀(c:Code) (vs:List Value) (H:ae) (r:cg×List Value×ae) (μ:Mu) (a:Act) (w:World),
  (∀l₀,ro=some l₀→∃r,w.heap[l₀]? =some (.loop r))→fK P N c=true→ev P C keep n c vs H=some r→N≤a.tmps.size→da P μ H w B→fX μ (Env.get (keep.zip vs)) a.tmps→c.wpIn (FR ro) rm P (EI P B keep μ a w r) a w:=by
 intro c;induction c with
 |skip=>
  intro vs H r μ a w fQ _ h hN hS hE;simp only[ev] at h;cases h;exact wpIn_skip ⟨rfl,μ,μ.le_refl,hE,.of_eq rfl,rfl,hS,gE.refl _ _⟩
 |label l=>
  intro vs H r μ a w fQ _ h hN hS hE;simp only[ev] at h;cases h;exact wpIn_label ⟨rfl,μ,μ.le_refl,hE,.of_eq rfl,rfl,hS,gE.refl _ _⟩
 |exit id=>
  intro vs H r μ a w fQ _ h hN hS hE;simp only[ev] at h;cases h;exact wpIn_exit ⟨rfl,μ,μ.le_refl,hE,.of_eq rfl,rfl,hS,gE.refl _ _⟩
 |ret=>
  intro vs H r μ a w fQ _ h hN hS hE;simp only[ev] at h;cases h;exact wpIn_ret ⟨rfl,μ,μ.le_refl,hE,.of_eq rfl,rfl,hS,gE.refl _ _⟩
 |goto l=>intro vs H r μ a w _ _ h;simp only[ev] at h;cases h
 |refuse s=>intro vs H r μ a w _ _ h;simp only[ev] at h;cases h
 |rangeFunc f ps x y _ _=>intro vs H r μ a w fQ gJ h hN hS hE;exact QN hC fQ gJ h hN hS hE
 |region id ops draw=>
  intro vs H r μ a w fQ gJ h hN hS hE;exact CK hC hm gJ n h hN hS hE
 |seq x y Y6 Y7=>
  intro vs H r μ a w fQ gJ h hN hS hE;simp only[fK,Bool.and_eq_true] at gJ;simp only[ev] at h;cases hx:ev P C keep n x vs H with
  |none=>rw[hx] at h;cases h
  |some q=>
   refine wpIn_seq (wpIn_mono (Y6 vs H q μ a w fQ gJ.1 hx hN hS hE) ?_);rintro e a1 w1 hp;obtain⟨e1,Hc,H1⟩:=q;rw[hx] at h;have EK:=hp;obtain⟨rfl,μ1,h1,h2,h3,h4,h5,h6⟩:=hp;cases e1 with
   |normal=>
    simp only at h;exact wpIn_mono (Y7 Hc H1 r μ1 a1 w1 (QM fQ h6) gJ.2 h (by rw[h4];exact hN) h5 h2) λ_ _ _ hq=>hq.trans h1 h3 h4 h6
   |exit id=>simp only at h;cases h;exact EK
   |ret=>simp only at h;cases h;exact EK
 |cond c x y Y6 Y7=>
  intro vs H r μ a w fQ gJ h hN hS hE;simp only[fK,Bool.and_eq_true] at gJ;simp only[ev] at h;split at h
  ·rename_i t hc;have hv:=hE.eval c;rw[ir,hc] at hv;refine wpIn_cond hv.bool ?_;cases t with
   |true=>simp only[if_true] at h ⊢;exact Y6 vs H r μ a w fQ gJ.1 h hN hS hE
   |false=>simp only[Bool.false_eq_true,if_false] at h ⊢;exact Y7 vs H r μ a w fQ gJ.2 h hN hS hE
  ·cases h
 |block id c ih=>
  intro vs H r μ a w fQ gJ h hN hS hE;simp only[ev] at h;cases hx:ev P C keep n c vs H with
  |none=>rw[hx] at h;cases h
  |some q=>
   refine wpIn_block (wpIn_mono (ih vs H q μ a w fQ gJ hx hN hS hE) ?_);rintro e a1 w1 hp;obtain⟨e1,Hc,H1⟩:=q;rw[hx] at h;have EK:=hp;obtain⟨rfl,rest⟩:=hp;cases e1 with
   |normal=>simp only at h;cases h;exact EK
   |ret=>simp only at h;cases h;exact EK
   |exit id'=>
    simp only at h;by_cases e:id'=id
    ·rw[if_pos e] at h;cases h;simp only[tn,Exit.inBlock,e,if_true];exact⟨rfl,rest⟩
    ·rw[if_neg e] at h;cases h;simp only[tn,Exit.inBlock,e,if_false];exact⟨rfl,rest⟩
 |scope c ih=>
  intro vs H r μ a w fQ gJ h hN hS hE;simp only[ev] at h;refine sg (wpIn_mono (ih vs H r μ a w fQ gJ h hN hS hE) ?_);rintro e a1 w1 hp;have EK:=hp;obtain⟨rfl,rest⟩:=hp;cases hr:r.1<;>simp only[tn,Exit.noGoto,hr] at EK ⊢ <;>exact EK
 |loop c ih=>
  intro vs H r μ a w fQ gJ h hN hS hE;simp only[ev] at h;refine wpIn_loop_ghost (λk a1 w1=>∃Hc H1 μ1,iter k (ev P C keep n c) Hc H1=some r∧μ.le μ1∧fX μ1 (Env.get (keep.zip Hc)) a1.tmps∧Marks w w1 a a1∧a1.tmps.size=a.tmps.size∧da P μ1 H1 w1 B∧gE B w w1) n
   ⟨vs,H,μ,h,μ.le_refl,hE,.of_eq rfl,rfl,hS,gE.refl _ _⟩ ?_
  rintro k a1 w1 ⟨Hc,H1,μ1,iL,g1,g2,g3,g4,g5,g6⟩;cases k with
  |zero=>simp only[iter] at iL;cases iL
  |succ k=>
   simp only[iter] at iL;cases hx:ev P C keep n c Hc H1 with
   |none=>rw[hx] at iL;cases iL
   |some q=>
    refine wpIn_mono (ih Hc H1 q μ1 a1 w1 (QM fQ g6) gJ hx (by rw[g4];exact hN) g5 g2) ?_
    rintro e a2 w2 hp;obtain⟨e1,Y8,H2⟩:=q;rw[hx] at iL;have EK:=hp;obtain⟨rfl,μ2,h1,h2,h3,h4,h5,h6⟩:=hp;cases e1 with
    |normal=>
     simp only at iL;exact⟨k,Nat.lt_succ_self k,Y8,H2,μ2,iL,Mu.le_trans g1 h1,h2,g3.trans g6 h6 h3,h4.trans g4,h5,g6.trans h6⟩
    |exit id=>simp only at iL;cases iL;exact EK.trans g1 g3 g4 g6
    |ret=>simp only at iL;cases iL;exact EK.trans g1 g3 g4 g6
theorem Hr: ∀(ps:List Nat) (args eI:List Value) (E:Env) (tmps:Array Value),fX μ E.get tmps→dR μ args eI→(∀p∈ps,p<tmps.size)→
  fX μ (Dp E (ps.zip args)).get ((ps.zip eI).foldl (λt p=>t.setIfInBounds p.1 p.2) tmps)∧((ps.zip eI).foldl (λ(t:Array Value) p=>t.setIfInBounds p.1 p.2) tmps).size=tmps.size:=by
 intro ps;induction ps with
 |nil=>intro args eI E tmps h _ _;exact⟨h,rfl⟩
 |cons p ps ih=>
  intro args eI E tmps h ha hp;cases args with
  |nil=>rw[ha.jh];exact⟨h,rfl⟩
  |cons v args=>
   obtain⟨v',y,rfl,h1,h2⟩:=ha.gL;simp only[List.zip_cons_cons,Dp,List.foldl_cons];have:=ih args y (E.put (some p) v) (tmps.setIfInBounds p v') ?_ h2 (λq hq=>by simpa using hp q (by simp[hq]))
   ·refine⟨this.1,by rw[this.2];simp⟩
   ·intro t;rw[Env.aH];have En:=hp p (by simp)
    by_cases e:p=t
    ·subst e;simp[En,h1]
    ·rw[if_neg (λx=>e (Option.some.inj x))]
     have:=h t
     simpa[Array.getD_eq_getD_getElem?,Array.getElem?_setIfInBounds_ne e] using this
theorem zJ (ps:Array Tmp)(args:Array Value)(tmps:Array Value):
  (ps.zip args).foldl (λtmps (t,a)=>tmps.setIfInBounds t a) tmps=(ps.toList.zip args.toList).foldl (λt p=>t.setIfInBounds p.1 p.2) tmps:=by
 rw[←Array.foldl_toList,Array.toList_zip]
theorem Jx {i:Nat}{e:cg}{v:Value}{l:Loc}(h:Eh i e H=some (v,H'))(hS:da P μ H w B)(hl:μ i=some l):
  ∃w',(Instr.endRound l.b (match e with| .normal=>none| .ret=>some .ret| .exit id=>some (.exit id))).run P w= .ok v w'∧cF v=true∧da P μ H' w' B∧gE B w w':=by
 unfold Eh at h;split at h
 case h_2=>cases h
 rename_i L ho;cases h;obtain⟨l2,GG,Zj,r2,N2,k1,k2,k3,k4,k5,k6,k7,k8⟩:=hS.db.ok _ _ ho;rw[hl] at GG;cases GG;have dH:=(Array.getElem?_eq_some_iff.1 k1).1;cases e with
 |normal=>exact⟨_,run_endRound _ k1,rfl,hS.fC (o':=.loop L (.of .normal)) ho hl ⟨_,N2,World.putObj_heap_same dH,k2,k3,k4,k5,k6,k7,⟨rfl,rfl⟩⟩,gE.uw k1 Zj rfl⟩
 |ret=>exact⟨_,run_endRound _ k1,rfl,hS.fC (o':=.loop L (.of .ret)) ho hl ⟨_,N2,World.putObj_heap_same dH,k2,k3,k4,k5,k6,k7,⟨rfl,rfl⟩⟩,gE.uw k1 Zj rfl⟩
 |exit id=>exact⟨_,run_endRound _ k1,rfl,hS.fC (o':=.loop L (.of (.exit id))) ho hl ⟨_,N2,World.putObj_heap_same dH,k2,k3,k4,k5,k6,k7,⟨rfl,rfl⟩⟩,gE.uw k1 Zj rfl⟩
theorem EL {C:ag}{n i:Nat}{args:List Value}{v:Value}(hC:xK P B C)(hm:P.follows .mixedOrders=true)(h:qz P C n i args H=some (v,H')):QB P B i args H v H':=by
 intro ro rn μ w eI l hS qF hl;unfold qz at h;split at h
 case h_2=>cases h
 rename_i L ho;split at h
 case isFalse=>cases h
 rename_i hlen;obtain⟨l2,GG,Zj,r,N,k1,k2,k3,k4,k5,k6,k7,k8,k9⟩:=hS.db.ok _ _ ho;rw[hl] at GG;cases GG;simp only[fK,Bool.and_eq_true,List.all_eq_true,decide_eq_true_eq] at k6;obtain⟨⟨hps,hka⟩,hkb⟩:=k6;have oY:eI.toArray.size=r.params.size:=by rw[k2];have:=qF.1;simp;omega
 have Zk:=Hr L.ps.toList args eI (L.keep.zip L.vs) r.tmps k7 qF (λp hp=>Nat.lt_of_lt_of_le (hps p hp) k5)
 refine⟨r.fn,_,r.assign,r.body,run_yield k1 oY,roundIn_of_wpIn trivial ?_⟩;rw[k2,zJ,k3,k4];have hlp: ∀{w1:World} {r1:Loop},w1.heap[l.b]? =some (.loop r1)→∀l₀,some l.b=some l₀→∃r,w1.heap[l₀]? =some (.loop r):=λhr l₀ e=>by cases e;exact⟨_,hr⟩
 cases ha:ev P C L.keep n L.assign (L.keep.map (Dp (L.keep.zip L.vs) (L.ps.toList.zip args)).get) H with
 |none=>rw[ha] at h;cases h
 |some q=>
  obtain⟨e1,Hc,H1⟩:=q;rw[ha] at h;cases e1 with
  |ret=>cases h
  |exit id=>cases h
  |normal=>
   simp only at h;refine wpIn_mono (jW (ro:=some l.b) (rm:=rn) (N:=N) hC hm L.assign _ H _ μ {tmps:=_,defers:=[]} w (hlp k1) hka ha (by simpa[Zk.2] using k5) hS (Zk.1.keep L.keep)) ?_
   rintro e a1 w1 ⟨rfl,μ1,h1,h2,h3,h4,h5,h6⟩;simp only[tn];split at h
   case h_2=>cases h
   rename_i L1 UU;obtain⟨l3,Zl,aia,r3,N3,m1,m2,m3,m4,m5,m6,m7,m8,m9⟩:=h5.db.ok _ _ UU;have U1:=h1 _ _ hl;rw[U1] at Zl;cases Zl;have dH:=(Array.getElem?_eq_some_iff.1 m1).1;refine⟨_,run_beginRound m1 m8,?_⟩;have U2:da P μ1 (H1.fC i (.loop L1 .busy)) (w1.putObj l.b (.loop {r3 with state:=.busy})) B:=
    h5.fC UU U1 ⟨_,N3,World.putObj_heap_same dH,m2,m3,m4,m5,m6,m7,rfl⟩
   have Jw:gE B w1 (w1.putObj l.b (.loop {r3 with state:=.busy})):=gE.uw m1 Zj rfl
   cases hb:ev P C L.keep n L.body Hc (H1.fC i (.loop L1 .busy)) with
   |none=>rw[hb] at h;cases h
   |some q2=>
    obtain⟨e2,Y8,H2⟩:=q2;rw[hb] at h;simp only at h;refine wpIn_mono (jW (ro:=some l.b) (rm:=rn) (N:=N) hC hm L.body Hc _ _ μ1 a1 _ (hlp (World.putObj_heap_same dH)) hkb hb (by rw[h4];simpa[Zk.2] using k5) U2 h2) ?_
    rintro e a2 w2 ⟨rfl,μ2,g1,g2,g3,g4,g5,g6⟩;obtain⟨w3,eK,hp,hS3,hB3⟩:=Jx h g5 (g1 _ _ U1);have hB:=h6.trans (Jw.trans (g6.trans hB3));cases e2<;>exact⟨v,w3,eK,v,μ2,rfl,Mu.le_trans h1 g1,.plain _ hp,hS3,hB⟩
def EM (tmps:Array Value):ResultVar→Sem Value
 | .tmp t=>pure (tmps.getD t undef)
 | .cell ad t=>do loadVar t (←asAddr (tmps.getD ad undef))
theorem Jy (fn:Func)(tmps:Array Value):results fn tmps=(do let vs ←fn.results.mapM (EM tmps);pure (if h:vs.size=1 then vs[0] else .tuple vs)):=by
 unfold results
 congr 1
theorem Jz {fn:Func}{E:Env}{a:Act}{v:Value}(hS:da P μ H w B)(hE:fX μ E.get a.tmps)(h:Ei P fn E H=some v): ∃v',(results fn a.tmps).run P w= .ok v' w∧VR μ v v':=by
 unfold Ei at h;rw[Option.map_eq_some_iff] at h;obtain⟨vs,hvs,rfl⟩:=h;have key: ∀(l:List ResultVar) (vs:List Value),l.mapM (λ(r:ResultVar)=>match r with
   | .tmp t=>some (E.get t)
   | .cell ad t=>ke P t (E.get ad) H)=some vs→
   ∃ju,(l.mapM (EM a.tmps)).run P w= .ok ju w∧dR μ vs ju:=by
  intro l;induction l with
  |nil=>intro vs h;simp at h;subst h;exact⟨[],rfl,.nil⟩
  |cons r l ih=>
   intro vs h;rw[List.mapM_cons] at h;simp only[Option.bind_eq_bind,Option.bind_eq_some_iff] at h;obtain⟨v,hv,Y8,h2,e⟩:=h;cases e;obtain⟨ju,hr,ux⟩:=ih Y8 h2;have h1: ∃v',(EM a.tmps r).run P w= .ok v' w∧VR μ v v':=by
    cases r with
    |tmp t=>simp only at hv;cases hv;exact⟨_,rfl,hE t⟩
    |cell ad t=>
     simp only at hv;have hp:=hE ad;obtain⟨v',JA,QO⟩:=wX (P:=P) hS hp hv;refine⟨v',?_,QO⟩;have agh: ∃x,E.get ad= .pointer (some x):=by
      unfold ke at hv;split at hv
      ·rename_i e;exact⟨_,e⟩
      ·cases hv
     obtain⟨x,e⟩:=agh;rw[e] at hp;obtain⟨i,off,l,_,_,e2⟩:=hp.oW;rw[e2] at JA;unfold EM;simp only[e2];simpa[Instr.loadAt,Instr.sureAddr,asAddr] using JA
   obtain⟨v',Qs,xF⟩:=h1;refine⟨v'::ju,?_,.cons xF ux⟩;rw[List.mapM_cons];simp only[Sem.run_bind,Qs,Result.andThen_ok,hr,Sem.run_pure]
 obtain⟨ju,hr,ux⟩:=key _ _ hvs;have eK:(results fn a.tmps).run P w= .ok (if h:ju.toArray.size=1 then ju.toArray[0] else .tuple ju.toArray) w:=by
  rw[Jy,Array.mapM_eq_mapM_toList];simp only[Sem.run_bind,Sem.run_map,hr,Result.andThen_ok,Sem.run_pure]
 refine⟨_,eK,?_⟩
 match vs,ux with
 | [],ux=>rw[ux.jh];exact dR.tuple (c:=#[]) (c':=#[]) .nil
 | [v],ux=>
  obtain⟨v',y,rfl,h1,h2⟩:=ux.gL;rw[h2.jh];exact h1
 |v1::v2::r,ux=>
  obtain⟨u1,y,rfl,h1,h2⟩:=ux.gL;obtain⟨u2,y2,rfl,h3,h4⟩:=h2.gL;have: ¬(u1::u2::y2).toArray.size=1:=by simp
  rw[dif_neg this];exact dR.tuple (by simpa using ux)
theorem uJ {fn:Func}{tmps:Array Value}{rm:Nat}{R:Ending→World→Prop}{w0:World}(hB0:B≤w0.heap.size): ∀(Ds:List Nat) (w:World),Ds.Nodup→(∀D∈Ds,w0.heap.size≤D∧w.heap[D]? =some (.deferred (some [])))→
  da P μ H w B→gE B w0 w→(∀w',da P μ H w' B→gE B w0 w'→LeavesIn (FR none) rm P fn tmps R [] .returning w')→LeavesInM (FR none) rm P fn tmps R (Ds.map X4) .returning w:=by
 intro Ds;induction Ds with
 |nil=>intro w _ _ hS hB hk;exact hk w hS hB
 |cons D Ds ih=>
  intro w hn hD hS hB hk;rw[List.nodup_cons] at hn;obtain⟨hn1,hn2⟩:=hn;obtain⟨h1,h2⟩:=hD D (by simp)
  refine⟨by simp,.inl ⟨D,_,rfl,run_takeDeferred h2,ih _ hn2 ?_ (hS.UQ h2 rfl (λ_ e=>by cases e) (λ_ _ e=>by cases e)) (hB.Y4 h2 (Nat.le_trans hB0 h1) h1) hk⟩⟩
  intro E hE;refine⟨(hD E (by simp[hE])).1,?_⟩
  rw[World.putObj_heap_other (by rintro rfl;exact hn1 hE)]
  exact(hD E (by simp[hE])).2
theorem adS {f:FuncId}{i:Nat}(h:f<P.funcs.size)(e:f=P.funcs.size+i):False:=by
 subst e;exact absurd h (Nat.not_lt.2 (Nat.le_add_right _ _))
theorem qM {bad:List FuncId}{G:ag}(gJ:oV P bad=true)(hGh:im G)(hG: ∀f args H v H',bad.contains f=true→G f args H=some (v,H')→
   (∃fn,P.funcs[f]? =some fn∧fn.body.isSome=true∧(fn.name== "runtime.NumGoroutine")=false)∧we P B f args H v H'): ∀n,xK P B (fW P bad G n):=by
 simp only[oV,Bool.and_eq_true] at gJ;obtain⟨hm,fE⟩:=gJ;intro n;induction n with
 |zero=>exact⟨λf args H v H' h=>(by simp only[fW] at h;cases h),DB hGh _⟩
 |succ n ih=>
  refine⟨λf args H v H' h=>?_,DB hGh _⟩
  simp only[fW] at h;split at h
  ·rename_i hb;obtain⟨⟨fn,Cn,h1⟩,h2⟩:=hG f args H v H' hb h;have dH:=(Array.getElem?_eq_some_iff.1 Cn).1;exact⟨λ_=>⟨⟨fn,Cn,h1⟩,h2⟩,λi e=>(adS dH e).elim⟩
  ·rename_i hb;split at h
   ·rename_i fn Cn;have dH:f<P.funcs.size:=(Array.getElem?_eq_some_iff.1 Cn).1;refine⟨λ_=>?_,λi e=>(adS dH e).elim⟩
    split at h
    ·rename_i c hc;have hof:=List.all_eq_true.1 fE f (List.mem_range.2 dH);have tN:bad.contains f=false:=by simpa using hb
     rw[tN,Cn] at hof;simp only[Bool.false_or,I5,hc,Bool.and_eq_true,Bool.not_eq_true'] at hof;obtain⟨adT,adU⟩:=hof;refine⟨⟨fn,Cn,by rw[hc];rfl,adT⟩,?_⟩
     intro μ w eI hS qF;refine(callsIn_wide (n:=0)).1 (callsIn_of_wp_marks (F:=FR none) Cn hc trivial ?_);have LH:fX μ (Env.get ((oU fn).zip ((oU fn).map λt=>args.getD t undef))) (eI.toArray++Array.replicate (fn.ntmps-eI.toArray.size) undef):=by
      refine fX.keep (E:=λt=>args.getD t undef) ?_ _
      intro t;have hu:VR μ undef undef:=dR.tuple (c:=#[]) (c':=#[]) .nil;show VR μ (args.getD t undef) _
      rw[List.getD_eq_getElem?_getD,Array.getD_eq_getD_getElem?,Array.getElem?_append];cases hx:args[t]? with
      |none=>
       have h1:args.length≤t:=List.getElem?_eq_none_iff.1 hx;rw[if_neg (by have:=qF.1;simp;omega),Array.getElem?_replicate]
       split<;>exact hu
      |some x=>
       obtain⟨x',e,r⟩:=qF.2 t x hx;have h1:t<eI.length:=(List.getElem?_eq_some_iff.1 e).1;rw[if_pos (by simpa using h1)]
       simpa[e] using r
     have go: ∀r,ev P (fW P bad G n) (oU fn) n c ((oU fn).map λt=>args.getD t undef) H=some r→(r.1= .normal∨r.1= .ret)→(Ei P fn ((oU fn).zip r.2.1) r.2.2).map (·,r.2.2)=some (v,H')→
       c.wpIn (FR none) 0 P (bodyPostM (FR none) 0 P fn (DD P B μ w v H'))
        {tmps:=eI.toArray++Array.replicate (fn.ntmps-eI.toArray.size) undef,defers:=[]} w:=by
      intro r DC hx CH;rw[Option.map_eq_some_iff] at CH;obtain⟨v2,CH,e⟩:=CH;cases e;refine wpIn_mono (jW (ro:=none) (N:=fn.ntmps) ih hm c _ H r μ _ w (λ_ e=>by cases e) adU DC (by simp;omega) hS LH) ?_
      rintro e a' w' ⟨rfl,μ',h1,h2,⟨Ds,d1,d2,d3⟩,h4,h5,h6⟩;have key:LeavesInM (FR none) 0 P fn a'.tmps (DD P B μ w v r.2.2) a'.defers .returning w':=by
       rw[d1,List.append_nil];refine uJ hS.base Ds w' d2 d3 h5 h6 ?_;intro CD h5 h6;obtain⟨v',JA,QO⟩:=Jz (P:=P) h5 h2 CH;exact⟨v',JA,v',μ',rfl,h1,QO,h5,h6⟩
      rcases hx with hx|hx<;>rw[hx]<;>exact key
     split at h
     ·rename_i vs H2 DC;exact go _ DC (.inl rfl) h
     ·rename_i vs H2 DC;exact go _ DC (.inr rfl) h
     ·cases h
    ·cases h
   ·rename_i Cn;have hge:P.funcs.size≤f:=by
     by_cases hl:f<P.funcs.size
     ·rw[Array.getElem?_eq_getElem hl] at Cn;cases Cn
     ·exact Nat.le_of_not_lt hl
    refine⟨λhl=>absurd hl (Nat.not_lt.2 hge),?_⟩
    rintro i rfl;rw[show P.funcs.size+i-P.funcs.size=i by omega] at h
    exact EL ih hm h
theorem Hs {bad:List FuncId}{G:ag}{n:Nat}{f:FuncId}{args:List Value}{r:Value×ae}(hS:da P μ H w w.heap.size)(hb:bad.contains f=true→G f args H=some r→f<P.funcs.size)(h:fW P bad G n f args H=some r):f<P.funcs.size:=by
 cases n with
 |zero=>simp only[fW] at h;cases h
 |succ n=>
  simp only[fW] at h;split at h
  ·rename_i CG;exact hb CG h
  ·split at h
   ·rename_i fn Cn;exact(Array.getElem?_eq_some_iff.1 Cn).1
   ·unfold qz at h;split at h
    ·rename_i L ho;obtain⟨l,_,h1,h2⟩:=hS.db.ok _ _ ho;have:=h2.lt
     omega
    ·cases h
def Qd:ag:=λ_ _ _=>none
theorem QP:im Qd:=λ_ _ _ _ _ _ _ _ h=>by simp[Qd] at h
theorem da.empty (w:World):da P (λ_=>none) [] w w.heap.size:=
 ⟨Nat.le_refl _,λi b h=>by simp[ae.get] at h,λ_ _=>rfl,λi j b c l m h=>by simp[ae.get] at h,λi b l h=>by simp[ae.get] at h,⟨λi o h=>by simp[ae.db] at h,λi j o p l m h=>by simp[ae.db] at h⟩,λi h=>by simp at h⟩
end Go.Proofs.YtjgmnoaalbbonaaGreatA.Am
end
