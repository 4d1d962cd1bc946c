/- Texts of the proof of peekPlays_holds, put together by a small program of ours (names shortened, spaces taken out). No condition beyond the given statement. -/
import Derived.Test.YtgfgglponbmgmaaGreatPKP7
import Derived.Test.YtgfgglponbmgmaaGreatPKP3
import Derived.Deep.LoopGhost
import Derived.Scope
import Derived.RangeFuncLeaves
set_option linter.unusedVariables false
set_option linter.unusedSimpArgs false
set_option linter.unnecessarySimpa false
noncomputable section
section
namespace Go.Proofs.YtgfgglponbmgmaaGreatA.Am
open Go.RowKit (Below)
variable {P:Program} {μ:Mu} {H H':aa} {w:World} {B:Nat}
def wU:bD→Exit
 | .normal=>.normal
 | .exit id=>.exit id
 | .ret=>.ret
def FP (P:Program)(B:Nat)(keep:List Nat)(μ:Mu)(a:Act)(w:World)(r:bD×List Value×aa)(x:Exit)(a':Act)(w':World):Prop:=
 x=wU r.1∧∃μ',μ.le μ'∧gV μ' (Env.get (keep.zip r.2.1)) a'.tmps∧Marks w w' a a'∧a'.tmps.size=a.tmps.size∧cO P μ' r.2.2 w' B∧eV B w w'
theorem FP.trans {keep:List Nat}{μ μ1:Mu}{a a1:Act}{w w1:World}{r:bD×List Value×aa}{x:Exit}{a':Act}{w':World}(hle:μ.le μ1)(hd:Marks w w1 a a1)(hs:a1.tmps.size=a.tmps.size)(hb:eV B w w1)(h:FP P B keep μ1 a1 w1 r x a' w'):FP P B keep μ a w r x a' w':=by
 obtain⟨hx,μ',h1,h2,h3,h4,h5,h6⟩:=h;exact⟨hx,μ',Mu.le_trans hle h1,h2,hd.trans hb h6 h3,h4.trans hs,h5,hb.trans h6⟩
theorem Hh (E:Nat→Value): ∀(keep:List Nat) (t:Nat),Env.get (keep.zip (keep.map E)) t=if t∈keep then E t else GY
 | [],t=>by simp[Env.get]
 |k::r,t=>by
  simp only[List.map_cons,List.zip_cons_cons,Env.get];by_cases e:t=k
  ·subst e;simp
  ·rw[if_neg e,Hh E r t];simp[e]
theorem gV.keep {E:Nat→Value}{tmps:Array Value}(h:gV μ E tmps)(keep:List Nat):gV μ (Env.get (keep.zip (keep.map E))) tmps:=by
 intro t;rw[Hh];split
 ·exact h t
 ·exact .GY _
theorem iY {b:Frame}{c:Code}{k:List Item}{a:Act}{cs:List Frame}:step P (lone (b.atR a (.code (.scope c)::k)) cs w)= .next (lone (b.atR a (.code c:: .inScope c::k)) cs w):=
 step_lone_go (by simp[stepG,stepG.exec,Frame.atR])
theorem zW {b:Frame}{c:Code}{k:List Item}{a:Act}{cs:List Frame}:step P (lone (b.atR a (.inScope c::k)) cs w)= .next (lone (b.atR a k) cs w):=
 step_lone_go (by simp[stepG,stepG.exec,Frame.atR])
theorem pH {F:Fence}{n:Nat}{Q:Exit→Act→World→Prop}{a:Act}{c:Code}(h:c.wpIn F n P (Exit.noGoto Q) a w):(Code.scope c).wpIn F n P Q a w:=by
 intro b k cs iK hb hr;have h0:(lone (b.atR a (.code (.scope c)::k)) cs w).fenced P F:=fenced_calm hb hr rfl;obtain⟨e,a₁,w₁,hq,uO⟩:=h b (.inScope c::k) cs iK hb hr;cases e with
 |normal=>exact⟨.normal,a₁,w₁,hq,.head h0 iY (StepsIn.trans uO (.one (fenced_calm hb hr rfl) zW))⟩
 |exit id=>
  have hx:exitTo id (.inScope c::k)=exitTo id k:=by simp[exitTo]
  exact⟨.exit id,a₁,w₁,hq,λk' hk=>.head h0 iY (uO.1 k' (by rw[hx];exact hk)),
   λVl hk=>let ⟨k₁,h1,h2⟩:=uO.2 Vl (by rw[hx];exact hk);⟨k₁,h1,.head h0 iY h2⟩⟩
 |goto l=>exact hq.elim
 |ret=>exact⟨_,a₁,w₁,hq,.of_steps (.one h0 iY) uO⟩
 |panic ch=>exact⟨_,a₁,w₁,hq,.of_steps (.one h0 iY) uO⟩
 |outgrown=>exact⟨_,a₁,w₁,hq,.of_steps (.one h0 iY) uO⟩
theorem T6 {ro:Option Nat}{w w1:World}(iK: ∀l₀,ro=some l₀→∃r,w.heap[l₀]? =some (.loop r))(h:eV B w w1): ∀l₀,ro=some l₀→∃r,w1.heap[l₀]? =some (.loop r):=λl₀ e=>by
 obtain⟨r,hr⟩:=iK l₀ e;obtain⟨r',h1,_⟩:=h.loops _ _ hr;exact⟨r',h1⟩
theorem zX {ro:Option Nat}{rm:Nat}{C:ae}{keep:List Nat}{N id:Nat}{ops:Array Oper}{draw:Bool}{vs:List Value}{a:Act}{r:bD×List Value×aa}(hC:zS P B C)(hm:P.follows .mixedOrders=true)(dG:oq P N ops draw=true)(n:Nat)(h:ev P C keep n (.region id ops draw) vs H=some r)(hN:N≤a.tmps.size)(hS:cO P μ H w B)(hE:gV μ (Env.get (keep.zip vs)) a.tmps):
  (Code.region id ops draw).wpIn (FR ro) rm P (FP P B keep μ a w r) a w:=by
 simp only[ev] at h;cases hr:fe P C ops draw (keep.zip vs) H with
 |none=>rw[hr] at h;cases h
 |some q=>
  obtain⟨E',H'⟩:=q;rw[hr] at h;simp only at h;cases h;have fin: ∀a' w' μ',μ.le μ'→gV μ' E'.get a'.tmps→a'.defers=a.defers→a'.tmps.size=a.tmps.size→cO P μ' H' w' B→eV B w w'→
    FP P B keep μ a w (.normal,keep.map E'.get,H') .normal a' w':=
   λa' w' μ' h1 h2 h3 h4 h5 h6=>⟨rfl,μ',h1,h2.keep keep,.of_eq h3,h4,h5,h6⟩
  cases draw with
  |true=>exact DU hC hm dG hr hN hS hE fin
  |false=>
   refine wpIn_region_list ?_;simp only[oq,Bool.and_eq_true,List.all_eq_true] at dG;refine zT (N:=N) hC ops.toList _ _ _ _ μ a w (by simpa[fe] using hr) ?_ hN hS hE fin
   intro o ho d hd;have:=dG.1 o ho
   rw[hd] at this;simpa using this
theorem Nr {ro:Option Nat}{rm:Nat}{C:ae}{keep:List Nat}{N n:Nat}{g:Operand}{ps:Array Tmp}{x y:Code}{vs:List Value}{r:bD×List Value×aa}{a:Act}(hC:zS P B C)(iK: ∀l₀,ro=some l₀→∃r,w.heap[l₀]? =some (.loop r))(dG:iP P N (.rangeFunc g ps x y)=true)(h:ev P C keep n (.rangeFunc g ps x y) vs H=some r)(hN:N≤a.tmps.size)(hS:cO P μ H w B)(hE:gV μ (Env.get (keep.zip vs)) a.tmps):(Code.rangeFunc g ps x y).wpIn (FR ro) rm P (FP P B keep μ a w r) a w:=by
 simp only[ev] at h;split at h
 case h_2=>cases h
 rename_i gf first captured hg
 split at h
 case isFalse=>cases h
 rename_i hgs;cases hc:C gf (first.toList++[.func (.yield H.length) #[] #[]]++captured.toList) (H.kg (.loop ⟨keep,vs,ps,x,y⟩ .ready)) with
 |none=>rw[hc] at h;cases h
 |some q=>
  obtain⟨v,H2⟩:=q;rw[hc] at h;simp only at h;obtain⟨⟨fn,zE,hb,Za⟩,Vt⟩:=(hC.told _ _ _ _ _ hc).1 hgs;have kU:=hE.eval g;rw[gi,hg] at kU;obtain⟨kV,fQ,eg,e1,e2⟩:=kU.we rfl;refine wpIn_rangeFunc ?_;intro fnn _;obtain⟨l,mk,w1,rc,VI,QQ,p1,p2,p3,p4,p5,p6,hle,hB1,BL,hM1⟩:=Fw iK hS fnn a ps x y;obtain⟨hmu,hS1⟩:=hS.kg BL hB1.size hle (o:=.loop ⟨keep,vs,ps,x,y⟩ .ready)
   ⟨rc,N,QQ,p1,p2,p3,by rw[p4];exact hN,by simpa[iP] using dG,by rw[p4];exact hE,p5,p6⟩
  have oD:cW (μ.up H.length ⟨l,0,0,0⟩) (first.toList++[.func (.yield H.length) #[] #[]]++captured.toList) (kV.toList++[.func (.yield l) #[] #[]]++fQ.toList):=
   ((e1.mono hmu).append (.cons (.TU _ ⟨l,0,0,0⟩ Mu.aP) .nil)).append (e2.mono hmu)
  have DL:=Vt _ w1 _ hS1 oD;have uO:(kV.toList++[Value.func (.yield l) #[] #[]]++fQ.toList).toArray=kV++ #[Value.func (.yield l) #[] #[]]++fQ:=by
   rw[←Array.toList_inj];simp
  rw[uO] at DL;have M7: ¬fn.body=none:=by intro e;rw[e] at hb;simp at hb
  have Vu: ¬fn.name= "runtime.NumGoroutine" :=by simpa using Za
  refine⟨l,mk,w1,{target:=.fn (.func gf) fQ,args:=kV++ #[.func (.yield l) #[] #[]]},w1,gf,kV++ #[.func (.yield l) #[] #[]]++fQ,w1,VI,?_,?_,?_,?_,?_⟩
  ·simp[resolve,eg,Deferred.ofValue];rfl
  ·intro _ _;trivial
  ·simp[invoke,callFunc,zE,Vu,M7]
  ·intro h;simp[Fence.wide] at h
  have hci:CallsIn (FR ro) (rm-1) P gf (kV++ #[Value.func (.yield l) #[] #[]]++fQ) w1 _:=Nh DL;refine hci.mono ?_;rintro e w2 ⟨v',μ2,rfl,Z8,_,hS2,hB2⟩;have Jz:μ2 H.length=some ⟨l,0,0,0⟩:=Z8 _ _ Mu.aP;have JC:=Mu.le_trans hmu Z8;cases ho:H2.dW H.length with
  |none=>rw[ho] at h;simp[zJ] at h
  |some o=>
   rw[ho] at h;cases o with
   |E8 k es=>simp[zJ] at h
   |loop L s=>
    obtain⟨l2,Dy,VJ,r2,N2,k1,k2,k3,k4,k5,k6,k7,k8⟩:=hS2.dW.ok _ _ ho;rw[Jz] at Dy;cases Dy;have hnb:r2.state≠ .busy:=by
     intro e;cases s with
     |ready=>rw[k8.1] at e;cases e
     |busy=>simp[zJ] at h
     |ret=>rw[k8.1] at e;cases e
     |exit id=>rw[k8.1] at e;cases e
    have iQ:=run_endLoop (P:=P) k1 hnb;have Zd:cO P μ2 (H2.kill H.length) (w2.putObj l (.loop {r2 with state:=.exhausted})) B:=hS2.ZT ho Jz
    have Z9:eV B w2 (w2.putObj l (.loop {r2 with state:=.exhausted})):=eV.rj k1 VJ rfl
    have hB4:=hB1.trans (hB2.trans Z9);have hM:Marks w (w2.putObj l (.loop {r2 with state:=.exhausted})) a {a with defers:=mk++a.defers}:=hM1.trans hB1 (hB2.trans Z9) (.of_eq rfl)
    generalize w2.putObj l (.loop {r2 with state:=.exhausted})=W at iQ Zd Z9 hB4 hM
    refine⟨r2.pending,W,iQ,?_⟩;cases s with
    |ready=>
     simp only[zJ] at h;cases h;rw[k8.2];exact⟨rfl,μ2,JC,hE.mono JC,hM,rfl,Zd,hB4⟩
    |busy=>simp[zJ] at h
    |ret=>
     simp only[zJ] at h;cases h;rw[k8.2];exact wpIn_ret ⟨rfl,μ2,JC,hE.mono JC,hM,rfl,Zd,hB4⟩
    |exit id=>
     simp only[zJ] at h;cases h;rw[k8.2];exact wpIn_exit ⟨rfl,μ2,JC,hE.mono JC,hM,rfl,Zd,hB4⟩
theorem tm {ro:Option Nat}{rm:Nat}{C:ae}{keep:List Nat}{N n:Nat}(hC:zS P B C)(hm:P.follows .mixedOrders=true): ∀(c:Code) (vs:List Value) (H:aa) (r:bD×List Value×aa) (μ:Mu) (a:Act) (w:World),
  (∀l₀,ro=some l₀→∃r,w.heap[l₀]? =some (.loop r))→iP P N c=true→ev P C keep n c vs H=some r→N≤a.tmps.size→cO P μ H w B→gV μ (Env.get (keep.zip vs)) a.tmps→c.wpIn (FR ro) rm P (FP P B keep μ a w r) a w:=by
 intro c;induction c with
 |skip=>
  intro vs H r μ a w iK _ h hN hS hE;simp only[ev] at h;cases h;exact wpIn_skip ⟨rfl,μ,μ.le_refl,hE,.of_eq rfl,rfl,hS,eV.refl _ _⟩
 |label l=>
  intro vs H r μ a w iK _ h hN hS hE;simp only[ev] at h;cases h;exact wpIn_label ⟨rfl,μ,μ.le_refl,hE,.of_eq rfl,rfl,hS,eV.refl _ _⟩
 |exit id=>
  intro vs H r μ a w iK _ h hN hS hE;simp only[ev] at h;cases h;exact wpIn_exit ⟨rfl,μ,μ.le_refl,hE,.of_eq rfl,rfl,hS,eV.refl _ _⟩
 |ret=>
  intro vs H r μ a w iK _ h hN hS hE;simp only[ev] at h;cases h;exact wpIn_ret ⟨rfl,μ,μ.le_refl,hE,.of_eq rfl,rfl,hS,eV.refl _ _⟩
 |goto l=>intro vs H r μ a w _ _ h;simp only[ev] at h;cases h
 |refuse s=>intro vs H r μ a w _ _ h;simp only[ev] at h;cases h
 |rangeFunc f ps x y _ _=>intro vs H r μ a w iK dG h hN hS hE;exact Nr hC iK dG h hN hS hE
 |region id ops draw=>
  intro vs H r μ a w iK dG h hN hS hE;exact zX hC hm dG n h hN hS hE
 |seq x y Vq Vr=>
  intro vs H r μ a w iK dG h hN hS hE;simp only[iP,Bool.and_eq_true] at dG;simp only[ev] at h;cases hx:ev P C keep n x vs H with
  |none=>rw[hx] at h;cases h
  |some q=>
   refine wpIn_seq (wpIn_mono (Vq vs H q μ a w iK dG.1 hx hN hS hE) ?_);rintro e a1 w1 hp;obtain⟨e1,FC,H1⟩:=q;rw[hx] at h;have Hi:=hp;obtain⟨rfl,μ1,h1,h2,h3,h4,h5,h6⟩:=hp;cases e1 with
   |normal=>
    simp only at h;exact wpIn_mono (Vr FC H1 r μ1 a1 w1 (T6 iK h6) dG.2 h (by rw[h4];exact hN) h5 h2) λ_ _ _ hq=>hq.trans h1 h3 h4 h6
   |exit id=>simp only at h;cases h;exact Hi
   |ret=>simp only at h;cases h;exact Hi
 |cond c x y Vq Vr=>
  intro vs H r μ a w iK dG h hN hS hE;simp only[iP,Bool.and_eq_true] at dG;simp only[ev] at h;split at h
  ·rename_i t hc;have hv:=hE.eval c;rw[gi,hc] at hv;refine wpIn_cond hv.bool ?_;cases t with
   |true=>simp only[if_true] at h ⊢;exact Vq vs H r μ a w iK dG.1 h hN hS hE
   |false=>simp only[Bool.false_eq_true,if_false] at h ⊢;exact Vr vs H r μ a w iK dG.2 h hN hS hE
  ·cases h
 |block id c ih=>
  intro vs H r μ a w iK dG h hN hS hE;simp only[ev] at h;cases hx:ev P C keep n c vs H with
  |none=>rw[hx] at h;cases h
  |some q=>
   refine wpIn_block (wpIn_mono (ih vs H q μ a w iK dG hx hN hS hE) ?_);rintro e a1 w1 hp;obtain⟨e1,FC,H1⟩:=q;rw[hx] at h;have Hi:=hp;obtain⟨rfl,rest⟩:=hp;cases e1 with
   |normal=>simp only at h;cases h;exact Hi
   |ret=>simp only at h;cases h;exact Hi
   |exit ZC=>
    simp only at h;by_cases e:ZC=id
    ·rw[if_pos e] at h;cases h;simp only[wU,Exit.inBlock,e,if_true];exact⟨rfl,rest⟩
    ·rw[if_neg e] at h;cases h;simp only[wU,Exit.inBlock,e,if_false];exact⟨rfl,rest⟩
 |scope c ih=>
  intro vs H r μ a w iK dG h hN hS hE;simp only[ev] at h;refine pH (wpIn_mono (ih vs H r μ a w iK dG h hN hS hE) ?_);rintro e a1 w1 hp;have Hi:=hp;obtain⟨rfl,rest⟩:=hp;cases hr:r.1<;>simp only[wU,Exit.noGoto,hr] at Hi ⊢ <;>exact Hi
 |loop c ih=>
  intro vs H r μ a w iK dG h hN hS hE;simp only[ev] at h;refine wpIn_loop_ghost (λk a1 w1=>∃FC H1 μ1,iter k (ev P C keep n c) FC H1=some r∧μ.le μ1∧gV μ1 (Env.get (keep.zip FC)) a1.tmps∧Marks w w1 a a1∧a1.tmps.size=a.tmps.size∧cO P μ1 H1 w1 B∧eV B w w1) n
   ⟨vs,H,μ,h,μ.le_refl,hE,.of_eq rfl,rfl,hS,eV.refl _ _⟩ ?_
  rintro k a1 w1 ⟨FC,H1,μ1,MH,g1,g2,g3,g4,g5,g6⟩;cases k with
  |zero=>simp only[iter] at MH;cases MH
  |succ k=>
   simp only[iter] at MH;cases hx:ev P C keep n c FC H1 with
   |none=>rw[hx] at MH;cases MH
   |some q=>
    refine wpIn_mono (ih FC H1 q μ1 a1 w1 (T6 iK g6) dG hx (by rw[g4];exact hN) g5 g2) ?_
    rintro e a2 w2 hp;obtain⟨e1,Vs,H2⟩:=q;rw[hx] at MH;have Hi:=hp;obtain⟨rfl,μ2,h1,h2,h3,h4,h5,h6⟩:=hp;cases e1 with
    |normal=>
     simp only at MH;exact⟨k,Nat.lt_succ_self k,Vs,H2,μ2,MH,Mu.le_trans g1 h1,h2,g3.trans g6 h6 h3,h4.trans g4,h5,g6.trans h6⟩
    |exit id=>simp only at MH;cases MH;exact Hi.trans g1 g3 g4 g6
    |ret=>simp only at MH;cases MH;exact Hi.trans g1 g3 g4 g6
theorem DV: ∀(ps:List Nat) (args fm:List Value) (E:Env) (tmps:Array Value),gV μ E.get tmps→cW μ args fm→(∀p∈ps,p<tmps.size)→
  gV μ (GZ E (ps.zip args)).get ((ps.zip fm).foldl (λt p=>t.setIfInBounds p.1 p.2) tmps)∧((ps.zip fm).foldl (λ(t:Array Value) p=>t.setIfInBounds p.1 p.2) tmps).size=tmps.size:=by
 intro ps;induction ps with
 |nil=>intro args fm E tmps h _ _;exact⟨h,rfl⟩
 |cons p ps ih=>
  intro args fm E tmps h ha hp;cases args with
  |nil=>rw[ha.ic];exact⟨h,rfl⟩
  |cons v args=>
   obtain⟨v',y,rfl,h1,h2⟩:=ha.fF;simp only[List.zip_cons_cons,GZ,List.foldl_cons];have:=ih args y (E.put (some p) v) (tmps.setIfInBounds p v') ?_ h2 (λq hq=>by simpa using hp q (by simp[hq]))
   ·refine⟨this.1,by rw[this.2];simp⟩
   ·intro t;rw[Env.aG];have Y8:=hp p (by simp)
    by_cases e:p=t
    ·subst e;simp[Y8,h1]
    ·rw[if_neg (λx=>e (Option.some.inj x))]
     have:=h t
     simpa[Array.getD_eq_getD_getElem?,Array.getElem?_setIfInBounds_ne e] using this
theorem wV (ps:Array Tmp)(args:Array Value)(tmps:Array Value):
  (ps.zip args).foldl (λtmps (t,a)=>tmps.setIfInBounds t a) tmps=(ps.toList.zip args.toList).foldl (λt p=>t.setIfInBounds p.1 p.2) tmps:=by
 rw[←Array.foldl_toList,Array.toList_zip]
theorem FQ {i:Nat}{e:bD}{v:Value}{l:Loc}(h:QD i e H=some (v,H'))(hS:cO P μ H w B)(hl:μ i=some l):
  ∃w',(Instr.endRound l.b (match e with| .normal=>none| .ret=>some .ret| .exit id=>some (.exit id))).run P w= .ok v w'∧cu v=true∧cO P μ H' w' B∧eV B w w':=by
 unfold QD at h;split at h
 case h_2=>cases h
 rename_i L ho;cases h;obtain⟨l2,Dy,VJ,r2,N2,k1,k2,k3,k4,k5,k6,k7,k8⟩:=hS.dW.ok _ _ ho;rw[hl] at Dy;cases Dy;have gG:=(Array.getElem?_eq_some_iff.1 k1).1;cases e with
 |normal=>exact⟨_,run_endRound _ k1,rfl,hS.jF (o':=.loop L (.of .normal)) ho hl ⟨_,N2,World.putObj_heap_same gG,k2,k3,k4,k5,k6,k7,⟨rfl,rfl⟩⟩,eV.rj k1 VJ rfl⟩
 |ret=>exact⟨_,run_endRound _ k1,rfl,hS.jF (o':=.loop L (.of .ret)) ho hl ⟨_,N2,World.putObj_heap_same gG,k2,k3,k4,k5,k6,k7,⟨rfl,rfl⟩⟩,eV.rj k1 VJ rfl⟩
 |exit id=>exact⟨_,run_endRound _ k1,rfl,hS.jF (o':=.loop L (.of (.exit id))) ho hl ⟨_,N2,World.putObj_heap_same gG,k2,k3,k4,k5,k6,k7,⟨rfl,rfl⟩⟩,eV.rj k1 VJ rfl⟩
theorem BV {C:ae}{n i:Nat}{args:List Value}{v:Value}(hC:zS P B C)(hm:P.follows .mixedOrders=true)(h:qo P C n i args H=some (v,H')):Ni P B i args H v H':=by
 intro ro rn μ w fm l hS oD hl;unfold qo at h;split at h
 case h_2=>cases h
 rename_i L ho;split at h
 case isFalse=>cases h
 rename_i hlen;obtain⟨l2,Dy,VJ,r,N,k1,k2,k3,k4,k5,k6,k7,k8,k9⟩:=hS.dW.ok _ _ ho;rw[hl] at Dy;cases Dy;simp only[iP,Bool.and_eq_true,List.all_eq_true,decide_eq_true_eq] at k6;obtain⟨⟨hps,hka⟩,hkb⟩:=k6;have uJ:fm.toArray.size=r.params.size:=by rw[k2];have:=oD.1;simp;omega
 have VK:=DV L.ps.toList args fm (L.keep.zip L.vs) r.tmps k7 oD (λp hp=>Nat.lt_of_lt_of_le (hps p hp) k5)
 refine⟨r.fn,_,r.assign,r.body,run_yield k1 uJ,roundIn_of_wpIn trivial ?_⟩;rw[k2,wV,k3,k4];have hlp: ∀{w1:World} {r1:Loop},w1.heap[l.b]? =some (.loop r1)→∀l₀,some l.b=some l₀→∃r,w1.heap[l₀]? =some (.loop r):=λhr l₀ e=>by cases e;exact⟨_,hr⟩
 cases ha:ev P C L.keep n L.assign (L.keep.map (GZ (L.keep.zip L.vs) (L.ps.toList.zip args)).get) H with
 |none=>rw[ha] at h;cases h
 |some q=>
  obtain⟨e1,FC,H1⟩:=q;rw[ha] at h;cases e1 with
  |ret=>cases h
  |exit id=>cases h
  |normal=>
   simp only at h;refine wpIn_mono (tm (ro:=some l.b) (rm:=rn) (N:=N) hC hm L.assign _ H _ μ {tmps:=_,defers:=[]} w (hlp k1) hka ha (by simpa[VK.2] using k5) hS (VK.1.keep L.keep)) ?_
   rintro e a1 w1 ⟨rfl,μ1,h1,h2,h3,h4,h5,h6⟩;simp only[wU];split at h
   case h_2=>cases h
   rename_i L1 Jw;obtain⟨l3,VL,aeo,r3,N3,m1,m2,m3,m4,m5,m6,m7,m8,m9⟩:=h5.dW.ok _ _ Jw;have QQ:=h1 _ _ hl;rw[QQ] at VL;cases VL;have gG:=(Array.getElem?_eq_some_iff.1 m1).1;refine⟨_,run_beginRound m1 m8,?_⟩;have hS2:cO P μ1 (H1.jF i (.loop L1 .busy)) (w1.putObj l.b (.loop {r3 with state:=.busy})) B:=
    h5.jF Jw QQ ⟨_,N3,World.putObj_heap_same gG,m2,m3,m4,m5,m6,m7,rfl⟩
   have hB2:eV B w1 (w1.putObj l.b (.loop {r3 with state:=.busy})):=eV.rj m1 VJ rfl
   cases hb:ev P C L.keep n L.body FC (H1.jF i (.loop L1 .busy)) with
   |none=>rw[hb] at h;cases h
   |some q2=>
    obtain⟨e2,Vs,H2⟩:=q2;rw[hb] at h;simp only at h;refine wpIn_mono (tm (ro:=some l.b) (rm:=rn) (N:=N) hC hm L.body FC _ _ μ1 a1 _ (hlp (World.putObj_heap_same gG)) hkb hb (by rw[h4];simpa[VK.2] using k5) hS2 h2) ?_
    rintro e a2 w2 ⟨rfl,μ2,g1,g2,g3,g4,g5,g6⟩;obtain⟨w3,dH,hp,Zd,Z9⟩:=FQ h g5 (g1 _ _ QQ);have hB:=h6.trans (hB2.trans (g6.trans Z9));cases e2<;>exact⟨v,w3,dH,v,μ2,rfl,Mu.le_trans h1 g1,.plain _ hp,Zd,hB⟩
def BW (tmps:Array Value):ResultVar→Sem Value
 | .tmp t=>pure (tmps.getD t undef)
 | .cell ad t=>do loadVar t (←asAddr (tmps.getD ad undef))
theorem FU (fn:Func)(tmps:Array Value):results fn tmps=(do let vs ←fn.results.mapM (BW tmps);pure (if h:vs.size=1 then vs[0] else .tuple vs)):=by
 unfold results
 congr 1
theorem FV {fn:Func}{E:Env}{a:Act}{v:Value}(hS:cO P μ H w B)(hE:gV μ E.get a.tmps)(h:By P fn E H=some v): ∃v',(results fn a.tmps).run P w= .ok v' w∧VR μ v v':=by
 unfold By at h;rw[Option.map_eq_some_iff] at h;obtain⟨vs,hvs,rfl⟩:=h;have key: ∀(l:List ResultVar) (vs:List Value),l.mapM (λ(r:ResultVar)=>match r with
   | .tmp t=>some (E.get t)
   | .cell ad t=>jd P t (E.get ad) H)=some vs→
   ∃ja,(l.mapM (BW a.tmps)).run P w= .ok ja w∧cW μ vs ja:=by
  intro l;induction l with
  |nil=>intro vs h;simp at h;subst h;exact⟨[],rfl,.nil⟩
  |cons r l ih=>
   intro vs h;rw[List.mapM_cons] at h;simp only[Option.bind_eq_bind,Option.bind_eq_some_iff] at h;obtain⟨v,hv,Vs,h2,e⟩:=h;cases e;obtain⟨ja,hr,mi⟩:=ih Vs h2;have h1: ∃v',(BW a.tmps r).run P w= .ok v' w∧VR μ v v':=by
    cases r with
    |tmp t=>simp only at hv;cases hv;exact⟨_,rfl,hE t⟩
    |cell ad t=>
     simp only at hv;have hp:=hE ad;obtain⟨v',uT,sK⟩:=ug (P:=P) hS hp hv;refine⟨v',?_,sK⟩;have ace: ∃x,E.get ad= .pointer (some x):=by
      unfold jd at hv;split at hv
      ·rename_i e;exact⟨_,e⟩
      ·cases hv
     obtain⟨x,e⟩:=ace;rw[e] at hp;obtain⟨i,off,l,_,_,e2⟩:=hp.mU;rw[e2] at uT;unfold BW;simp only[e2];simpa[Instr.loadAt,Instr.sureAddr,asAddr] using uT
   obtain⟨v',Vh,Dg⟩:=h1;refine⟨v'::ja,?_,.cons Dg mi⟩;rw[List.mapM_cons];simp only[Sem.run_bind,Vh,Result.andThen_ok,hr,Sem.run_pure]
 obtain⟨ja,hr,mi⟩:=key _ _ hvs;have dH:(results fn a.tmps).run P w= .ok (if h:ja.toArray.size=1 then ja.toArray[0] else .tuple ja.toArray) w:=by
  rw[FU,Array.mapM_eq_mapM_toList];simp only[Sem.run_bind,Sem.run_map,hr,Result.andThen_ok,Sem.run_pure]
 refine⟨_,dH,?_⟩
 match vs,mi with
 | [],mi=>rw[mi.ic];exact cW.tuple (c:=#[]) (c':=#[]) .nil
 | [v],mi=>
  obtain⟨v',y,rfl,h1,h2⟩:=mi.fF;rw[h2.ic];exact h1
 |v1::v2::r,mi=>
  obtain⟨u1,y,rfl,h1,h2⟩:=mi.fF;obtain⟨u2,y2,rfl,h3,h4⟩:=h2.fF;have: ¬(u1::u2::y2).toArray.size=1:=by simp
  rw[dif_neg this];exact cW.tuple (by simpa using mi)
theorem BX {fn:Func}{tmps:Array Value}{rm:Nat}{R:Ending→World→Prop}{w0:World}(hB0:B≤w0.heap.size): ∀(Ds:List Nat) (w:World),Ds.Nodup→(∀D∈Ds,w0.heap.size≤D∧w.heap[D]? =some (.deferred (some [])))→
  cO P μ H w B→eV B w0 w→(∀w',cO P μ H w' B→eV B w0 w'→LeavesIn (FR none) rm P fn tmps R [] .returning w')→LeavesInM (FR none) rm P fn tmps R (Ds.map TY) .returning w:=by
 intro Ds;induction Ds with
 |nil=>intro w _ _ hS hB hk;exact hk w hS hB
 |cons D Ds ih=>
  intro w hn hD hS hB hk;rw[List.nodup_cons] at hn;obtain⟨hn1,hn2⟩:=hn;obtain⟨h1,h2⟩:=hD D (by simp)
  refine⟨by simp,.inl ⟨D,_,rfl,run_takeDeferred h2,ih _ hn2 ?_ (hS.QI h2 rfl (λ_ e=>by cases e) (λ_ _ e=>by cases e)) (hB.Vn h2 (Nat.le_trans hB0 h1) h1) hk⟩⟩
  intro E hE;refine⟨(hD E (by simp[hE])).1,?_⟩
  rw[World.putObj_heap_other (by rintro rfl;exact hn1 hE)]
  exact(hD E (by simp[hE])).2
theorem aaa {f:FuncId}{i:Nat}(h:f<P.funcs.size)(e:f=P.funcs.size+i):False:=by
 subst e;exact absurd h (Nat.not_lt.2 (Nat.le_add_right _ _))
theorem oI {bad:List FuncId}{G:ae}(dG:mT P bad=true)(hGh:gK G)(hG: ∀f args H v H',bad.contains f=true→G f args H=some (v,H')→
   (∃fn,P.funcs[f]? =some fn∧fn.body.isSome=true∧(fn.name== "runtime.NumGoroutine")=false)∧BP P B f args H v H'): ∀n,zS P B (gB P bad G n):=by
 simp only[mT,Bool.and_eq_true] at dG;obtain⟨hm,jt⟩:=dG;intro n;induction n with
 |zero=>exact⟨λf args H v H' h=>(by simp only[gB] at h;cases h),AE hGh _⟩
 |succ n ih=>
  refine⟨λf args H v H' h=>?_,AE hGh _⟩
  simp only[gB] at h;split at h
  ·rename_i hb;obtain⟨⟨fn,zE,h1⟩,h2⟩:=hG f args H v H' hb h;have gG:=(Array.getElem?_eq_some_iff.1 zE).1;exact⟨λ_=>⟨⟨fn,zE,h1⟩,h2⟩,λi e=>(aaa gG e).elim⟩
  ·rename_i hb;split at h
   ·rename_i fn zE;have gG:f<P.funcs.size:=(Array.getElem?_eq_some_iff.1 zE).1;refine⟨λ_=>?_,λi e=>(aaa gG e).elim⟩
    split at h
    ·rename_i c hc;have hof:=List.all_eq_true.1 jt f (List.mem_range.2 gG);have M7:bad.contains f=false:=by simpa using hb
     rw[M7,zE] at hof;simp only[Bool.false_or,Fh,hc,Bool.and_eq_true,Bool.not_eq_true'] at hof;obtain⟨aab,aac⟩:=hof;refine⟨⟨fn,zE,by rw[hc];rfl,aab⟩,?_⟩
     intro μ w fm hS oD;refine(callsIn_wide (n:=0)).1 (callsIn_of_wp_marks (F:=FR none) zE hc trivial ?_);have aad:gV μ (Env.get ((mS fn).zip ((mS fn).map λt=>args.getD t undef))) (fm.toArray++Array.replicate (fn.ntmps-fm.toArray.size) undef):=by
      refine gV.keep (E:=λt=>args.getD t undef) ?_ _
      intro t;have hu:VR μ undef undef:=cW.tuple (c:=#[]) (c':=#[]) .nil;show VR μ (args.getD t undef) _
      rw[List.getD_eq_getElem?_getD,Array.getD_eq_getD_getElem?,Array.getElem?_append];cases hx:args[t]? with
      |none=>
       have h1:args.length≤t:=List.getElem?_eq_none_iff.1 hx;rw[if_neg (by have:=oD.1;simp;omega),Array.getElem?_replicate]
       split<;>exact hu
      |some x=>
       obtain⟨x',e,r⟩:=oD.2 t x hx;have h1:t<fm.length:=(List.getElem?_eq_some_iff.1 e).1;rw[if_pos (by simpa using h1)]
       simpa[e] using r
     have go: ∀r,ev P (gB P bad G n) (mS fn) n c ((mS fn).map λt=>args.getD t undef) H=some r→(r.1= .normal∨r.1= .ret)→(By P fn ((mS fn).zip r.2.1) r.2.2).map (·,r.2.2)=some (v,H')→
       c.wpIn (FR none) 0 P (bodyPostM (FR none) 0 P fn (Hd P B μ w v H'))
        {tmps:=fm.toArray++Array.replicate (fn.ntmps-fm.toArray.size) undef,defers:=[]} w:=by
      intro r AF hx JA;rw[Option.map_eq_some_iff] at JA;obtain⟨v2,JA,e⟩:=JA;cases e;refine wpIn_mono (tm (ro:=none) (N:=fn.ntmps) ih hm c _ H r μ _ w (λ_ e=>by cases e) aac AF (by simp;omega) hS aad) ?_
      rintro e a' w' ⟨rfl,μ',h1,h2,⟨Ds,d1,d2,d3⟩,h4,h5,h6⟩;have key:LeavesInM (FR none) 0 P fn a'.tmps (Hd P B μ w v r.2.2) a'.defers .returning w':=by
       rw[d1,List.append_nil];refine BX hS.base Ds w' d2 d3 h5 h6 ?_;intro w'' h5 h6;obtain⟨v',uT,sK⟩:=FV (P:=P) h5 h2 JA;exact⟨v',uT,v',μ',rfl,h1,sK,h5,h6⟩
      rcases hx with hx|hx<;>rw[hx]<;>exact key
     split at h
     ·rename_i vs H2 AF;exact go _ AF (.inl rfl) h
     ·rename_i vs H2 AF;exact go _ AF (.inr rfl) h
     ·cases h
    ·cases h
   ·rename_i zE;have Y7:P.funcs.size≤f:=by
     by_cases hl:f<P.funcs.size
     ·rw[Array.getElem?_eq_getElem hl] at zE;cases zE
     ·exact Nat.le_of_not_lt hl
    refine⟨λhl=>absurd hl (Nat.not_lt.2 Y7),?_⟩
    rintro i rfl;rw[show P.funcs.size+i-P.funcs.size=i by omega] at h
    exact BV ih hm h
theorem DW {bad:List FuncId}{G:ae}{n:Nat}{f:FuncId}{args:List Value}{r:Value×aa}(hS:cO P μ H w w.heap.size)(hb:bad.contains f=true→G f args H=some r→f<P.funcs.size)(h:gB P bad G n f args H=some r):f<P.funcs.size:=by
 cases n with
 |zero=>simp only[gB] at h;cases h
 |succ n=>
  simp only[gB] at h;split at h
  ·rename_i No;exact hb No h
  ·split at h
   ·rename_i fn zE;exact(Array.getElem?_eq_some_iff.1 zE).1
   ·unfold qo at h;split at h
    ·rename_i L ho;obtain⟨l,_,h1,h2⟩:=hS.dW.ok _ _ ho;have:=h2.lt
     omega
    ·cases h
def MI:ae:=λ_ _ _=>none
theorem DX:gK MI:=λ_ _ _ _ _ _ _ _ h=>by simp[MI] at h
theorem cO.empty (w:World):cO P (λ_=>none) [] w w.heap.size:=
 ⟨Nat.le_refl _,λi b h=>by simp[aa.get] at h,λ_ _=>rfl,λi j b c l m h=>by simp[aa.get] at h,λi b l h=>by simp[aa.get] at h,⟨λi o h=>by simp[aa.dW] at h,λi j o p l m h=>by simp[aa.dW] at h⟩,λi h=>by simp at h⟩
end Go.Proofs.YtgfgglponbmgmaaGreatA.Am
end
