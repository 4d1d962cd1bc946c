/- Texts of the proof of helpPlays_holds, put together by a small program of ours (names shortened, spaces taken out). No condition beyond the given statement. -/
import Derived.Test.YtgfgglponbmgmaaGreatHPL17
import Derived.Test.YtgfgglponbmgmaaGreatHPL18
import Derived.Test.YtgfgglponbmgmaaGreatHPL28
import Derived.Test.YtgfgglponbmgmaaGreatHPL24
set_option linter.unusedVariables false
set_option linter.unusedSimpArgs false
set_option linter.unnecessarySimpa false
noncomputable section
section
namespace Go.Proofs.YtgfgglponbmgmaaGreat.Fun
open Go Go.RowKit Go.Proofs.YtgfgglponbmgmaaGreatA.Am
set_option maxRecDepth 10000
section
open Go.Proofs.YtgfgglponbmgmaaGreatA
variable {G:ae} {H H':aa} {o o':aj} {p c n i:Nat} {K K':aa→aj→Prop} {t q:Int} {x:Value} {path:List Y.En} {st Nz s1:Y.St} {α β:Type} {cs:List Value} {T:TypeId}
structure KB (B:aa) (b:aj) (p i0 i1:Nat) (t:Int) (op:kp) (c1:List Value) (x:Value) (path:List Y.En) (H:aa) (o:aj):Prop where
 fr:Fr B b H o [(p:Int)]
 k0:Cl i0 (n8 op) 39 H o
 k1:Cl i1 c1 47 H o
 en:FL H o t x path
section
variable {B:aa} {b:aj} {i0 i1:Nat} {op:kp} {c1:List Value}
theorem KB.fg (hd:YM B b p i0 i1 t):bH [(p:Int)] (KB B b p i0 i1 t op c1 x path):=λH o H' o' h f=>⟨h.fr.tr f,h.k0.fr f (by simp),h.k1.fr f (by simp),h.en.fr f (by have:=hd.lt;simp;omega)⟩
theorem KB.n9 (h:JX (KB B b p i0 i1 t op c1 x path) p st H):aq (.pointer (some ⟨i0,1,none⟩)) H=some (cv op.key)∧dh 3 (pv i0) H=some (jx op):=by
 obtain⟨_,o,_,hg⟩:=h;exact⟨an i0 1 _ hg.k0.1,Rf hg.k0.1⟩
theorem KB.fin (hd:YM B b p i0 i1 t)(h:JX (KB B b p i0 i1 t op c1 x path) p st H)(hl:c1.length=6)(r:eQ): ∃H2,bE 6 (pv i1) (gz r aA) H=some (undef,H2)∧dh 6 (pv i1) H2=some (gz r aA)∧JX (KB B b p i0 i1 t op (rc r) x path) p st H2:=by
 obtain⟨_,o,hr,hg⟩:=id h;obtain⟨e0,e1,e2,e3⟩:=id hd;refine⟨_,ug i1 r (s:=aA) rfl H hg.k1.1 hl,pV _ _ _ (aG hg.k1.1),h.uj (λo hg=>hg.k1) (KB.fg hd) λo hg=>⟨hg.fr.put λhh=>by omega,hg.k0.put (by omega),hg.k1.self,hg.en.fr ((Fr.refl H o [-9]).put λ_=>by simp[hg.k1.2]) (by simp;omega)⟩⟩
variable {k:Nat→Value→aa→Option α} {Q:α→Prop} {a1 a2 a3:Int} {ty:TypeId}
theorem Ev.abo (hd:YM B b p i0 i1 t)(h:JX (KB B b p i0 i1 t op c1 x path) p st H)(hb:path.length+1≤4294967296)(hk: ∀x' H',JX (KB B b p i0 i1 t op c1 x' (path++[⟨a1,a2,a3⟩])) p st H'→Ev (λn=>k n x' H') Q):
  Ev (λn=>af (dk T 3 24 x (.slice (some ⟨H.length,0,none⟩) 1 1) (H.new ⟨[cv a1,cv a2,cv a3],ty,3,false⟩)) (k n)) Q:=by
 obtain⟨_,o,hr,hg⟩:=h;obtain⟨x',H2,o2,e,s2,f2⟩:=FL.app T ty hg.en ⟨a1,a2,a3⟩ hb;rw[e];have ha:=hd.ap;have gH:=hd.lt;refine hk x' H2 ⟨KB.fg hd,o2,hr.fr f2 ?_ ?_ ?_,iS (hg.fr.trans f2 (rs:=[t,(p:Int)]) (by simp) (by simp)) hd.ft,hg.k0.fr f2 ?_,hg.k1.fr f2 ?_,s2⟩
 ·simp;omega
 ·simp;omega
 ·simp;omega
 ·simp;omega
 ·simp;omega
end
theorem Dn {g f:Nat}{op:Y.Op}{n:Int}{path:List Y.En}{s:Y.St}(h:s.off=true):Y.ah (Y.dY g op f n path) s=((Y.Rs.nil,true),s):=by
 cases f with
 |zero=>rfl
 |succ f=>unfold Y.dY;simp only[Y.al,bn,bG,bM,cW,cX,ne_eq,not_true_eq_false,not_false_eq_true,if_true,if_false,Bool.not_true,Bool.not_false,true_and,and_true,false_and,and_false,true_or,or_true,false_or,or_false,Bool.false_eq_true,decide_true,decide_false,h]
theorem uM {g f:Nat}{op:Y.Op}{n:Int}{path:List Y.En}{s:Y.St}(h:s.off=false):Y.ah (Y.dY g op (f+1) n path) s=Y.ah (Y.nD g n op.key >>= λs=>Y.kK g s >>= λw=>if Y.kd w=4 then Y.hU g (Y.aw w) >>= λok=>(if ok=false then pure (Y.Rs.ql,true) else pure (Y.Rs.nil,false)) else if Y.kd w=3 then Y.dY g op f (Y.aw w) (path++[⟨n,s,w⟩]) else Y.lN g op n s w path) s:=by
 conv=>lhs;unfold Y.dY
 simp only[Y.al,bn,bG,bM,cW,cX,ne_eq,not_true_eq_false,not_false_eq_true,if_true,if_false,Bool.not_true,Bool.not_false,true_and,and_true,false_and,and_false,true_or,or_true,false_or,or_false,Bool.false_eq_true,decide_true,decide_false,h]
theorem Nb (h:JX K p st H){ff:Nat}(YJ:st.left≤ff)(op:kp):aF (run G) 156 [pv p,jx op] H (jH K p st (Y.dY (ff+1) (om op) (ff+1) 1 [])):=by
 refine Ev.up (t:=λk=>Yr (run G k) k (pv p) (jx op) H) ?_ λk=>SY ..
 have ZW:=h.left;obtain⟨hK,b,hr,hk⟩:=id h;obtain⟨i0,e0⟩: ∃i,i=H.length:=⟨_,rfl⟩;obtain⟨i1,e1⟩: ∃i,i=H.length+1:=⟨_,rfl⟩;obtain⟨t,P5,C8⟩:=gI b H.length;have hd:YM H b p i0 i1 t:=⟨e0,e1,P5,λi hi=>by have:=C8 i hi;omega⟩
 obtain⟨H1,gg⟩: ∃z,z=H.new ⟨n8 op,39,1,false⟩:=⟨_,rfl⟩;have l1:H1.length=H.length+1:=by rw[gg,cD]
 obtain⟨H2,iJ⟩: ∃z,z=H1.new ⟨rc bS,47,1,false⟩:=⟨_,rfl⟩;have fK:JX (λH' o=>Fr H b H' o [(p:Int)]∧Cl i0 (n8 op) 39 H' o) p st H1:=by
  rw[gg];have P9:JX (λH' o=>Fr H b H' o [(p:Int)]) p st H:=⟨bH.base (by simp),b,hr,Fr.refl _ _ _⟩
  refine P9.nI _ _ 1 ((bH.base (by simp)).and λH o H' o' a f=>a.fr f (by simp)) λo hk f=>⟨hk.new _ _,?_⟩
  rw[e0];exact Cl.made
 have fP:JX (KB H b p i0 i1 t op (rc bS) aA []) p st H2:=by
  rw[iJ];refine fK.nI _ _ 1 (KB.fg hd) λo hk f=>⟨hk.1.new _ _,hk.2.new,?_,.inl ⟨rfl,rfl⟩⟩
  rw[e1, ←l1];exact Cl.made
 have bx:=Dj op H;rw[←e0, ←gg] at bx;have n1:aV H1 47 1 [cv 0,.bool false,cv 0,cv 0,cv 0,aA]=(pv i1,H2):=by rw[iJ,e1, ←l1];rfl
 have iq: ∀{c1:List Value} {x:Value} {path:List Y.En} {s':Y.St} {H':aa},JX (KB H b p i0 i1 t op c1 x path) p s' H'→JX K p s' H':=λhj=>hj.mono hK λo' hg=>hK _ _ _ _ hk hg.fr
 simp -implicitDefEqProofs only[Yr,bx,n1,sS,Nat.reduceAdd];refine Ev.loop (k:=st.left) (λk vs Hx=>∃(x:Value) (path:List Y.En) (nn:Int) (sx:Y.St) (fx:Nat) (x5 aM x8 x9 bR dE cC dU:Value),JX (KB H b p i0 i1 t op (rc bS) x path) p sx Hx∧k=sx.left∧sx.left≤ff∧(sx.left+1≤fx∨sx.off=true)∧(-9223372036854775808≤nn∧nn≤65536)∧(∀e∈path, -9223372036854775808≤e.node∧e.node≤65536)∧path.length+sx.left≤1048577∧Y.ah (Y.dY (ff+1) (om op) (ff+1) 1 []) st=Y.ah (Y.dY (ff+1) (om op) fx nn path) sx∧vs=[pv p,jx op,pv i1,x5,aM,cv nn,pv i0,x8,x9,bR,dE,cC,dU,x])
  (λr=>∃(c1:List Value) (x:Value) (path:List Y.En) (sx:Y.St) (x5 aM x6 x8 x9 bR dE cC dU:Value),JX (KB H b p i0 i1 t op c1 x path) p sx r.2.2∧c1.length=6∧r.2.1=[pv p,jx op,pv i1,x5,aM,x6,pv i0,x8,x9,bR,dE,cC,dU,x]∧((r.1= .exit 0∧Y.ah (Y.dY (ff+1) (om op) (ff+1) 1 []) st=((Y.Rs.nil,true),sx))∨(r.1= .ret∧∃rr bb,x5= .bool bb∧c1=rc (zx rr)∧Y.ah (Y.dY (ff+1) (om op) (ff+1) 1 []) st=((rr,bb),sx))))
  ⟨aA,[],1,st,ff+1,_,_,_,_,_,_,_,_,fP,rfl,YJ,.inl (by omega),by omega,(λe he=>by cases he),by simpa using ZW,rfl,rfl⟩ ?_ ?_
 ·rintro k vs Hx ⟨x,path,nn,sx,fx,x5,aM,x8,x9,bR,dE,cC,dU,hj,rfl,hl,qU,hnn,hp,VP,E,rfl⟩;obtain⟨a0,a1⟩:=KB.n9 hj;simp -implicitDefEqProofs only[ME,yW,sS,Nat.reduceAdd];refine Ev.nZ hj (λhq=>?_) (λhq=>?_)<;>try simp -implicitDefEqProofs only[a0,sS,Nat.reduceAdd]
  ·rw[Dn hq] at E;exact Ev.ret (.inr ⟨by simp,_,_,path,sx,_,_,_,_,_,_,_,_,_,hj,rfl,rfl,.inl ⟨rfl,E⟩⟩)
  have l4:=iU hq;have PX:sx.left+1≤fx:=qU.resolve_right (by rw[hq];simp)
  obtain⟨fy,rfl⟩: ∃fy,fx=fy+1:=⟨fx-1,by omega⟩
  rw[uM hq] at E;refine Ev.fe (Tv hj (f:=ff+1) (by omega) _ _) λzs s2 H2 e2 hj=>?_
  have m2:=dv e2;rw[Y.aJ e2] at E;refine Ev.fe (He hj (f:=ff+1) (by omega) _) λzw s3 H3 e3 hj=>?_
  have m3:=Bw e3;rw[Y.aJ e3] at E;refine Ev.is (hX _) ?_
  try simp -implicitDefEqProofs only[sS,Nat.reduceAdd]
  refine Ev.eql (λNc=>?_) (λNc=>?_)<;>try simp -implicitDefEqProofs only[sS,Nat.reduceAdd]
  ·rw[if_pos Nc] at E;refine Ev.is (n3 _) ?_;refine Ev.MM (JI hj (f:=ff) (by omega) _) λz s4 H4 e4 hj=>?_
   rw[Y.aJ e4] at E;cases z<;>simp -implicitDefEqProofs only[sS,Nat.reduceAdd]
   ·refine Ev.call (JJ hj) ?_;rintro v H5 ⟨rfl,hj⟩;obtain⟨H6,g5,g6,lG⟩:=KB.fin hd hj rfl (lO 8);simp -implicitDefEqProofs only[g5,sS,Nat.reduceAdd];exact Ev.ret (.inr ⟨by simp,_,_,path,s4,_,_,_,_,_,_,_,_,_,lG,rfl,rfl,.inr ⟨rfl,Y.Rs.ql,true,rfl,rfl,E⟩⟩)
   ·obtain⟨H6,g5,g6,lG⟩:=KB.fin hd hj rfl bS;simp -implicitDefEqProofs only[Dk,g5,sS,Nat.reduceAdd];exact Ev.ret (.inr ⟨by simp,_,_,path,s4,_,_,_,_,_,_,_,_,_,lG,rfl,rfl,.inr ⟨rfl,Y.Rs.nil,false,rfl,rfl,E⟩⟩)
  rw[if_neg Nc] at E;refine Ev.eql (λhk3=>?_) (λhk3=>?_)<;>try simp -implicitDefEqProofs only[adm,adn,sS,Nat.reduceAdd]
  ·rw[if_pos hk3] at E;refine Ev.abo hd hj (by omega) λx' Hz hj=>?_
   refine Ev.is (n3 _) ?_
   try simp -implicitDefEqProofs only[sS,Nat.reduceAdd]
   refine Ev.ret (.inl ⟨rfl,s3.left,by omega,x',_,Y.aw zw,s3,fy,_,_,_,_,_,_,_,_,hj,rfl,by omega,.inl (by omega),qm _,λe he=>?_,by simp;omega,E,rfl⟩)
   rcases List.mem_append.1 he with h|h
   ·exact hp e h
   ·rw[List.mem_singleton] at h;subst h;exact hnn
  ·rw[if_neg hk3] at E;obtain⟨a0,a1⟩:=KB.n9 hj;simp -implicitDefEqProofs only[a1,sS,Nat.reduceAdd];refine Ev.call (abn hj (ff:=ff) (by omega) (λH o hg=>hg.en) (by have:=hd.lt;omega) hp (by omega) op hnn _ _) ?_
   rintro v H5 ⟨rfl,hj⟩;obtain⟨H6,g5,g6,lG⟩:=KB.fin hd hj rfl (zx (Y.ah (Y.lN (ff+1) (om op) nn zs zw path) s3).1.1);simp -implicitDefEqProofs only[g5,sS,Nat.reduceAdd];exact Ev.ret (.inr ⟨by simp,_,_,path,_,_,_,_,_,_,_,_,_,_,lG,rfl,rfl,.inr ⟨rfl,_,_,rfl,rfl,E⟩⟩)
 ·rintro e vs Hx ⟨c1,x,path,sx,x5,aM,x6,x8,x9,bR,dE,cC,dU,hj,hc,rfl,he⟩;rcases he with⟨he,E⟩|⟨he,rr,bb,rfl,rfl,E⟩
  ·simp only at he;subst he;obtain⟨H6,g5,g6,lG⟩:=KB.fin hd hj hc bS;simp -implicitDefEqProofs only[MF,yX,Dk,g5,g6,sS,Nat.reduceAdd];exact Ev.ret (jH.of (z:=Y.Rs.nil) (iq lG) E)
  ·simp only at he;subst he;obtain⟨_,o1,_,hg⟩:=id hj;have Vc:=pV i1 (zx rr) (s:=aA) Hx hg.k1.1;show Ev (λ_=>af (pS (jj Tryz.prog 47 (pv i1) Hx) Hx) λv _=>some (Value.tuple #[v,.bool bb],Hx)) _
   simp -implicitDefEqProofs only[YN,Vc,sS,Nat.reduceAdd];exact Ev.ret (jH.of (iq hj) E)
abbrev Nd (K:aa→aj→Prop)(p:Nat)(st:Y.St)(t:Y.Tr Y.Rs):Value→aa→Prop:=λv H'=>v=gz (zx (Y.ah t st).1) aA∧JX K p (Y.ah t st).2 H'
theorem Nd.of {t:Y.Tr Y.Rs}{z:Y.Rs}(hj:JX K p s1 H')(e:Y.ah t st=(z,s1)):Nd K p st t (gz (zx z) aA) H':=by unfold Nd;rw[e];exact⟨rfl,hj⟩
theorem Hp {f:Nat}{a k z:Int}{s s':Y.St}(e:Y.ah (Y.nD f a k) s=(z,s')):s'.left≤s.left-1:=by
 unfold Y.nD Y.lu at e;rw[Y.bind_assoc,Y.al] at e;have h1:(Y.ah (Y.rd a) s).2.left=s.left-1:=du rfl;have h2:=dv e;omega
theorem Dp {g f:Nat}{op:Y.Op}{n:Int}{path:List Y.En}{s s':Y.St}{z:Y.Rs×Bool}(h:s.off=false)(e:Y.ah (Y.dY g op (f+1) n path) s=(z,s')):s'.left≤s.left-1:=by
 rw[uM h,Y.al] at e;have h1:(Y.ah (Y.nD g n op.key) s).2.left≤s.left-1:=Hp rfl;have h2:=dv e;omega
theorem Fo {g f:Nat}{op:Y.Op}{s:Y.St}(h:s.off=true):Y.ah (Y.gu g op f) s=(Y.Rs.nil,s):=by
 cases f with
 |zero=>rfl
 |succ f=>unfold Y.gu;simp only[Y.al,bn,bG,bM,cW,cX,ne_eq,not_true_eq_false,not_false_eq_true,if_true,if_false,Bool.not_true,Bool.not_false,true_and,and_true,false_and,and_false,true_or,or_true,false_or,or_false,Bool.false_eq_true,decide_true,decide_false,h]
theorem Hq {g f:Nat}{op:Y.Op}{s:Y.St}(h:s.off=false):Y.ah (Y.gu g op (f+1)) s=Y.ah (Y.dY g op g 1 [] >>= λre=>if re.2=true then pure re.1 else Y.gu g op f) s:=by
 conv=>lhs;unfold Y.gu
 simp only[Y.al,bn,bG,bM,cW,cX,ne_eq,not_true_eq_false,not_false_eq_true,if_true,if_false,Bool.not_true,Bool.not_false,true_and,and_true,false_and,and_false,true_or,or_true,false_or,or_false,Bool.false_eq_true,decide_true,decide_false,h]
theorem Qb (h:JX K p st H){ff:Nat}(YJ:st.left≤ff)(op:kp):aF (run G) 127 [pv p,jx op] H (Nd K p st (Y.gu (ff+1) (om op) (ff+1))):=by
 refine Ev.up (t:=λk=>Yc (run G k) k (pv p) (jx op) H) ?_ λk=>SN ..
 obtain⟨hK,b,hr,hk⟩:=id h;obtain⟨i0,e0⟩: ∃i,i=H.length:=⟨_,rfl⟩;obtain⟨i1,e1⟩: ∃i,i=H.length+1:=⟨_,rfl⟩;obtain⟨t,P5,C8⟩:=gI b H.length;have hd:YM H b p i0 i1 t:=⟨e0,e1,P5,λi hi=>by have:=C8 i hi;omega⟩
 obtain⟨H1,gg⟩: ∃z,z=H.new ⟨n8 op,39,1,false⟩:=⟨_,rfl⟩;have l1:H1.length=H.length+1:=by rw[gg,cD]
 obtain⟨H2,iJ⟩: ∃z,z=H1.new ⟨rc bS,47,1,false⟩:=⟨_,rfl⟩;have fK:JX (λH' o=>Fr H b H' o [(p:Int)]∧Cl i0 (n8 op) 39 H' o) p st H1:=by
  rw[gg];have P9:JX (λH' o=>Fr H b H' o [(p:Int)]) p st H:=⟨bH.base (by simp),b,hr,Fr.refl _ _ _⟩
  refine P9.nI _ _ 1 ((bH.base (by simp)).and λH o H' o' a f=>a.fr f (by simp)) λo hk f=>⟨hk.new _ _,?_⟩
  rw[e0];exact Cl.made
 have fP:JX (KB H b p i0 i1 t op (rc bS) aA []) p st H2:=by
  rw[iJ];refine fK.nI _ _ 1 (KB.fg hd) λo hk f=>⟨hk.1.new _ _,hk.2.new,?_,.inl ⟨rfl,rfl⟩⟩
  rw[e1, ←l1];exact Cl.made
 have bx:=Dj op H;rw[←e0, ←gg] at bx;have n1:aV H1 47 1 [cv 0,.bool false,cv 0,cv 0,cv 0,aA]=(pv i1,H2):=by rw[iJ,e1, ←l1];rfl
 have iq: ∀{c1:List Value} {x:Value} {path:List Y.En} {s':Y.St} {H':aa},JX (KB H b p i0 i1 t op c1 x path) p s' H'→JX K p s' H':=λhj=>hj.mono hK λo' hg=>hK _ _ _ _ hk hg.fr
 simp -implicitDefEqProofs only[Yc,bx,n1,sS,Nat.reduceAdd];refine Ev.loop (k:=st.left) (λk vs Hx=>∃(sx:Y.St) (fx:Nat) (aO x6 aX x5:Value),JX (KB H b p i0 i1 t op (rc bS) aA []) p sx Hx∧k=sx.left∧sx.left≤ff∧(sx.left+1≤fx∨sx.off=true)∧Y.ah (Y.gu (ff+1) (om op) (ff+1)) st=Y.ah (Y.gu (ff+1) (om op) fx) sx∧vs=[pv p,jx op,pv i1,aO,pv i0,x6,aX,x5])
  (λr=>∃(c1:List Value) (sx:Y.St) (aO x6 aX x5:Value),JX (KB H b p i0 i1 t op c1 aA []) p sx r.2.2∧c1.length=6∧r.2.1=[pv p,jx op,pv i1,aO,pv i0,x6,aX,x5]∧((r.1= .exit 0∧Y.ah (Y.gu (ff+1) (om op) (ff+1)) st=(Y.Rs.nil,sx))∨(r.1= .ret∧∃rr,c1=rc (zx rr)∧Y.ah (Y.gu (ff+1) (om op) (ff+1)) st=(rr,sx))))
  ⟨st,ff+1,_,_,_,_,fP,rfl,YJ,.inl (by omega),rfl,rfl⟩ ?_ ?_
 ·rintro k vs Hx ⟨sx,fx,aO,x6,aX,x5,hj,rfl,hl,qU,E,rfl⟩;obtain⟨a0,a1⟩:=KB.n9 hj;simp -implicitDefEqProofs only[Mo,yH,sS,Nat.reduceAdd];refine Ev.nZ hj (λhq=>?_) (λhq=>?_)<;>try simp -implicitDefEqProofs only[a1,sS,Nat.reduceAdd]
  ·rw[Fo hq] at E;exact Ev.ret (.inr ⟨by simp,_,sx,_,_,_,_,hj,rfl,rfl,.inl ⟨rfl,E⟩⟩)
  have l4:=iU hq;have PX:sx.left+1≤fx:=qU.resolve_right (by rw[hq];simp)
  obtain⟨fy,rfl⟩: ∃fy,fx=fy+1:=⟨fx-1,by omega⟩
  rw[Hq hq] at E;refine Ev.call (Nb hj (ff:=ff) hl op) ?_;rintro v H5 ⟨rfl,hj⟩;generalize hR:Y.ah (Y.dY (ff+1) (om op) (ff+1) 1 []) sx=R at hj
  obtain⟨⟨rr,bb⟩,s2⟩:=R;have m2:=Dp hq hR;rw[Y.aJ hR] at E;simp only at hj;obtain⟨H6,DE⟩: ∃z,z=H5.new ⟨rc bS,47,1,false⟩:=⟨_,rfl⟩;have n2:aV H5 47 1 [cv 0,.bool false,cv 0,cv 0,cv 0,aA]=(pv H5.length,H6):=by rw[DE];rfl
  have oj:JX (λH' o=>KB H b p i0 i1 t op (rc bS) aA [] H' o∧Cl H5.length (rc bS) 47 H' o∧i1<H5.length) p s2 H6:=by
   rw[DE];refine hj.nI _ _ 1 ((KB.fg hd).and λH o H' o' a f=>⟨a.1.fr f (by simp),a.2⟩) λo hk f=>⟨KB.fg hd _ _ _ _ hk (f.wk (by simp)),Cl.made,ar hk.k1.1⟩
  obtain⟨_,o6,hr6,hg6,hc6,hi6⟩:=id oj;have kY:=ug H5.length (zx rr) (s:=aA) rfl H6 hc6.1 rfl;obtain⟨H7,Rg⟩: ∃z,z=H6.put H5.length ⟨rc (zx rr),47,1,false⟩:=⟨_,rfl⟩;rw[←Rg] at kY;have Dg:JX (λH' o=>KB H b p i0 i1 t op (rc bS) aA [] H' o∧Cl H5.length (rc (zx rr)) 47 H' o∧i1<H5.length) p s2 H7:=by
   rw[Rg];refine oj.uj (λo hg=>hg.2.1) ((KB.fg hd).and λH o H' o' a f=>⟨a.1.fr f (by simp),a.2⟩) λo hg=>⟨⟨hg.1.fr.put λhh=>by omega,hg.1.k0.put (by omega),hg.1.k1.put (by omega),.inl ⟨rfl,rfl⟩⟩,hg.2.1.self,hg.2.2⟩
  have Vi:JX (KB H b p i0 i1 t op (rc bS) aA []) p s2 H7:=Dg.mono (KB.fg hd) λo a=>a.1
  obtain⟨_,o7,hr7,hg7,hc7,hi7⟩:=id Dg;have uW:=pV H5.length (zx rr) (s:=aA) H7 hc7.1;obtain⟨H8,g5,g6,lG⟩:=KB.fin hd Vi rfl (zx rr);simp -implicitDefEqProofs only[n2,kY,sS,Nat.reduceAdd];cases bb<;>simp -implicitDefEqProofs only[uW,g5,sS,Nat.reduceAdd]
  ·exact Ev.ret (.inl ⟨rfl,s2.left,by omega,s2,fy,_,_,_,_,Vi,rfl,by omega,.inl (by omega),by rw[E];rfl,rfl⟩)
  ·exact Ev.ret (.inr ⟨by simp,_,s2,_,_,_,_,lG,rfl,rfl,.inr ⟨rfl,rr,rfl,by rw[E];rfl⟩⟩)
 ·rintro e vs Hx ⟨c1,sx,aO,x6,aX,x5,hj,hc,rfl,he⟩;rcases he with⟨he,E⟩|⟨he,rr,rfl,E⟩
  ·simp only at he;subst he;obtain⟨H6,g5,g6,lG⟩:=KB.fin hd hj hc bS;simp -implicitDefEqProofs only[Mp,yI,Dk,g5,g6,sS,Nat.reduceAdd];exact Ev.ret (Nd.of (z:=Y.Rs.nil) (iq lG) E)
  ·simp only at he;subst he;obtain⟨_,o1,_,hg⟩:=id hj;have Vc:=pV i1 (zx rr) (s:=aA) Hx hg.k1.1;show Ev (λ_=>af (pS (jj Tryz.prog 47 (pv i1) Hx) Hx) λv _=>some (v,Hx)) _
   simp -implicitDefEqProofs only[YN,Vc,sS,Nat.reduceAdd];exact Ev.ret (Nd.of (iq hj) E)
end
end Go.Proofs.YtgfgglponbmgmaaGreat.Fun
end
section
namespace Go.Proofs.YtgfgglponbmgmaaGreatA.Y
variable {G:Ga} {c s o w:Int} {p:List Nat} {α β:Type} {t n:Nat}
theorem Safe.vo {f:Bool→Tr α}{Q:Nat→α→Ga→Prop}(h:Safe t n (f false) G Q):Safe t n (g9 >>= f) G Q:=by
 cases n with
 |zero=>exact Safe.zero
 |succ n=>exact h
theorem Safe.rcB {r:Int}{u:Tr α}{Q:Nat→α→Ga→Prop}(h:Safe t n u G Q):Safe t n (Tr.rc r u) G Q:=by
 cases n with
 |zero=>exact Safe.zero
 |succ n=>exact h
theorem Safe.ldB {u:Tr α}{Q:Nat→α→Ga→Prop}(h:Safe t n u G Q):Safe t n (Tr.ld u) G Q:=by
 cases n with
 |zero=>exact Safe.zero
 |succ n=>exact h
theorem nJ {k:Int}(h:2≤k∧k≤16384):2≤bq k:=by
 unfold bq;rw[if_neg (by omega)];split<;>omega
theorem Nf {f d k:Nat}(t0:G.ty c=some (.inner d p))(hc:sJ G c k):Safe t n (C7 f c k) G λ_ x G'=>x.2=true→x.1≠0∧As G' c p x.1:=by
 refine Safe.real λG0 m0 l0 i0=>?_
 have hk:=(hc.mono l0.le).le i0;unfold C7;split
 ·next h2=>
  have dg:=nJ (k:=k) (by omega)
  refine Dc (r:=.inner (max (bq k) 1).toNat p) ⟨by omega,k,_,_,rfl,by simp,by simp;omega,λi hi=>.inl ?_⟩ (λG1 j1 _ _=>Safe.ret λ_ _ _ _ _ h=>by simp at h) λG1 z j1 l1 _ ma=>?_
  ·simp[List.getD_eq_getElem?_getD,List.getElem?_replicate];split<;>rfl
  ·refine Safe.ret λG2 m2 l2 _ _ _=>?_
   have kz:=iE (k:=3) (by omega) ma.pos
   refine⟨λ(h:fm 3 z=0)=>by rw[h,sK] at kz;omega,Hg _ _,k,((hc.mono l0.le).mono l1.le).mono l2.le,λ_=>⟨kz,?_⟩,λh=>by omega⟩
   rw[jb (by omega) ma.pos];exact l2.le.ty _ _ ma.ty
 ·next h2=>
  have R:Reads (if(k:Int)=1 then gO f c 0 1 [] else pure []):=.ite (mF _ _ _ _ _) (.pure _)
  refine Safe.bind ((R.safe).wk λj l G1 _ g1 _=>?_)
  refine Safe.vo ?_;rw[if_neg (by decide)]
  refine(zp l p).wk λj x G2 _ g2 h hx=>⟨(h hx).U3,(h hx).1.1,k,((hc.mono l0.le).mono g1).mono g2,λh=>by omega,λ_=>h hx⟩
theorem TD {i:Int}(hc:1≤c∧c≤16384)(hi:0≤i∧i≤16384):lM c i=c+4+i:=by
 unfold lM E9;rw[if_neg (by simp;omega)]
theorem Hr {d i:Int}(hi:i<0):dr c d i=0:=by
 unfold dr E9;rw[if_pos (by simp;omega)]
theorem Ng {d:Nat}{l:PL}{i x:Int}(t0:G.ty c=some (.inner d p))(hi:i<d)(hx:0≤i→di G (p++[i.toNat]) x):Safe t n (ML l c d i x) G λ_ b G'=>0≤i→G'.nz (bY c d i.toNat):=by
 refine Safe.real λG0 m0 l0 i0=>?_
 have t1:=l0.le.ty _ _ t0;obtain⟨_,d1,d2,c1⟩:=i0.YC t1;have put: ∀{G1:Ga} {j:Nat},G0.le G1→Safe t j (cs (dr c d i) 0 x >>= λ_=>Tr.ret true) G1 λ_ b G'=>0≤i→G'.nz (bY c d i.toNat):=by
  intro G1 j g1;by_cases h0:0≤i
  ·rw[km c1 d2 ⟨h0,hi⟩];have so:aQ G1 (bY c d i.toNat) c (p++[i.toNat]):=aQ.mk' (g1.ty _ _ t1) (by omega)
   exact aa6 so (((hx h0).mono l0.le).mono g1) λG2 z j2 l2 _ hz=>Safe.ret λG3 m3 l3 _ _ _=>l3.le.nz _ hz
  ·rw[Hr (by omega)]
   exact aa7 λG2 z j2 l2 _=>Safe.ret λG3 m3 l3 _ _ h=>absurd h h0
 unfold ML;split
 ·exact put (Ga.le.refl _)
 ·split
  ·rw[TD c1 (by omega)]
   exact aa1 t1 (by omega) λG2 z j2 l2 _=>put l2.le
  ·exact put (Ga.le.refl _)
theorem zy {f d:Nat}{a k i:Int}(t0:G.ty c=some (.inner d p))(hi:i<d):Safe t n (oU f a k c d i) G λ_ b G'=>b=true→0≤i→G'.nz (bY c d i.toNat):=by
 unfold oU;refine Safe.bind (((mF _ _ _ _ _).safe).wk λj l G1 _ g1 _=>?_)
 refine Safe.vo ?_;rw[if_neg (by decide)]
 refine Safe.bind ((zp l (p++[i.toNat])).wk λj x G2 _ g2 h=>?_)
 cases hb:x.2 with
 |false=>exact Safe.ret λ_ _ _ _ _ h=>by simp at h
 |true=>
  rw[if_neg (by decide)]
  exact(Ng (g2.ty _ _ (g1.ty _ _ t0)) hi λ_=>h hb).wk λ_ _ _ _ _ h _=>h
theorem uN {g d:Nat}{a k cI r s:Int}(hd:bq k=d): ∀(f:Nat) {G:Ga} {n:Nat},G.ty c=some (.inner d p)→G.ty cI=some (.bW r s)→Safe t n (kD g cI a k c f) G λ_ _ _=>True
 |0,_,_,_,_=>Safe.ret λ_ _ _ _ _=>trivial
 |f+1,G,n,t0,tr=>by
  unfold kD;refine Safe.vo ?_;rw[if_neg (by decide)]
  refine Safe.real λG0 m0 l0 i0=>?_
  have bg:=i0.Ra (l0.le.ty _ _ tr);rw[jw (by omega)]
  refine aa2 (l0.le.ty _ _ tr) (.inr ⟨_,_,rfl,rfl⟩) λG1 z j1 l1 _=>?_
  have t0:=l0.le.ty _ _ t0;have tr:=l0.le.ty _ _ tr;split
  ·exact Safe.ret λ_ _ _ _ _=>trivial
  refine Safe.vo ?_;rw[if_neg (by decide),hd]
  refine Safe.bind ((zy (l1.le.ty _ _ t0) (by omega)).wk λj b G2 _ g2 _=>?_)
  split
  ·exact Safe.ret λ_ _ _ _ _=>trivial
  ·exact uN hd f (g2.ty _ _ (l1.le.ty _ _ t0)) (g2.ty _ _ (l1.le.ty _ _ tr))
theorem zz {g d:Nat}{a k:Int}(hd:bq k=d): ∀(f:Nat) {G:Ga} {n i:Nat},n≤f→i≤d→G.ty c=some (.inner d p)→(∀j,j<i→G.nz (bY c d j))→Safe t n (gP g a k c f i) G λ_ b G'=>b=true→full G' c d
 |0,_,n,_,hn,_,_,_=>by
  have:n=0:=by omega
  subst this;exact Safe.zero
 |f+1,G,n,i,hn,hi,t0,hz=>by
  unfold gP;rw[hd];split
  ·next h=>
   have:i=d:=by omega
   subst this;exact Safe.ret λG2 m2 l2 _ _ _ j hj=>l2.le.nz _ (hz j hj)
  ·next h=>
   refine Safe.vo ?_;rw[if_neg (by decide)]
   refine Safe.real λG0 m0 l0 i0=>?_
   have t1:=l0.le.ty _ _ t0;obtain⟨_,d1,d2,c1⟩:=i0.YC t1;rw[km c1 d2 (i:=(i:Int)) ⟨by omega,by omega⟩,Int.toNat_natCast]
   have so:aQ G0 (bY c d i) c (p++[i]):=aQ.mk' t1 (by omega)
   have e1:((i:Int)+1)=((i+1:Nat):Int):=by omega
   have next: ∀{G2:Ga} {j:Nat},G0.le G2→j≤f→G2.nz (bY c d i)→Safe t j (gP g a k c f ((i:Int)+1)) G2 λ_ b G'=>b=true→full G' c d:=by
    intro G2 j g2 hj hz2;rw[e1];refine zz hd f hj (by omega) (g2.ty _ _ t1) λq hq=>?_
    by_cases e:q=i
    ·subst e;exact hz2
    ·exact g2.nz _ (l0.le.nz _ (hz q (by omega)))
   refine kQ λG1 m1 j1 l1 i1 e1=>?_
   split
   ·next dC=>
    refine next l1.le (by omega) ?_
    rcases i1.slot (so.mono l1.le) with⟨x,_⟩|⟨x,_⟩
    ·exact absurd x dC
    ·exact x
   ·refine Safe.vo ?_;rw[if_neg (by decide)]
    refine Safe.bind ((zy (l1.le.ty _ _ t1) (i:=(i:Int)) (by omega)).wk λj b G2 hj g2 h=>?_)
    cases b with
    |false=>exact Safe.ret λ_ _ _ _ _ h=>by simp at h
    |true=>
     rw[if_neg (by decide)]
     have:=h rfl (by omega)
     rw[Int.toNat_natCast] at this;exact next (l1.le.trans g2) (by omega) this
theorem Fp {f d:Nat}{a k cI r s:Int}(hn:n≤f)(hd:bq k=d)(t0:G.ty c=some (.inner d p))(tr:G.ty cI=some (.bW r s)):Safe t n (gr f cI a k c) G λ_ b G'=>b=true→full G' c d:=by
 unfold gr;refine Safe.bind ((uN hd f t0 tr).wk λj b G1 hj g1 _=>?_)
 cases b with
 |false=>exact Safe.ret λ_ _ _ _ _ h=>by simp at h
 |true=>
  rw[if_neg (by decide)]
  exact zz hd f (i:=0) (by omega) (by omega) (g1.ty _ _ t0) λj hj=>by omega
theorem bs.Qc {m:Mm}(h:bs G m){cI:Int}(t0:G.ty cI=some (.bW c s)): ∃o p d,aQ G s o p∧G.ty c=some (.inner d p)∧full G c d∧kd (m.at cI)=3∧aw (m.at cI)=c∧m.at (cI+1)=o+2∧m.at (cI+2)=s∧((m.at (cI+3)=0∧¬G.nz (cI+3))∨(m.at (cI+3)≠0∧G.nz (cI+3)∧As G c p (m.at (cI+3)))):=h.iD _ _ t0
theorem di.reb {cI d:Int}{k:Nat}(hp:1≤cI∧cI≤65536)(t0:G.ty cI=some (.bW c s))(so:aQ G s o p)(tc:G.ty c=some (.inner k p))(hf:full G c k):di G p (fm 4 cI):=by
 refine⟨n6.fm (by omega) hp t0,.inr (.inr (.inr ⟨iE (by omega) hp,c,s,o,k,?_,so,tc,hf⟩))⟩
 rw[jb (by omega) hp];exact t0
theorem uO {cI:Int}(t0:G.ty cI=some (.bW c s))(tc: ∃d,G.ty c=some (.inner d p))(hw:di G p w):Safe t n (ud cI w) G λ_ _ _=>True:=by
 unfold ud;refine Safe.real λG0 m0 l0 i0=>?_
 have bg:=i0.Ra (l0.le.ty _ _ t0);have t0:=l0.le.ty _ _ t0;have hw:=hw.mono l0.le;obtain⟨d0,tc⟩:=tc;have tc: ∃d,G0.ty c=some (.inner d p):=⟨d0,l0.le.ty _ _ tc⟩;rw[jw (x:=cI+1) (by omega),jw (x:=cI+2) (by omega)]
 refine kQ λG1 m1 j1 l1 i1 _=>?_
 have t1:=l1.le.ty _ _ t0;obtain⟨o,p',d,so,ZZ,fc,_,_,e1,e2,_⟩:=i1.Qc t1;obtain⟨d',tc⟩:=tc;have:p'=p:=by
  rw[l1.le.ty _ _ tc] at ZZ;cases ZZ;rfl
 subst this;rw[e1];refine kQ λG2 m2 j2 l2 i2 _=>?_
 have t2:=l2.le.ty _ _ t1;obtain⟨_,_,_,_,_,_,_,_,_,e2,_⟩:=i2.Qc t2;rw[e2];have U9:=so.mono l2.le;refine Safe.bind ((qN U9 rfl (di.reb (d:=0) (i2.Ra t2) t2 U9 (l2.le.ty _ _ ZZ) (full.mono l2.le fc)) ((hw.mono l1.le).mono l2.le)).wk λj r G3 _ _ _=>?_)
 exact Safe.ret λ_ _ _ _ _=>trivial
theorem zA {f d k:Nat}{cI:Int}(hn:n≤f)(t0:G.ty cI=some (.bW c s))(tc:G.ty c=some (.inner d p))(hk:sJ G c k)(hw:As G c p w):Safe t n (Bn f cI c k w) G λ_ _ _=>True:=by
 refine Safe.real λG0 m0 l0 i0=>?_
 obtain⟨h0,k',ck,h2,h1⟩:=hw.mono l0.le;have:k'=k:=sJ.uniq (λ_ _ _=>i0.aaX) ck (hk.mono l0.le)
 subst this;have hk':=ck.le i0;unfold Bn;split
 ·next ZH=>
  have dg:=nJ (k:=(k':Int)) (by omega)
  obtain⟨kw,tw⟩:=h2 (by omega)
  have ed:bq (k':Int)=((max (bq (k':Int)) 1).toNat:Int):=by omega
  refine Safe.bind ((Fp hn ed tw (l0.le.ty _ _ t0)).wk λj b G1 hj g1 h=>?_)
  cases b with
  |false=>exact Safe.ret λ_ _ _ _ _=>trivial
  |true=>
   rw[if_neg (by decide)]
   exact uO (g1.ty _ _ (l0.le.ty _ _ t0)) ⟨d,g1.ty _ _ (l0.le.ty _ _ tc)⟩ ⟨⟨h0,_,g1.ty _ _ tw⟩,.inr (.inr (.inl ⟨kw,_,g1.ty _ _ tw,h rfl⟩))⟩
 ·exact uO (l0.le.ty _ _ t0) ⟨d,l0.le.ty _ _ tc⟩ (h1 (by omega))
theorem uP {f:Nat}{cI:Int}(hn:n≤f+1)(t0:G.ty cI=some (.bW c s)):Safe t n (hU f cI) G λ_ _ _=>True:=by
 unfold hU;refine kQ λG1 m1 j1 l1 i1 e1=>?_
 have t1:=l1.le.ty _ _ t0;obtain⟨o,p,d,so,tc,fc,_,ea,_⟩:=i1.Qc t1;have bg:=i1.Ra t1;rw[ea,jw (x:=cI+3) (by omega)]
 refine Safe.bind ((Hi (by omega) tc fc).wk λj2 z G2 fP g2 h=>?_)
 obtain⟨k,rfl,ck⟩:=h;refine kQ λG3 m3 j3 l3 i3 e3=>?_
 have t3:=l3.le.ty _ _ (g2.ty _ _ t1);have tc3:=l3.le.ty _ _ (g2.ty _ _ tc);have ck3:=ck.mono l3.le;refine Safe.vo ?_;rw[if_neg (by decide)]
 have top: ∀{G':Ga} {m:Mm},bs G' m→G1.le G'→m.at (cI+3)≠0→As G' c p (m.at (cI+3)):=by
  intro G' m i g h;obtain⟨o',p',d',JG,ZZ,_,_,_,_,_,k⟩:=i.Qc (g.ty _ _ t1);rw[g.ty _ _ tc] at ZZ;cases ZZ;rcases k with⟨k,_⟩|⟨_,_,k⟩
  ·exact absurd k h
  ·exact k
 split
 ·refine Safe.bind ((Nf tc3 ck3).wk λj4 x G4 jh g4 h=>?_)
  cases hb:x.2 with
  |false=>exact Safe.ret λ_ _ _ _ _=>trivial
  |true=>
   rw[if_neg (by decide)]
   obtain⟨x0,xt⟩:=h hb;refine aa5 (g4.ty _ _ t3) (g4.ty _ _ tc3) x0 xt λG5 z j5 l5 e5 nz5=>?_
   refine kQ λG6 m6 j6 l6 i6 e6=>?_
   have g6:G3.le G6:=g4.trans (l5.le.trans l6.le);have ne:m6.at (cI+3)≠0:=by
    obtain⟨_,_,_,_,_,_,_,_,_,_,k⟩:=i6.Qc (g6.ty _ _ t3);rcases k with⟨_,k⟩|⟨k,_⟩
    ·exact absurd (l6.le.nz _ nz5) k
    ·exact k
   exact zA (by omega) (g6.ty _ _ t3) (g6.ty _ _ tc3) (ck3.mono g6) (top i6 (g2.trans (l3.le.trans g6)) ne)
 ·next dC=>exact zA (by omega) t3 tc3 ck3 (top i3 (g2.trans l3.le) dC)
def Au (G:Ga)(e:En):Prop:=n6 G e.word∧∃p d,aQ G e.slot e.node p∧kd e.word=3∧G.ty (aw e.word)=some (.inner d p)∧full G (aw e.word) d
theorem Au.mono {G':Ga}{e:En}(g:G.le G')(h:Au G e):Au G' e:=by
 obtain⟨h0,p,d,h1,h2,h3,h4⟩:=h;exact⟨h0.mono g,p,d,h1.mono g,h2,g.ty _ _ h3,full.mono g h4⟩
theorem Fq {f:Nat}{e:En}(hn:n≤f)(h:Au G e):Safe t n (oV f e) G λ_ _ _=>True:=by
 obtain⟨f0,p,d,so,kw,tw,fw⟩:=h;unfold oV;refine Dc (r:=.bW (aw e.word) e.slot) ⟨e.node,p,d,e.word,so,tw,fw,kw,rfl,rfl⟩ (λG1 j1 _ _=>?_) λG1 a j1 l1 _ ma=>?_
 ·rw[if_pos (by omega)];exact Safe.ret λ_ _ _ _ _=>trivial
 have pa:=ma.pos;rw[if_neg (by omega)]
 have U8:=so.mono l1.le;have fr:=di.reb (d:=0) pa ma.ty U8 (l1.le.ty _ _ tw) (full.mono l1.le fw);have fo:di G1 p e.word:=⟨f0.mono l1.le,.inr (.inr (.inl ⟨kw,d,l1.le.ty _ _ tw,full.mono l1.le fw⟩))⟩;refine Safe.bind ((qN U8 rfl fo fr).wk λj r G2 hj g2 _=>?_)
 split
 ·exact uP (by omega) (g2.ty _ _ ma.ty)
 ·exact Safe.ret λ_ _ _ _ _=>trivial
theorem uQ {f:Nat}: ∀(l:List En) (first:Option En) {G:Ga} {n:Nat},n≤f→(∀e∈l,Au G e)→(∀e,first=some e→Au G e)→Safe t n (dt f first l) G λ_ _ _=>True
 | [],none,_,_,_,_,_=>Safe.ret λ_ _ _ _ _=>trivial
 | [],some e,G,n,hn,_,hf=>by
  unfold dt;refine Safe.vo ?_;rw[if_neg (by decide)]
  exact Safe.bind ((Fq hn (hf e rfl)).wk λj b G1 _ _ _=>Safe.ret λ_ _ _ _ _=>trivial)
 |e::l,first,G,n,hn,hl,hf=>by
  unfold dt;refine Safe.vo ?_;rw[if_neg (by decide)]
  obtain⟨f0,p,d,so,kw,tw,fw⟩:=hl e (by simp)
  refine aa2 tw (.inl ⟨_,_,rfl,rfl⟩) λG1 z j1 l1 _=>?_
  refine kQ λG2 m2 j2 l2 i2 _=>?_
  have g:=l1.le.trans l2.le;refine uQ l _ (by omega) (λx hx=>(hl x (by simp[hx])).mono g) λx hx=>?_
  cases first with
  |some y=>simp only at hx;cases hx;exact(hf _ rfl).mono g
  |none=>
   simp only at hx;split at hx
   ·cases hx;exact(hl _ (by simp)).mono g
   ·cases hx
theorem Fs {op:Op}{q:Int}{leaf there:Bool}(hl:leaf=true→kd w=2∧n6 G w):Safe t n (mE op w q leaf there) G λ_ x G'=>x.2=true→di G' p x.1:=by
 unfold mE;split
 ·refine Dc (r:=.empty) rfl (λG1 j1 _ _=>Safe.ret λ_ _ _ _ _ h=>by simp at h) λG1 z j1 l1 _ ma=>?_
  exact Safe.ret λ_ _ g _ _ _=>⟨(n6.fm (by omega) ma.pos ma.ty).mono g.le,.inl (iE (by omega) ma.pos)⟩
 ·refine Dc (r:=.leaf) rfl (λG1 j1 _ _=>?_) λG1 a j1 l1 _ ma=>?_
  ·rw[if_pos (.inl (by omega))]
   exact Safe.ret λ_ _ _ _ _ h=>by simp at h
  have fy: ∀{G':Ga} {p':List Nat},G1.le G'→di G' p' (fm 2 a):=λg=>⟨(n6.fm (by omega) ma.pos ma.ty).mono g,.inr (.inl (iE (by omega) ma.pos))⟩
  split
  ·exact Safe.ret λ_ _ g _ _ _=>fy g.le
  ·next hc=>
   have Vj:leaf=true:=by
    cases leaf with
    |true=>rfl
    |false=>exact absurd (.inr (.inl rfl)) hc
   have fw: ∀{G':Ga} {p':List Nat},G1.le G'→di G' p' w:=λg=>⟨((hl Vj).2.mono l1.le).mono g,.inr (.inl (hl Vj).1)⟩
   have rp: ∀{G':Ga} {p':List Nat} (i:Nat),G1.le G'→i<2→di G' (p'++[i]) ((if op.key<q then[fm 2 a,w] else[w,fm 2 a]).getD i 0):=by
    intro G' p' i g hi;have:i=0∨i=1:=by omega
    split<;>rcases this with rfl|rfl
    ·exact fy g
    ·exact fw g
    ·exact fw g
    ·exact fy g
   have hlen:(if op.key<q then[fm 2 a,w] else[w,fm 2 a]).length=2:=by split<;>rfl
   refine Dc (r:=.inner 2 p) ⟨by omega,2,_,_,rfl,hlen,rfl,λi hi=>.inr (rp i (Ga.le.refl _) hi)⟩ (λG2 j2 _ _=>Safe.ret λ_ _ _ _ _ h=>by simp at h) λG2 b j2 l2 _ mb=>?_
   refine Safe.ret λG3 m3 l3 _ _ _=>?_
   refine di.mono l3.le ?_;have mb':Made G2 b (.inner (if op.key<q then[fm 2 a,w] else[w,fm 2 a]).length p) (cT 2 [max q op.key] (if op.key<q then[fm 2 a,w] else[w,fm 2 a])):=by rw[hlen];exact mb
   exact mb'.fit (by rw[hlen];rfl) λi hi=>(rp (G':=G2) (p':=p) i l2.le (by omega)).U3
theorem qO {f:Nat}{op:Op}{q:Int}{leaf:Bool}{path:List En}{res:Rs}(hn:n≤f)(so:aQ G s o p)(hw:di G p w)(hl:leaf=true→kd w=2)(hp: ∀e∈path,Au G e):Safe t n (zf f op o s w q leaf path res) G λ_ _ _=>True:=by
 unfold zf;refine Safe.vo ?_;split
 ·exact Safe.ret λ_ _ _ _ _=>trivial
 refine Safe.bind ((Fs (p:=p) λh=>⟨hl h,hw.1⟩).wk λj x G1 hj g1 h=>?_)
 cases hb:x.2 with
 |false=>exact Safe.ret λ_ _ _ _ _=>trivial
 |true=>
  rw[if_neg (by decide)]
  refine Safe.rcB (Safe.bind ((qN (so.mono g1) rfl (hw.mono g1) (h hb)).wk λj2 r G2 fP g2 _=>?_))
  refine Safe.ldB ?_;split
  ·exact Safe.ret λ_ _ _ _ _=>trivial
  split
  ·exact Safe.bind ((uQ path none (by omega) (λe he=>((hp e he).mono g1).mono g2) λe he=>by cases he).wk λj3 _ G3 _ _ _=>Safe.ret λ_ _ _ _ _=>trivial)
  ·exact Safe.ret λ_ _ _ _ _=>trivial
theorem Nh {f:Nat}{op:Op}{path:List En}(hn:n≤f)(so:aQ G s o p)(hw:di G p w)(hp: ∀e∈path,Au G e):Safe t n (lN f op o s w path) G λ_ _ _=>True:=by
 unfold lN;split
 ·next hk=>
  refine kQ λG1 m1 j1 l1 i1 _=>?_
  have F6:=λe he=>(hp e he).mono l1.le
  split
  ·refine kQ λG2 m2 j2 l2 i2 _=>?_
   exact qO (by omega) ((so.mono l1.le).mono l2.le) ((hw.mono l1.le).mono l2.le) (λ_=>hk) λe he=>(F6 e he).mono l2.le
  ·exact qO (by omega) (so.mono l1.le) (hw.mono l1.le) (λ_=>hk) F6
 ·exact qO hn so hw (λh=>by cases h) hp
theorem qo {g:Nat}{op:Op}: ∀(f:Nat) {G:Ga} {n d:Nat} {c:Int} {p:List Nat} {path:List En},n≤g→G.ty c=some (.inner d p)→full G c d→(∀e∈path,Au G e)→Safe t n (dY g op f c path) G λ_ _ _=>True
 |0,_,_,_,_,_,_,_,_,_,_=>Safe.ret λ_ _ _ _ _=>trivial
 |f+1,G,n,d,c,p,path,hn,t0,hf,hp=>by
  unfold dY;refine Safe.vo ?_;rw[if_neg (by decide)]
  refine Safe.bind ((Fl t0).wk λj s G1 hj g1 h=>?_)
  obtain⟨q,so⟩:=h;have NB:G1.nz s:=by
   obtain⟨d',q',i,t',hi,e,_⟩:=so;rw[g1.ty _ _ t0] at t';cases t';rw[e];exact g1.nz _ (hf i hi)
  refine Safe.bind ((zn (by omega) so).wk λj2 w G2 fP g2 h=>?_)
  obtain⟨hjn,h⟩:=h;rcases h with⟨_,h⟩|⟨fw,_⟩
  ·exact absurd NB h
  have U9:=so.mono g2;have FI: ∀e∈path,Au G2 e:=λe he=>((hp e he).mono g1).mono g2
  split
  ·next hk=>
   rcases fw.2 with k|k|⟨k,_⟩|⟨_,c',s',o',d',tr,_⟩
   ·omega
   ·omega
   ·omega
   ·exact Safe.bind ((uP (by omega) tr).wk λj3 b G3 _ _ _=>by
     split<;>exact Safe.ret λ_ _ _ _ _=>trivial)
  split
  ·next hk=>
   rcases fw.2 with k|k|⟨_,d',t',f'⟩|⟨k,_⟩
   ·omega
   ·omega
   ·refine qo f (by omega) t' f' λe he=>?_
    rcases List.mem_append.1 he with h|h
    ·exact FI e h
    ·rw[List.mem_singleton] at h;subst h;exact⟨fw.1,q,d',U9,hk,t',f'⟩
   ·omega
  ·exact Nh (by omega) U9 fw FI
theorem sM {g:Nat}{op:Op}: ∀(f:Nat) {G:Ga} {n:Nat},n≤g→G.ty 1=some (.inner 1 [])→full G 1 1→Safe t n (gu g op f) G λ_ _ _=>True
 |0,_,_,_,_,_=>Safe.ret λ_ _ _ _ _=>trivial
 |f+1,G,n,hn,t0,hf=>by
  unfold gu;refine Safe.vo ?_;rw[if_neg (by decide)]
  refine Safe.bind ((qo g hn t0 hf λe he=>by cases he).wk λj r G1 hj g1 _=>?_)
  split
  ·exact Safe.ret λ_ _ _ _ _=>trivial
  ·exact sM f (by omega) (g1.ty _ _ t0) (full.mono g1 hf)
variable {G:Ga} {m:Mm} {c s o w:Int} {p:List Nat}
def lB (m:Mm)(s:Int):Int:=if kd (m.at s)≠5 then m.at s else if m.at (aw (m.at s)+4)=1 then m.at (aw (m.at s)+3) else m.at (aw (m.at s)+2)
mutual
inductive eX (m:Mm):Int→List (Int×Int)→Prop where
 |none {w:Int} (h3:kd w≠3) (h4:kd w≠4):eX m w []
 |reb {w:Int} {l:List (Int×Int)} (h4:kd w=4) (h3:kd (m.at (aw w))=3) (h:eX m (m.at (aw w)) l):eX m w l
 |inner {w:Int} {l:List (Int×Int)} (h3:kd w=3) (h:Hs m (aw w) (m.at (aw w)) 0 l):eX m w l
inductive Hs (m:Mm):Int→Int→Int→List (Int×Int)→Prop where
 |done {a d i:Int} (h: ¬i<d):Hs m a d i []
 |next {a d i:Int} {l l':List (Int×Int)} (h:i<d) (k:eX m (lB m (dr a d i)) l) (r:Hs m a d (i+1) l'):Hs m a d i ((a,dr a d i)::(l++l'))
end
theorem bs.Vk (h:bs G m)(so:aQ G s o p)(hz:G.nz s):di G p (lB m s):=by
 unfold lB;rcases h.slot so with⟨_,a⟩|⟨_,a|⟨a,_,old,new,b,t⟩⟩
 ·exact absurd hz a
 ·rw[if_pos a.Q9];exact a
 ·rw[if_neg (by simp[a])]
  obtain⟨o',p',JG,fo,fn,_,_,e2,e3,_⟩:=h.iD _ _ t;have:=(aQ.uniq h so JG).2
  subst this;split
  ·rw[e3];exact fn
  ·rw[e2];exact fo
theorem bs.deep (h:bs G m): ∃M:Nat,∀a d q,G.ty a=some (.inner d q)→q.length≤M:=by
 have key: ∀N:Nat,∃M:Nat,∀(a:Int) d q,a≤N→G.ty a=some (.inner d q)→q.length≤M:=by
  intro N;induction N with
  |zero=>exact⟨0,λa d q ha t=>by have:=h.room _ _ t;omega⟩
  |succ N ih=>
   obtain⟨M,hM⟩:=ih;cases e:G.ty ((N+1:Nat):Int) with
   |none=>exact⟨M,λa d q ha t=>by
     by_cases ea:a=((N+1:Nat):Int)
     ·rw[ea,e] at t;cases t
     ·exact hM a d q (by omega) t⟩
   |some r=>
    cases r with
    |inner d0 q0=>exact⟨max M q0.length,λa d q ha t=>by
      by_cases ea:a=((N+1:Nat):Int)
      ·rw[ea,e] at t;cases t;omega
      ·have:=hM a d q (by omega) t;omega⟩
    |leaf=>exact⟨M,λa d q ha t=>by
      by_cases ea:a=((N+1:Nat):Int)
      ·rw[ea,e] at t;cases t
      ·exact hM a d q (by omega) t⟩
    |empty=>exact⟨M,λa d q ha t=>by
      by_cases ea:a=((N+1:Nat):Int)
      ·rw[ea,e] at t;cases t
      ·exact hM a d q (by omega) t⟩
    |bW _ _=>exact⟨M,λa d q ha t=>by
      by_cases ea:a=((N+1:Nat):Int)
      ·rw[ea,e] at t;cases t
      ·exact hM a d q (by omega) t⟩
    |eD _ _ _ _=>exact⟨M,λa d q ha t=>by
      by_cases ea:a=((N+1:Nat):Int)
      ·rw[ea,e] at t;cases t
      ·exact hM a d q (by omega) t⟩
 obtain⟨M,hM⟩:=key m.cs.length;refine⟨M,λa d q t=>hM a d q ?_ t⟩
 have h1:=h.room _ _ t;have h2:1≤(Rec.inner d q).size:=by simp[Rec.size]
 omega
structure YO (G:Ga) (P:List Nat→Prop) (l:List (Int×Int)):Prop where
 und:iO G P (l.map Prod.snd)
 own: ∀e∈l,∃q,aQ G e.2 e.1 q∧G.nz e.2
theorem Ht (h:bs G m){M:Nat}(hM: ∀a d q,G.ty a=some (.inner d q)→q.length≤M): ∀(k:Nat) (p:List Nat) (w:Int),M+1≤p.length+k→di G p w→∃l,eX m w l∧YO G (λq=>∃j,p++[j] <+:q) l:=by
 intro k;induction k with
 |zero=>
  intro p w hk fw;have no: ∀a d,¬G.ty a=some (.inner d p):=λa d t=>by have:=hM a d p t;omega
  rcases fw.2 with a|a|⟨_,d,t,_⟩|⟨_,c,s,o,d,_,_,t,_⟩
  ·exact⟨[],.none (by omega) (by omega),⟨List.nodup_nil,λs hs=>by cases hs⟩,λe he=>by cases he⟩
  ·exact⟨[],.none (by omega) (by omega),⟨List.nodup_nil,λs hs=>by cases hs⟩,λe he=>by cases he⟩
  ·exact absurd t (no _ _)
  ·exact absurd t (no _ _)
 |succ k ih=>
  have Rh: ∀(p:List Nat) (a:Int) (d:Nat),M+1≤p.length+(k+1)→G.ty a=some (.inner d p)→full G a d→∃l,Hs m a (m.at a) 0 l∧YO G (λq=>∃j,p++[j] <+:q) l:=by
   intro p a d hk t hf;obtain⟨e,d1,d2,c1⟩:=h.YC t;have loop: ∀(r i:Nat),i+r=d→∃l,Hs m a d i l∧YO G (λq=>∃j,i≤j∧p++[j] <+:q) l:=by
    intro r;induction r with
    |zero=>
     intro i hi;exact⟨[],.done (by omega),⟨List.nodup_nil,λs hs=>by cases hs⟩,λe he=>by cases he⟩
    |succ r ihr=>
     intro i hi;obtain⟨l',b',u',o'⟩:=ihr (i+1) (by omega)
     have ec:dr a d i=bY a d i:=by rw[km c1 d2 ⟨by omega,by omega⟩,Int.toNat_natCast]
     have so:aQ G (bY a d i) a (p++[i]):=aQ.mk' t (by omega)
     have fl:=h.Vk so (hf i (by omega))
     obtain⟨l,b,u,o⟩:=ih (p++[i]) _ (by simp;omega) fl
     have u0:iO G (λq=>q=p++[i]) [bY a d i]:=⟨by simp,λs hs=>by
      rw[List.mem_singleton] at hs;subst hs;exact⟨a,_,so,rfl⟩⟩
     have u1:iO G (λq=>p++[i] <+:q) ([bY a d i]++l.map Prod.snd):=iO.app h u0 u (by
      rintro q rfl ⟨j,hj⟩;have:=hj.length_le;simp at this) (by rintro q rfl;exact List.prefix_refl _) (by
      rintro q ⟨j,hj⟩;exact(List.prefix_append _ _).trans hj)
     have u2:iO G (λq=>∃j,i≤j∧p++[j] <+:q) (([bY a d i]++l.map Prod.snd)++l'.map Prod.snd):=iO.app h u1 u' (by
      rintro q hq ⟨j,hj,fP⟩;have:=jv hq fP;omega) (by intro q hq;exact⟨i,Nat.le_refl _,hq⟩) (by
      rintro q ⟨j,hj,fP⟩;exact⟨j,by omega,fP⟩)
     refine⟨(a,dr a d i)::(l++l'),.next (by omega) (by rw[ec];exact b) b',?_,?_⟩
     ·rw[ec];simpa using u2
     ·intro e he;rcases List.mem_cons.1 he with rfl|he
      ·rw[ec];exact⟨_,so,hf i (by omega)⟩
      ·rcases List.mem_append.1 he with he|he
       ·exact o e he
       ·exact o' e he
   obtain⟨l,b,u,o⟩:=loop d 0 (by omega)
   rw[e];exact⟨l,b,⟨u.1,λs hs=>by
    obtain⟨o1,q,so,j,_,hj⟩:=u.2 s hs;exact⟨o1,q,so,j,hj⟩⟩,o⟩
  intro p w hk fw;rcases fw.2 with a|a|⟨a,d,t,f⟩|⟨a,c,s,o,d,tr,so,t,f⟩
  ·exact⟨[],.none (by omega) (by omega),⟨List.nodup_nil,λs hs=>by cases hs⟩,λe he=>by cases he⟩
  ·exact⟨[],.none (by omega) (by omega),⟨List.nodup_nil,λs hs=>by cases hs⟩,λe he=>by cases he⟩
  ·obtain⟨l,b,bp⟩:=Rh p _ d hk t f;exact⟨l,.inner a b,bp⟩
  ·obtain⟨l,b,bp⟩:=Rh p c d hk t f;obtain⟨_,_,_,_,_,_,k3,kc,_⟩:=h.iD _ _ tr;exact⟨l,.reb a k3 (.inner k3 (by rw[kc];exact b)),bp⟩
theorem Hu (h:bs G m)(t0:G.ty 1=some (.inner 1 []))(hf:full G 1 1): ∃l,eX m (lB m 6) l∧((1,6)::l).length≤m.cs.length∧∀e∈((1,6)::l:List (Int×Int)),∃q,aQ G e.2 e.1 q∧G.nz e.2:=by
 obtain⟨M,hM⟩:=h.deep;have so:aQ G 6 1 [0]:=⟨1,[],0,t0,by omega,rfl,rfl⟩
 have hz:G.nz 6:=hf 0 (by omega)
 obtain⟨l,b,u,o⟩:=Ht h hM (M+1) [0] _ (by simp) (h.Vk so hz)
 have u0:iO G (λq=>q=[0]) [6]:=⟨by simp,λs hs=>by
  rw[List.mem_singleton] at hs;subst hs;exact⟨1,_,so,rfl⟩⟩
 have u1:iO G (λ_=>True) ([6]++l.map Prod.snd):=iO.app h u0 u (by
  rintro q rfl ⟨j,hj⟩;have:=hj.length_le;simp at this) (λ_ _=>trivial) λ_ _=>trivial
 refine⟨l,b,?_,?_⟩
 ·have:=u1.len h
  simpa using this
 ·intro e he;rcases List.mem_cons.1 he with rfl|he
  ·exact⟨_,so,hz⟩
  ·exact o e he
end Go.Proofs.YtgfgglponbmgmaaGreatA.Y
end
