/- Texts of the proof of peekShort_holds, put together by a small program of ours (names shortened, spaces taken out). No condition beyond the given statement. -/
import Derived.Test.YtgfgglponbmgmaaGreatPSH14
import Derived.Test.YtgfgglponbmgmaaGreatPSH15
import Derived.Test.YtgfgglponbmgmaaGreatPSH28
import Derived.Test.YtgfgglponbmgmaaGreatPSH24
set_option linter.unusedVariables false
set_option linter.unusedSimpArgs false
set_option linter.unnecessarySimpa false
noncomputable section
section
namespace Go.Proofs.YtgfgglponbmgmaaGreat.Fun
open Go Go.RowKit Go.Proofs.YtgfgglponbmgmaaGreatA.Am
set_option maxRecDepth 10000
section
open Go.Proofs.YtgfgglponbmgmaaGreatA
variable {G:ae} {H H':aa} {o o':aj} {p c n i:Nat} {K K':aa→aj→Prop} {t q:Int} {x:Value} {path:List Y.En} {st LV s1:Y.St} {α β:Type} {cs:List Value} {T:TypeId}
structure KB (B:aa) (b:aj) (p i0 i1:Nat) (t:Int) (op:jY) (c1:List Value) (x:Value) (path:List Y.En) (H:aa) (o:aj):Prop where
 fr:Fr B b H o [(p:Int)]
 k0:Cl i0 (n5 op) 39 H o
 k1:Cl i1 c1 47 H o
 en:EH H o t x path
section
variable {B:aa} {b:aj} {i0 i1:Nat} {op:jY} {c1:List Value}
theorem KB.eU (hd:Xl B b p i0 i1 t):bJ [(p:Int)] (KB B b p i0 i1 t op c1 x path):=λH o H' o' h f=>⟨h.fr.tr f,h.k0.fr f (by simp),h.k1.fr f (by simp),h.en.fr f (by have:=hd.lt;simp;omega)⟩
theorem KB.oa (h:JX (KB B b p i0 i1 t op c1 x path) p st H):aq (.pointer (some ⟨i0,1,none⟩)) H=some (cv op.key)∧cZ 3 (pv i0) H=some (jj op):=by
 obtain⟨_,o,_,hg⟩:=h;exact⟨ao i0 1 _ hg.k0.1,PO hg.k0.1⟩
theorem KB.fin (hd:Xl B b p i0 i1 t)(h:JX (KB B b p i0 i1 t op c1 x path) p st H)(hl:c1.length=6)(r:eI): ∃H2,bD 6 (pv i1) (gj r aA) H=some (undef,H2)∧cZ 6 (pv i1) H2=some (gj r aA)∧JX (KB B b p i0 i1 t op (rc r) x path) p st H2:=by
 obtain⟨_,o,hr,hg⟩:=id h;obtain⟨e0,e1,e2,e3⟩:=id hd;refine⟨_,tD i1 r (s:=aA) rfl H hg.k1.1 hl,pQ _ _ _ (aG hg.k1.1),h.tH (λo hg=>hg.k1) (KB.eU hd) λo hg=>⟨hg.fr.put λhh=>by omega,hg.k0.put (by omega),hg.k1.self,hg.en.fr ((Fr.refl H o [-9]).put λ_=>by simp[hg.k1.2]) (by simp;omega)⟩⟩
variable {k:Nat→Value→aa→Option α} {Q:α→Prop} {a1 a2 a3:Int} {ty:TypeId}
theorem Ev.aal (hd:Xl B b p i0 i1 t)(h:JX (KB B b p i0 i1 t op c1 x path) p st H)(hb:path.length+1≤4294967296)(hk: ∀x' H',JX (KB B b p i0 i1 t op c1 x' (path++[⟨a1,a2,a3⟩])) p st H'→Ev (λn=>k n x' H') Q):
  Ev (λn=>af (de T 3 24 x (.slice (some ⟨H.length,0,none⟩) 1 1) (H.new ⟨[cv a1,cv a2,cv a3],ty,3,false⟩)) (k n)) Q:=by
 obtain⟨_,o,hr,hg⟩:=h;obtain⟨x',H2,o2,e,s2,f2⟩:=EH.app T ty hg.en ⟨a1,a2,a3⟩ hb;rw[e];have ha:=hd.ap;have gB:=hd.lt;refine hk x' H2 ⟨KB.eU hd,o2,hr.fr f2 ?_ ?_ ?_,iD (hg.fr.trans f2 (rs:=[t,(p:Int)]) (by simp) (by simp)) hd.ft,hg.k0.fr f2 ?_,hg.k1.fr f2 ?_,s2⟩
 ·simp;omega
 ·simp;omega
 ·simp;omega
 ·simp;omega
 ·simp;omega
end
theorem CL {g f:Nat}{op:Y.Op}{n:Int}{path:List Y.En}{s:Y.St}(h:s.off=true):Y.ah (Y.dP g op f n path) s=((Y.Rs.nil,true),s):=by
 cases f with
 |zero=>rfl
 |succ f=>unfold Y.dP;simp only[Y.ak,bk,bH,bL,cR,cS,ne_eq,not_true_eq_false,not_false_eq_true,if_true,if_false,Bool.not_true,Bool.not_false,true_and,and_true,false_and,and_false,true_or,or_true,false_or,or_false,Bool.false_eq_true,decide_true,decide_false,h]
theorem uf {g f:Nat}{op:Y.Op}{n:Int}{path:List Y.En}{s:Y.St}(h:s.off=false):Y.ah (Y.dP g op (f+1) n path) s=Y.ah (Y.nt g n op.key >>= λs=>Y.kr g s >>= λw=>if Y.kd w=4 then Y.gU g (Y.aw w) >>= λok=>(if ok=false then pure (Y.Rs.qg,true) else pure (Y.Rs.nil,false)) else if Y.kd w=3 then Y.dP g op f (Y.aw w) (path++[⟨n,s,w⟩]) else Y.lD g op n s w path) s:=by
 conv=>lhs;unfold Y.dP
 simp only[Y.ak,bk,bH,bL,cR,cS,ne_eq,not_true_eq_false,not_false_eq_true,if_true,if_false,Bool.not_true,Bool.not_false,true_and,and_true,false_and,and_false,true_or,or_true,false_or,or_false,Bool.false_eq_true,decide_true,decide_false,h]
theorem Ln (h:JX K p st H){ff:Nat}(Xi:st.left≤ff)(op:jY):aE (run G) 156 [pv p,jj op] H (jx K p st (Y.dP (ff+1) (n9 op) (ff+1) 1 [])):=by
 refine Ev.up (t:=λk=>Wh (run G k) k (pv p) (jj op) H) ?_ λk=>Q7 ..
 have Yv:=h.left;obtain⟨hK,b,hr,hk⟩:=id h;obtain⟨i0,e0⟩: ∃i,i=H.length:=⟨_,rfl⟩;obtain⟨i1,e1⟩: ∃i,i=H.length+1:=⟨_,rfl⟩;obtain⟨t,PN,Cw⟩:=gC b H.length;have hd:Xl H b p i0 i1 t:=⟨e0,e1,PN,λi hi=>by have:=Cw i hi;omega⟩
 obtain⟨H1,fV⟩: ∃z,z=H.new ⟨n5 op,39,1,false⟩:=⟨_,rfl⟩;have l1:H1.length=H.length+1:=by rw[fV,cA]
 obtain⟨H2,im⟩: ∃z,z=H1.new ⟨rc bQ,47,1,false⟩:=⟨_,rfl⟩;have fv:JX (λH' o=>Fr H b H' o [(p:Int)]∧Cl i0 (n5 op) 39 H' o) p st H1:=by
  rw[fV];have OH:JX (λH' o=>Fr H b H' o [(p:Int)]) p st H:=⟨bJ.base (by simp),b,hr,Fr.refl _ _ _⟩
  refine OH.nB _ _ 1 ((bJ.base (by simp)).and λH o H' o' a f=>a.fr f (by simp)) λo hk f=>⟨hk.new _ _,?_⟩
  rw[e0];exact Cl.made
 have fH:JX (KB H b p i0 i1 t op (rc bQ) aA []) p st H2:=by
  rw[im];refine fv.nB _ _ 1 (KB.eU hd) λo hk f=>⟨hk.1.new _ _,hk.2.new,?_,.inl ⟨rfl,rfl⟩⟩
  rw[e1, ←l1];exact Cl.made
 have bx:=CH op H;rw[←e0, ←fV] at bx;have n1:aS H1 47 1 [cv 0,.bool false,cv 0,cv 0,cv 0,aA]=(pv i1,H2):=by rw[im,e1, ←l1];rfl
 have hU: ∀{c1:List Value} {x:Value} {path:List Y.En} {s':Y.St} {H':aa},JX (KB H b p i0 i1 t op c1 x path) p s' H'→JX K p s' H':=λhj=>hj.mono hK λo' hg=>hK _ _ _ _ hk hg.fr
 simp -implicitDefEqProofs only[Wh,bx,n1,sS,Nat.reduceAdd];refine Ev.loop (k:=st.left) (λk vs Hx=>∃(x:Value) (path:List Y.En) (nn:Int) (sx:Y.St) (fx:Nat) (x5 aM x8 x9 bO dC cw dE:Value),JX (KB H b p i0 i1 t op (rc bQ) x path) p sx Hx∧k=sx.left∧sx.left≤ff∧(sx.left+1≤fx∨sx.off=true)∧(-9223372036854775808≤nn∧nn≤65536)∧(∀e∈path, -9223372036854775808≤e.node∧e.node≤65536)∧path.length+sx.left≤1048577∧Y.ah (Y.dP (ff+1) (n9 op) (ff+1) 1 []) st=Y.ah (Y.dP (ff+1) (n9 op) fx nn path) sx∧vs=[pv p,jj op,pv i1,x5,aM,cv nn,pv i0,x8,x9,bO,dC,cw,dE,x])
  (λr=>∃(c1:List Value) (x:Value) (path:List Y.En) (sx:Y.St) (x5 aM x6 x8 x9 bO dC cw dE:Value),JX (KB H b p i0 i1 t op c1 x path) p sx r.2.2∧c1.length=6∧r.2.1=[pv p,jj op,pv i1,x5,aM,x6,pv i0,x8,x9,bO,dC,cw,dE,x]∧((r.1= .exit 0∧Y.ah (Y.dP (ff+1) (n9 op) (ff+1) 1 []) st=((Y.Rs.nil,true),sx))∨(r.1= .ret∧∃rr bb,x5= .bool bb∧c1=rc (yU rr)∧Y.ah (Y.dP (ff+1) (n9 op) (ff+1) 1 []) st=((rr,bb),sx))))
  ⟨aA,[],1,st,ff+1,_,_,_,_,_,_,_,_,fH,rfl,Xi,.inl (by omega),by omega,(λe he=>by cases he),by simpa using Yv,rfl,rfl⟩ ?_ ?_
 ·rintro k vs Hx ⟨x,path,nn,sx,fx,x5,aM,x8,x9,bO,dC,cw,dE,hj,rfl,hl,pd,hnn,hp,Yh,E,rfl⟩;obtain⟨a0,a1⟩:=KB.oa hj;simp -implicitDefEqProofs only[Kn,xT,sS,Nat.reduceAdd];refine Ev.nW hj (λhq=>?_) (λhq=>?_)<;>try simp -implicitDefEqProofs only[a0,sS,Nat.reduceAdd]
  ·rw[CL hq] at E;exact Ev.ret (.inr ⟨by simp,_,_,path,sx,_,_,_,_,_,_,_,_,_,hj,rfl,rfl,.inl ⟨rfl,E⟩⟩)
  have l4:=iE hq;have Ow:sx.left+1≤fx:=pd.resolve_right (by rw[hq];simp)
  obtain⟨fy,rfl⟩: ∃fy,fx=fy+1:=⟨fx-1,by omega⟩
  rw[uf hq] at E;refine Ev.eS (RY hj (f:=ff+1) (by omega) _ _) λzs s2 H2 e2 hj=>?_
  have m2:=dk e2;rw[Y.aJ e2] at E;refine Ev.eS (FV hj (f:=ff+1) (by omega) _) λzw s3 H3 e3 hj=>?_
  have m3:=AV e3;rw[Y.aJ e3] at E;refine Ev.is (gV _) ?_
  try simp -implicitDefEqProofs only[sS,Nat.reduceAdd]
  refine Ev.eql (λLo=>?_) (λLo=>?_)<;>try simp -implicitDefEqProofs only[sS,Nat.reduceAdd]
  ·rw[if_pos Lo] at E;refine Ev.is (nX _) ?_;refine Ev.K4 (Ir hj (f:=ff) (by omega) _) λz s4 H4 e4 hj=>?_
   rw[Y.aJ e4] at E;cases z<;>simp -implicitDefEqProofs only[sS,Nat.reduceAdd]
   ·refine Ev.call (It hj) ?_;rintro v H5 ⟨rfl,hj⟩;obtain⟨H6,g5,g6,kh⟩:=KB.fin hd hj rfl (lE 8);simp -implicitDefEqProofs only[g5,sS,Nat.reduceAdd];exact Ev.ret (.inr ⟨by simp,_,_,path,s4,_,_,_,_,_,_,_,_,_,kh,rfl,rfl,.inr ⟨rfl,Y.Rs.qg,true,rfl,rfl,E⟩⟩)
   ·obtain⟨H6,g5,g6,kh⟩:=KB.fin hd hj rfl bQ;simp -implicitDefEqProofs only[CI,g5,sS,Nat.reduceAdd];exact Ev.ret (.inr ⟨by simp,_,_,path,s4,_,_,_,_,_,_,_,_,_,kh,rfl,rfl,.inr ⟨rfl,Y.Rs.nil,false,rfl,rfl,E⟩⟩)
  rw[if_neg Lo] at E;refine Ev.eql (λhk3=>?_) (λhk3=>?_)<;>try simp -implicitDefEqProofs only[acz,acA,sS,Nat.reduceAdd]
  ·rw[if_pos hk3] at E;refine Ev.aal hd hj (by omega) λx' Hz hj=>?_
   refine Ev.is (nX _) ?_
   try simp -implicitDefEqProofs only[sS,Nat.reduceAdd]
   refine Ev.ret (.inl ⟨rfl,s3.left,by omega,x',_,Y.aw zw,s3,fy,_,_,_,_,_,_,_,_,hj,rfl,by omega,.inl (by omega),nM _,λe he=>?_,by simp;omega,E,rfl⟩)
   rcases List.mem_append.1 he with h|h
   ·exact hp e h
   ·rw[List.mem_singleton] at h;subst h;exact hnn
  ·rw[if_neg hk3] at E;obtain⟨a0,a1⟩:=KB.oa hj;simp -implicitDefEqProofs only[a1,sS,Nat.reduceAdd];refine Ev.call (aak hj (ff:=ff) (by omega) (λH o hg=>hg.en) (by have:=hd.lt;omega) hp (by omega) op hnn _ _) ?_
   rintro v H5 ⟨rfl,hj⟩;obtain⟨H6,g5,g6,kh⟩:=KB.fin hd hj rfl (yU (Y.ah (Y.lD (ff+1) (n9 op) nn zs zw path) s3).1.1);simp -implicitDefEqProofs only[g5,sS,Nat.reduceAdd];exact Ev.ret (.inr ⟨by simp,_,_,path,_,_,_,_,_,_,_,_,_,_,kh,rfl,rfl,.inr ⟨rfl,_,_,rfl,rfl,E⟩⟩)
 ·rintro e vs Hx ⟨c1,x,path,sx,x5,aM,x6,x8,x9,bO,dC,cw,dE,hj,hc,rfl,he⟩;rcases he with⟨he,E⟩|⟨he,rr,bb,rfl,rfl,E⟩
  ·simp only at he;subst he;obtain⟨H6,g5,g6,kh⟩:=KB.fin hd hj hc bQ;simp -implicitDefEqProofs only[Ko,xU,CI,g5,g6,sS,Nat.reduceAdd];exact Ev.ret (jx.of (z:=Y.Rs.nil) (hU kh) E)
  ·simp only at he;subst he;obtain⟨_,o1,_,hg⟩:=id hj;have TF:=pQ i1 (yU rr) (s:=aA) Hx hg.k1.1;show Ev (λ_=>af (pS (iY Tryz.prog 47 (pv i1) Hx) Hx) λv _=>some (Value.tuple #[v,.bool bb],Hx)) _
   simp -implicitDefEqProofs only[Xm,TF,sS,Nat.reduceAdd];exact Ev.ret (jx.of (hU hj) E)
abbrev Lq (K:aa→aj→Prop)(p:Nat)(st:Y.St)(t:Y.Tr Y.Rs):Value→aa→Prop:=λv H'=>v=gj (yU (Y.ah t st).1) aA∧JX K p (Y.ah t st).2 H'
theorem Lq.of {t:Y.Tr Y.Rs}{z:Y.Rs}(hj:JX K p s1 H')(e:Y.ah t st=(z,s1)):Lq K p st t (gj (yU z) aA) H':=by unfold Lq;rw[e];exact⟨rfl,hj⟩
theorem F5 {f:Nat}{a k z:Int}{s s':Y.St}(e:Y.ah (Y.nt f a k) s=(z,s')):s'.left≤s.left-1:=by
 unfold Y.nt Y.kW at e;rw[Y.bind_assoc,Y.ak] at e;have h1:(Y.ah (Y.rd a) s).2.left=s.left-1:=dj rfl;have h2:=dk e;omega
theorem CM {g f:Nat}{op:Y.Op}{n:Int}{path:List Y.En}{s s':Y.St}{z:Y.Rs×Bool}(h:s.off=false)(e:Y.ah (Y.dP g op (f+1) n path) s=(z,s')):s'.left≤s.left-1:=by
 rw[uf h,Y.ak] at e;have h1:(Y.ah (Y.nt g n op.key) s).2.left≤s.left-1:=F5 rfl;have h2:=dk e;omega
theorem Eh {g f:Nat}{op:Y.Op}{s:Y.St}(h:s.off=true):Y.ah (Y.gh g op f) s=(Y.Rs.nil,s):=by
 cases f with
 |zero=>rfl
 |succ f=>unfold Y.gh;simp only[Y.ak,bk,bH,bL,cR,cS,ne_eq,not_true_eq_false,not_false_eq_true,if_true,if_false,Bool.not_true,Bool.not_false,true_and,and_true,false_and,and_false,true_or,or_true,false_or,or_false,Bool.false_eq_true,decide_true,decide_false,h]
theorem F7 {g f:Nat}{op:Y.Op}{s:Y.St}(h:s.off=false):Y.ah (Y.gh g op (f+1)) s=Y.ah (Y.dP g op g 1 [] >>= λre=>if re.2=true then pure re.1 else Y.gh g op f) s:=by
 conv=>lhs;unfold Y.gh
 simp only[Y.ak,bk,bH,bL,cR,cS,ne_eq,not_true_eq_false,not_false_eq_true,if_true,if_false,Bool.not_true,Bool.not_false,true_and,and_true,false_and,and_false,true_or,or_true,false_or,or_false,Bool.false_eq_true,decide_true,decide_false,h]
theorem OJ (h:JX K p st H){ff:Nat}(Xi:st.left≤ff)(op:jY):aE (run G) 127 [pv p,jj op] H (Lq K p st (Y.gh (ff+1) (n9 op) (ff+1))):=by
 refine Ev.up (t:=λk=>VZ (run G k) k (pv p) (jj op) H) ?_ λk=>QV ..
 obtain⟨hK,b,hr,hk⟩:=id h;obtain⟨i0,e0⟩: ∃i,i=H.length:=⟨_,rfl⟩;obtain⟨i1,e1⟩: ∃i,i=H.length+1:=⟨_,rfl⟩;obtain⟨t,PN,Cw⟩:=gC b H.length;have hd:Xl H b p i0 i1 t:=⟨e0,e1,PN,λi hi=>by have:=Cw i hi;omega⟩
 obtain⟨H1,fV⟩: ∃z,z=H.new ⟨n5 op,39,1,false⟩:=⟨_,rfl⟩;have l1:H1.length=H.length+1:=by rw[fV,cA]
 obtain⟨H2,im⟩: ∃z,z=H1.new ⟨rc bQ,47,1,false⟩:=⟨_,rfl⟩;have fv:JX (λH' o=>Fr H b H' o [(p:Int)]∧Cl i0 (n5 op) 39 H' o) p st H1:=by
  rw[fV];have OH:JX (λH' o=>Fr H b H' o [(p:Int)]) p st H:=⟨bJ.base (by simp),b,hr,Fr.refl _ _ _⟩
  refine OH.nB _ _ 1 ((bJ.base (by simp)).and λH o H' o' a f=>a.fr f (by simp)) λo hk f=>⟨hk.new _ _,?_⟩
  rw[e0];exact Cl.made
 have fH:JX (KB H b p i0 i1 t op (rc bQ) aA []) p st H2:=by
  rw[im];refine fv.nB _ _ 1 (KB.eU hd) λo hk f=>⟨hk.1.new _ _,hk.2.new,?_,.inl ⟨rfl,rfl⟩⟩
  rw[e1, ←l1];exact Cl.made
 have bx:=CH op H;rw[←e0, ←fV] at bx;have n1:aS H1 47 1 [cv 0,.bool false,cv 0,cv 0,cv 0,aA]=(pv i1,H2):=by rw[im,e1, ←l1];rfl
 have hU: ∀{c1:List Value} {x:Value} {path:List Y.En} {s':Y.St} {H':aa},JX (KB H b p i0 i1 t op c1 x path) p s' H'→JX K p s' H':=λhj=>hj.mono hK λo' hg=>hK _ _ _ _ hk hg.fr
 simp -implicitDefEqProofs only[VZ,bx,n1,sS,Nat.reduceAdd];refine Ev.loop (k:=st.left) (λk vs Hx=>∃(sx:Y.St) (fx:Nat) (aO x6 aU x5:Value),JX (KB H b p i0 i1 t op (rc bQ) aA []) p sx Hx∧k=sx.left∧sx.left≤ff∧(sx.left+1≤fx∨sx.off=true)∧Y.ah (Y.gh (ff+1) (n9 op) (ff+1)) st=Y.ah (Y.gh (ff+1) (n9 op) fx) sx∧vs=[pv p,jj op,pv i1,aO,pv i0,x6,aU,x5])
  (λr=>∃(c1:List Value) (sx:Y.St) (aO x6 aU x5:Value),JX (KB H b p i0 i1 t op c1 aA []) p sx r.2.2∧c1.length=6∧r.2.1=[pv p,jj op,pv i1,aO,pv i0,x6,aU,x5]∧((r.1= .exit 0∧Y.ah (Y.gh (ff+1) (n9 op) (ff+1)) st=(Y.Rs.nil,sx))∨(r.1= .ret∧∃rr,c1=rc (yU rr)∧Y.ah (Y.gh (ff+1) (n9 op) (ff+1)) st=(rr,sx))))
  ⟨st,ff+1,_,_,_,_,fH,rfl,Xi,.inl (by omega),rfl,rfl⟩ ?_ ?_
 ·rintro k vs Hx ⟨sx,fx,aO,x6,aU,x5,hj,rfl,hl,pd,E,rfl⟩;obtain⟨a0,a1⟩:=KB.oa hj;simp -implicitDefEqProofs only[J8,xE,sS,Nat.reduceAdd];refine Ev.nW hj (λhq=>?_) (λhq=>?_)<;>try simp -implicitDefEqProofs only[a1,sS,Nat.reduceAdd]
  ·rw[Eh hq] at E;exact Ev.ret (.inr ⟨by simp,_,sx,_,_,_,_,hj,rfl,rfl,.inl ⟨rfl,E⟩⟩)
  have l4:=iE hq;have Ow:sx.left+1≤fx:=pd.resolve_right (by rw[hq];simp)
  obtain⟨fy,rfl⟩: ∃fy,fx=fy+1:=⟨fx-1,by omega⟩
  rw[F7 hq] at E;refine Ev.call (Ln hj (ff:=ff) hl op) ?_;rintro v H5 ⟨rfl,hj⟩;generalize hR:Y.ah (Y.dP (ff+1) (n9 op) (ff+1) 1 []) sx=R at hj
  obtain⟨⟨rr,bb⟩,s2⟩:=R;have m2:=CM hq hR;rw[Y.aJ hR] at E;simp only at hj;obtain⟨H6,C1⟩: ∃z,z=H5.new ⟨rc bQ,47,1,false⟩:=⟨_,rfl⟩;have n2:aS H5 47 1 [cv 0,.bool false,cv 0,cv 0,cv 0,aA]=(pv H5.length,H6):=by rw[C1];rfl
  have n8:JX (λH' o=>KB H b p i0 i1 t op (rc bQ) aA [] H' o∧Cl H5.length (rc bQ) 47 H' o∧i1<H5.length) p s2 H6:=by
   rw[C1];refine hj.nB _ _ 1 ((KB.eU hd).and λH o H' o' a f=>⟨a.1.fr f (by simp),a.2⟩) λo hk f=>⟨KB.eU hd _ _ _ _ hk (f.wk (by simp)),Cl.made,ar hk.k1.1⟩
  obtain⟨_,o6,hr6,hg6,hc6,hi6⟩:=id n8;have mj:=tD H5.length (yU rr) (s:=aA) rfl H6 hc6.1 rfl;obtain⟨H7,PQ⟩: ∃z,z=H6.put H5.length ⟨rc (yU rr),47,1,false⟩:=⟨_,rfl⟩;rw[←PQ] at mj;have CE:JX (λH' o=>KB H b p i0 i1 t op (rc bQ) aA [] H' o∧Cl H5.length (rc (yU rr)) 47 H' o∧i1<H5.length) p s2 H7:=by
   rw[PQ];refine n8.tH (λo hg=>hg.2.1) ((KB.eU hd).and λH o H' o' a f=>⟨a.1.fr f (by simp),a.2⟩) λo hg=>⟨⟨hg.1.fr.put λhh=>by omega,hg.1.k0.put (by omega),hg.1.k1.put (by omega),.inl ⟨rfl,rfl⟩⟩,hg.2.1.self,hg.2.2⟩
  have TN:JX (KB H b p i0 i1 t op (rc bQ) aA []) p s2 H7:=CE.mono (KB.eU hd) λo a=>a.1
  obtain⟨_,o7,hr7,hg7,hc7,hi7⟩:=id CE;have uu:=pQ H5.length (yU rr) (s:=aA) H7 hc7.1;obtain⟨H8,g5,g6,kh⟩:=KB.fin hd TN rfl (yU rr);simp -implicitDefEqProofs only[n2,mj,sS,Nat.reduceAdd];cases bb<;>simp -implicitDefEqProofs only[uu,g5,sS,Nat.reduceAdd]
  ·exact Ev.ret (.inl ⟨rfl,s2.left,by omega,s2,fy,_,_,_,_,TN,rfl,by omega,.inl (by omega),by rw[E];rfl,rfl⟩)
  ·exact Ev.ret (.inr ⟨by simp,_,s2,_,_,_,_,kh,rfl,rfl,.inr ⟨rfl,rr,rfl,by rw[E];rfl⟩⟩)
 ·rintro e vs Hx ⟨c1,sx,aO,x6,aU,x5,hj,hc,rfl,he⟩;rcases he with⟨he,E⟩|⟨he,rr,rfl,E⟩
  ·simp only at he;subst he;obtain⟨H6,g5,g6,kh⟩:=KB.fin hd hj hc bQ;simp -implicitDefEqProofs only[J9,xF,CI,g5,g6,sS,Nat.reduceAdd];exact Ev.ret (Lq.of (z:=Y.Rs.nil) (hU kh) E)
  ·simp only at he;subst he;obtain⟨_,o1,_,hg⟩:=id hj;have TF:=pQ i1 (yU rr) (s:=aA) Hx hg.k1.1;show Ev (λ_=>af (pS (iY Tryz.prog 47 (pv i1) Hx) Hx) λv _=>some (v,Hx)) _
   simp -implicitDefEqProofs only[Xm,TF,sS,Nat.reduceAdd];exact Ev.ret (Lq.of (hU hj) E)
end
end Go.Proofs.YtgfgglponbmgmaaGreat.Fun
end
section
namespace Go.Proofs.YtgfgglponbmgmaaGreatA.Y
variable {G:Ga} {c s o w:Int} {p:List Nat} {α β:Type} {t n:Nat}
theorem Safe.uW {f:Bool→Tr α}{Q:Nat→α→Ga→Prop}(h:Safe t n (f false) G Q):Safe t n (gT >>= f) G Q:=by
 cases n with
 |zero=>exact Safe.zero
 |succ n=>exact h
theorem Safe.rcB {r:Int}{u:Tr α}{Q:Nat→α→Ga→Prop}(h:Safe t n u G Q):Safe t n (Tr.rc r u) G Q:=by
 cases n with
 |zero=>exact Safe.zero
 |succ n=>exact h
theorem Safe.ldB {u:Tr α}{Q:Nat→α→Ga→Prop}(h:Safe t n u G Q):Safe t n (Tr.ld u) G Q:=by
 cases n with
 |zero=>exact Safe.zero
 |succ n=>exact h
theorem nC {k:Int}(h:2≤k∧k≤16384):2≤bo k:=by
 unfold bo;rw[if_neg (by omega)];split<;>omega
theorem Ls {f d k:Nat}(t0:G.ty c=some (.inner d p))(hc:sk G c k):Safe t n (Cv f c k) G λ_ x G'=>x.2=true→x.1≠0∧zQ G' c p x.1:=by
 refine Safe.real λG0 m0 l0 i0=>?_
 have hk:=(hc.mono l0.le).le i0;unfold Cv;split
 ·next h2=>
  have dg:=nC (k:=k) (by omega)
  refine CA (r:=.inner (max (bo k) 1).toNat p) ⟨by omega,k,_,_,rfl,by simp,by simp;omega,λi hi=>.inl ?_⟩ (λG1 j1 _ _=>Safe.ret λ_ _ _ _ _ h=>by simp at h) λG1 z j1 l1 _ ma=>?_
  ·simp[List.getD_eq_getElem?_getD,List.getElem?_replicate];split<;>rfl
  ·refine Safe.ret λG2 m2 l2 _ _ _=>?_
   have kz:=ik (k:=3) (by omega) ma.pos
   refine⟨λ(h:fI 3 z=0)=>by rw[h,sq] at kz;omega,FX _ _,k,((hc.mono l0.le).mono l1.le).mono l2.le,λ_=>⟨kz,?_⟩,λh=>by omega⟩
   rw[iO (by omega) ma.pos];exact l2.le.ty _ _ ma.ty
 ·next h2=>
  have R:Reads (if(k:Int)=1 then gJ f c 0 1 [] else pure []):=.ite (mg _ _ _ _ _) (.pure _)
  refine Safe.bind ((R.safe).wk λj l G1 _ g1 _=>?_)
  refine Safe.uW ?_;rw[if_neg (by decide)]
  refine(yR l p).wk λj x G2 _ g2 h hx=>⟨(h hx).Tw,(h hx).1.1,k,((hc.mono l0.le).mono g1).mono g2,λh=>by omega,λ_=>h hx⟩
theorem R5 {i:Int}(hc:1≤c∧c≤16384)(hi:0≤i∧i≤16384):lC c i=c+4+i:=by
 unfold lC D4;rw[if_neg (by simp;omega)]
theorem F8 {d i:Int}(hi:i<0):dh c d i=0:=by
 unfold dh D4;rw[if_pos (by simp;omega)]
theorem Lu {d:Nat}{l:PL}{i x:Int}(t0:G.ty c=some (.inner d p))(hi:i<d)(hx:0≤i→da G (p++[i.toNat]) x):Safe t n (KZ l c d i x) G λ_ b G'=>0≤i→G'.nz (bV c d i.toNat):=by
 refine Safe.real λG0 m0 l0 i0=>?_
 have t1:=l0.le.ty _ _ t0;obtain⟨_,d1,d2,c1⟩:=i0.Xa t1;have put: ∀{G1:Ga} {j:Nat},G0.le G1→Safe t j (cs (dh c d i) 0 x >>= λ_=>Tr.ret true) G1 λ_ b G'=>0≤i→G'.nz (bV c d i.toNat):=by
  intro G1 j g1;by_cases h0:0≤i
  ·rw[jX c1 d2 ⟨h0,hi⟩];have so:aQ G1 (bV c d i.toNat) c (p++[i.toNat]):=aQ.mk' (g1.ty _ _ t1) (by omega)
   exact Z1 so (((hx h0).mono l0.le).mono g1) λG2 z j2 l2 _ hz=>Safe.ret λG3 m3 l3 _ _ _=>l3.le.nz _ hz
  ·rw[F8 (by omega)]
   exact Z2 λG2 z j2 l2 _=>Safe.ret λG3 m3 l3 _ _ h=>absurd h h0
 unfold KZ;split
 ·exact put (Ga.le.refl _)
 ·split
  ·rw[R5 c1 (by omega)]
   exact ZW t1 (by omega) λG2 z j2 l2 _=>put l2.le
  ·exact put (Ga.le.refl _)
theorem yV {f d:Nat}{a k i:Int}(t0:G.ty c=some (.inner d p))(hi:i<d):Safe t n (oN f a k c d i) G λ_ b G'=>b=true→0≤i→G'.nz (bV c d i.toNat):=by
 unfold oN;refine Safe.bind (((mg _ _ _ _ _).safe).wk λj l G1 _ g1 _=>?_)
 refine Safe.uW ?_;rw[if_neg (by decide)]
 refine Safe.bind ((yR l (p++[i.toNat])).wk λj x G2 _ g2 h=>?_)
 cases hb:x.2 with
 |false=>exact Safe.ret λ_ _ _ _ _ h=>by simp at h
 |true=>
  rw[if_neg (by decide)]
  exact(Lu (g2.ty _ _ (g1.ty _ _ t0)) hi λ_=>h hb).wk λ_ _ _ _ _ h _=>h
theorem ug {g d:Nat}{a k dS r s:Int}(hd:bo k=d): ∀(f:Nat) {G:Ga} {n:Nat},G.ty c=some (.inner d p)→G.ty dS=some (.bT r s)→Safe t n (kg g dS a k c f) G λ_ _ _=>True
 |0,_,_,_,_=>Safe.ret λ_ _ _ _ _=>trivial
 |f+1,G,n,t0,tr=>by
  unfold kg;refine Safe.uW ?_;rw[if_neg (by decide)]
  refine Safe.real λG0 m0 l0 i0=>?_
  have bg:=i0.RR (l0.le.ty _ _ tr);rw[ji (by omega)]
  refine ZX (l0.le.ty _ _ tr) (.inr ⟨_,_,rfl,rfl⟩) λG1 z j1 l1 _=>?_
  have t0:=l0.le.ty _ _ t0;have tr:=l0.le.ty _ _ tr;split
  ·exact Safe.ret λ_ _ _ _ _=>trivial
  refine Safe.uW ?_;rw[if_neg (by decide),hd]
  refine Safe.bind ((yV (l1.le.ty _ _ t0) (by omega)).wk λj b G2 _ g2 _=>?_)
  split
  ·exact Safe.ret λ_ _ _ _ _=>trivial
  ·exact ug hd f (g2.ty _ _ (l1.le.ty _ _ t0)) (g2.ty _ _ (l1.le.ty _ _ tr))
theorem yW {g d:Nat}{a k:Int}(hd:bo k=d): ∀(f:Nat) {G:Ga} {n i:Nat},n≤f→i≤d→G.ty c=some (.inner d p)→(∀j,j<i→G.nz (bV c d j))→Safe t n (gK g a k c f i) G λ_ b G'=>b=true→full G' c d
 |0,_,n,_,hn,_,_,_=>by
  have:n=0:=by omega
  subst this;exact Safe.zero
 |f+1,G,n,i,hn,hi,t0,hz=>by
  unfold gK;rw[hd];split
  ·next h=>
   have:i=d:=by omega
   subst this;exact Safe.ret λG2 m2 l2 _ _ _ j hj=>l2.le.nz _ (hz j hj)
  ·next h=>
   refine Safe.uW ?_;rw[if_neg (by decide)]
   refine Safe.real λG0 m0 l0 i0=>?_
   have t1:=l0.le.ty _ _ t0;obtain⟨_,d1,d2,c1⟩:=i0.Xa t1;rw[jX c1 d2 (i:=(i:Int)) ⟨by omega,by omega⟩,Int.toNat_natCast]
   have so:aQ G0 (bV c d i) c (p++[i]):=aQ.mk' t1 (by omega)
   have e1:((i:Int)+1)=((i+1:Nat):Int):=by omega
   have next: ∀{G2:Ga} {j:Nat},G0.le G2→j≤f→G2.nz (bV c d i)→Safe t j (gK g a k c f ((i:Int)+1)) G2 λ_ b G'=>b=true→full G' c d:=by
    intro G2 j g2 hj hz2;rw[e1];refine yW hd f hj (by omega) (g2.ty _ _ t1) λq hq=>?_
    by_cases e:q=i
    ·subst e;exact hz2
    ·exact g2.nz _ (l0.le.nz _ (hz q (by omega)))
   refine kH λG1 m1 j1 l1 i1 e1=>?_
   split
   ·next dy=>
    refine next l1.le (by omega) ?_
    rcases i1.slot (so.mono l1.le) with⟨x,_⟩|⟨x,_⟩
    ·exact absurd x dy
    ·exact x
   ·refine Safe.uW ?_;rw[if_neg (by decide)]
    refine Safe.bind ((yV (l1.le.ty _ _ t1) (i:=(i:Int)) (by omega)).wk λj b G2 hj g2 h=>?_)
    cases b with
    |false=>exact Safe.ret λ_ _ _ _ _ h=>by simp at h
    |true=>
     rw[if_neg (by decide)]
     have:=h rfl (by omega)
     rw[Int.toNat_natCast] at this;exact next (l1.le.trans g2) (by omega) this
theorem Ei {f d:Nat}{a k dS r s:Int}(hn:n≤f)(hd:bo k=d)(t0:G.ty c=some (.inner d p))(tr:G.ty dS=some (.bT r s)):Safe t n (gg f dS a k c) G λ_ b G'=>b=true→full G' c d:=by
 unfold gg;refine Safe.bind ((ug hd f t0 tr).wk λj b G1 hj g1 _=>?_)
 cases b with
 |false=>exact Safe.ret λ_ _ _ _ _ h=>by simp at h
 |true=>
  rw[if_neg (by decide)]
  exact yW hd f (i:=0) (by omega) (by omega) (g1.ty _ _ t0) λj hj=>by omega
theorem bs.OK {m:Mm}(h:bs G m){dS:Int}(t0:G.ty dS=some (.bT c s)): ∃o p d,aQ G s o p∧G.ty c=some (.inner d p)∧full G c d∧kd (m.at dS)=3∧aw (m.at dS)=c∧m.at (dS+1)=o+2∧m.at (dS+2)=s∧((m.at (dS+3)=0∧¬G.nz (dS+3))∨(m.at (dS+3)≠0∧G.nz (dS+3)∧zQ G c p (m.at (dS+3)))):=h.ij _ _ t0
theorem da.reb {dS d:Int}{k:Nat}(hp:1≤dS∧dS≤65536)(t0:G.ty dS=some (.bT c s))(so:aQ G s o p)(tc:G.ty c=some (.inner k p))(hf:full G c k):da G p (fI 4 dS):=by
 refine⟨nZ.fI (by omega) hp t0,.inr (.inr (.inr ⟨ik (by omega) hp,c,s,o,k,?_,so,tc,hf⟩))⟩
 rw[iO (by omega) hp];exact t0
theorem uh {dS:Int}(t0:G.ty dS=some (.bT c s))(tc: ∃d,G.ty c=some (.inner d p))(hw:da G p w):Safe t n (tA dS w) G λ_ _ _=>True:=by
 unfold tA;refine Safe.real λG0 m0 l0 i0=>?_
 have bg:=i0.RR (l0.le.ty _ _ t0);have t0:=l0.le.ty _ _ t0;have hw:=hw.mono l0.le;obtain⟨d0,tc⟩:=tc;have tc: ∃d,G0.ty c=some (.inner d p):=⟨d0,l0.le.ty _ _ tc⟩;rw[ji (x:=dS+1) (by omega),ji (x:=dS+2) (by omega)]
 refine kH λG1 m1 j1 l1 i1 _=>?_
 have t1:=l1.le.ty _ _ t0;obtain⟨o,p',d,so,Yz,fc,_,_,e1,e2,_⟩:=i1.OK t1;obtain⟨d',tc⟩:=tc;have:p'=p:=by
  rw[l1.le.ty _ _ tc] at Yz;cases Yz;rfl
 subst this;rw[e1];refine kH λG2 m2 j2 l2 i2 _=>?_
 have t2:=l2.le.ty _ _ t1;obtain⟨_,_,_,_,_,_,_,_,_,e2,_⟩:=i2.OK t2;rw[e2];have TC:=so.mono l2.le;refine Safe.bind ((qF TC rfl (da.reb (d:=0) (i2.RR t2) t2 TC (l2.le.ty _ _ Yz) (full.mono l2.le fc)) ((hw.mono l1.le).mono l2.le)).wk λj r G3 _ _ _=>?_)
 exact Safe.ret λ_ _ _ _ _=>trivial
theorem yX {f d k:Nat}{dS:Int}(hn:n≤f)(t0:G.ty dS=some (.bT c s))(tc:G.ty c=some (.inner d p))(hk:sk G c k)(hw:zQ G c p w):Safe t n (AN f dS c k w) G λ_ _ _=>True:=by
 refine Safe.real λG0 m0 l0 i0=>?_
 obtain⟨h0,k',ck,h2,h1⟩:=hw.mono l0.le;have:k'=k:=sk.uniq (λ_ _ _=>i0.ZS) ck (hk.mono l0.le)
 subst this;have hk':=ck.le i0;unfold AN;split
 ·next Yg=>
  have dg:=nC (k:=(k':Int)) (by omega)
  obtain⟨kw,tw⟩:=h2 (by omega)
  have ed:bo (k':Int)=((max (bo (k':Int)) 1).toNat:Int):=by omega
  refine Safe.bind ((Ei hn ed tw (l0.le.ty _ _ t0)).wk λj b G1 hj g1 h=>?_)
  cases b with
  |false=>exact Safe.ret λ_ _ _ _ _=>trivial
  |true=>
   rw[if_neg (by decide)]
   exact uh (g1.ty _ _ (l0.le.ty _ _ t0)) ⟨d,g1.ty _ _ (l0.le.ty _ _ tc)⟩ ⟨⟨h0,_,g1.ty _ _ tw⟩,.inr (.inr (.inl ⟨kw,_,g1.ty _ _ tw,h rfl⟩))⟩
 ·exact uh (l0.le.ty _ _ t0) ⟨d,l0.le.ty _ _ tc⟩ (h1 (by omega))
theorem ui {f:Nat}{dS:Int}(hn:n≤f+1)(t0:G.ty dS=some (.bT c s)):Safe t n (gU f dS) G λ_ _ _=>True:=by
 unfold gU;refine kH λG1 m1 j1 l1 i1 e1=>?_
 have t1:=l1.le.ty _ _ t0;obtain⟨o,p,d,so,tc,fc,_,ea,_⟩:=i1.OK t1;have bg:=i1.RR t1;rw[ea,ji (x:=dS+3) (by omega)]
 refine Safe.bind ((FZ (by omega) tc fc).wk λj2 z G2 fH g2 h=>?_)
 obtain⟨k,rfl,ck⟩:=h;refine kH λG3 m3 j3 l3 i3 e3=>?_
 have t3:=l3.le.ty _ _ (g2.ty _ _ t1);have tc3:=l3.le.ty _ _ (g2.ty _ _ tc);have ck3:=ck.mono l3.le;refine Safe.uW ?_;rw[if_neg (by decide)]
 have top: ∀{G':Ga} {m:Mm},bs G' m→G1.le G'→m.at (dS+3)≠0→zQ G' c p (m.at (dS+3)):=by
  intro G' m i g h;obtain⟨o',p',d',Ip,Yz,_,_,_,_,_,k⟩:=i.OK (g.ty _ _ t1);rw[g.ty _ _ tc] at Yz;cases Yz;rcases k with⟨k,_⟩|⟨_,_,k⟩
  ·exact absurd k h
  ·exact k
 split
 ·refine Safe.bind ((Ls tc3 ck3).wk λj4 x G4 iW g4 h=>?_)
  cases hb:x.2 with
  |false=>exact Safe.ret λ_ _ _ _ _=>trivial
  |true=>
   rw[if_neg (by decide)]
   obtain⟨x0,xt⟩:=h hb;refine Z0 (g4.ty _ _ t3) (g4.ty _ _ tc3) x0 xt λG5 z j5 l5 e5 nz5=>?_
   refine kH λG6 m6 j6 l6 i6 e6=>?_
   have g6:G3.le G6:=g4.trans (l5.le.trans l6.le);have ne:m6.at (dS+3)≠0:=by
    obtain⟨_,_,_,_,_,_,_,_,_,_,k⟩:=i6.OK (g6.ty _ _ t3);rcases k with⟨_,k⟩|⟨k,_⟩
    ·exact absurd (l6.le.nz _ nz5) k
    ·exact k
   exact yX (by omega) (g6.ty _ _ t3) (g6.ty _ _ tc3) (ck3.mono g6) (top i6 (g2.trans (l3.le.trans g6)) ne)
 ·next dy=>exact yX (by omega) t3 tc3 ck3 (top i3 (g2.trans l3.le) dy)
def zS (G:Ga)(e:En):Prop:=nZ G e.word∧∃p d,aQ G e.slot e.node p∧kd e.word=3∧G.ty (aw e.word)=some (.inner d p)∧full G (aw e.word) d
theorem zS.mono {G':Ga}{e:En}(g:G.le G')(h:zS G e):zS G' e:=by
 obtain⟨h0,p,d,h1,h2,h3,h4⟩:=h;exact⟨h0.mono g,p,d,h1.mono g,h2,g.ty _ _ h3,full.mono g h4⟩
theorem Ej {f:Nat}{e:En}(hn:n≤f)(h:zS G e):Safe t n (oO f e) G λ_ _ _=>True:=by
 obtain⟨f0,p,d,so,kw,tw,fw⟩:=h;unfold oO;refine CA (r:=.bT (aw e.word) e.slot) ⟨e.node,p,d,e.word,so,tw,fw,kw,rfl,rfl⟩ (λG1 j1 _ _=>?_) λG1 a j1 l1 _ ma=>?_
 ·rw[if_pos (by omega)];exact Safe.ret λ_ _ _ _ _=>trivial
 have pa:=ma.pos;rw[if_neg (by omega)]
 have TB:=so.mono l1.le;have fr:=da.reb (d:=0) pa ma.ty TB (l1.le.ty _ _ tw) (full.mono l1.le fw);have fo:da G1 p e.word:=⟨f0.mono l1.le,.inr (.inr (.inl ⟨kw,d,l1.le.ty _ _ tw,full.mono l1.le fw⟩))⟩;refine Safe.bind ((qF TB rfl fo fr).wk λj r G2 hj g2 _=>?_)
 split
 ·exact ui (by omega) (g2.ty _ _ ma.ty)
 ·exact Safe.ret λ_ _ _ _ _=>trivial
theorem uj {f:Nat}: ∀(l:List En) (first:Option En) {G:Ga} {n:Nat},n≤f→(∀e∈l,zS G e)→(∀e,first=some e→zS G e)→Safe t n (di f first l) G λ_ _ _=>True
 | [],none,_,_,_,_,_=>Safe.ret λ_ _ _ _ _=>trivial
 | [],some e,G,n,hn,_,hf=>by
  unfold di;refine Safe.uW ?_;rw[if_neg (by decide)]
  exact Safe.bind ((Ej hn (hf e rfl)).wk λj b G1 _ _ _=>Safe.ret λ_ _ _ _ _=>trivial)
 |e::l,first,G,n,hn,hl,hf=>by
  unfold di;refine Safe.uW ?_;rw[if_neg (by decide)]
  obtain⟨f0,p,d,so,kw,tw,fw⟩:=hl e (by simp)
  refine ZX tw (.inl ⟨_,_,rfl,rfl⟩) λG1 z j1 l1 _=>?_
  refine kH λG2 m2 j2 l2 i2 _=>?_
  have g:=l1.le.trans l2.le;refine uj l _ (by omega) (λx hx=>(hl x (by simp[hx])).mono g) λx hx=>?_
  cases first with
  |some y=>simp only at hx;cases hx;exact(hf _ rfl).mono g
  |none=>
   simp only at hx;split at hx
   ·cases hx;exact(hl _ (by simp)).mono g
   ·cases hx
theorem Ek {op:Op}{q:Int}{leaf there:Bool}(hl:leaf=true→kd w=2∧nZ G w):Safe t n (mf op w q leaf there) G λ_ x G'=>x.2=true→da G' p x.1:=by
 unfold mf;split
 ·refine CA (r:=.empty) rfl (λG1 j1 _ _=>Safe.ret λ_ _ _ _ _ h=>by simp at h) λG1 z j1 l1 _ ma=>?_
  exact Safe.ret λ_ _ g _ _ _=>⟨(nZ.fI (by omega) ma.pos ma.ty).mono g.le,.inl (ik (by omega) ma.pos)⟩
 ·refine CA (r:=.leaf) rfl (λG1 j1 _ _=>?_) λG1 a j1 l1 _ ma=>?_
  ·rw[if_pos (.inl (by omega))]
   exact Safe.ret λ_ _ _ _ _ h=>by simp at h
  have fy: ∀{G':Ga} {p':List Nat},G1.le G'→da G' p' (fI 2 a):=λg=>⟨(nZ.fI (by omega) ma.pos ma.ty).mono g,.inr (.inl (ik (by omega) ma.pos))⟩
  split
  ·exact Safe.ret λ_ _ g _ _ _=>fy g.le
  ·next hc=>
   have TO:leaf=true:=by
    cases leaf with
    |true=>rfl
    |false=>exact absurd (.inr (.inl rfl)) hc
   have fw: ∀{G':Ga} {p':List Nat},G1.le G'→da G' p' w:=λg=>⟨((hl TO).2.mono l1.le).mono g,.inr (.inl (hl TO).1)⟩
   have qX: ∀{G':Ga} {p':List Nat} (i:Nat),G1.le G'→i<2→da G' (p'++[i]) ((if op.key<q then[fI 2 a,w] else[w,fI 2 a]).getD i 0):=by
    intro G' p' i g hi;have:i=0∨i=1:=by omega
    split<;>rcases this with rfl|rfl
    ·exact fy g
    ·exact fw g
    ·exact fw g
    ·exact fy g
   have hlen:(if op.key<q then[fI 2 a,w] else[w,fI 2 a]).length=2:=by split<;>rfl
   refine CA (r:=.inner 2 p) ⟨by omega,2,_,_,rfl,hlen,rfl,λi hi=>.inr (qX i (Ga.le.refl _) hi)⟩ (λG2 j2 _ _=>Safe.ret λ_ _ _ _ _ h=>by simp at h) λG2 b j2 l2 _ mb=>?_
   refine Safe.ret λG3 m3 l3 _ _ _=>?_
   refine da.mono l3.le ?_;have mb':Made G2 b (.inner (if op.key<q then[fI 2 a,w] else[w,fI 2 a]).length p) (cP 2 [max q op.key] (if op.key<q then[fI 2 a,w] else[w,fI 2 a])):=by rw[hlen];exact mb
   exact mb'.fit (by rw[hlen];rfl) λi hi=>(qX (G':=G2) (p':=p) i l2.le (by omega)).Tw
theorem qG {f:Nat}{op:Op}{q:Int}{leaf:Bool}{path:List En}{res:Rs}(hn:n≤f)(so:aQ G s o p)(hw:da G p w)(hl:leaf=true→kd w=2)(hp: ∀e∈path,zS G e):Safe t n (yJ f op o s w q leaf path res) G λ_ _ _=>True:=by
 unfold yJ;refine Safe.uW ?_;split
 ·exact Safe.ret λ_ _ _ _ _=>trivial
 refine Safe.bind ((Ek (p:=p) λh=>⟨hl h,hw.1⟩).wk λj x G1 hj g1 h=>?_)
 cases hb:x.2 with
 |false=>exact Safe.ret λ_ _ _ _ _=>trivial
 |true=>
  rw[if_neg (by decide)]
  refine Safe.rcB (Safe.bind ((qF (so.mono g1) rfl (hw.mono g1) (h hb)).wk λj2 r G2 fH g2 _=>?_))
  refine Safe.ldB ?_;split
  ·exact Safe.ret λ_ _ _ _ _=>trivial
  split
  ·exact Safe.bind ((uj path none (by omega) (λe he=>((hp e he).mono g1).mono g2) λe he=>by cases he).wk λj3 _ G3 _ _ _=>Safe.ret λ_ _ _ _ _=>trivial)
  ·exact Safe.ret λ_ _ _ _ _=>trivial
theorem Lv {f:Nat}{op:Op}{path:List En}(hn:n≤f)(so:aQ G s o p)(hw:da G p w)(hp: ∀e∈path,zS G e):Safe t n (lD f op o s w path) G λ_ _ _=>True:=by
 unfold lD;split
 ·next hk=>
  refine kH λG1 m1 j1 l1 i1 _=>?_
  have EY:=λe he=>(hp e he).mono l1.le
  split
  ·refine kH λG2 m2 j2 l2 i2 _=>?_
   exact qG (by omega) ((so.mono l1.le).mono l2.le) ((hw.mono l1.le).mono l2.le) (λ_=>hk) λe he=>(EY e he).mono l2.le
  ·exact qG (by omega) (so.mono l1.le) (hw.mono l1.le) (λ_=>hk) EY
 ·exact qG hn so hw (λh=>by cases h) hp
theorem qh {g:Nat}{op:Op}: ∀(f:Nat) {G:Ga} {n d:Nat} {c:Int} {p:List Nat} {path:List En},n≤g→G.ty c=some (.inner d p)→full G c d→(∀e∈path,zS G e)→Safe t n (dP g op f c path) G λ_ _ _=>True
 |0,_,_,_,_,_,_,_,_,_,_=>Safe.ret λ_ _ _ _ _=>trivial
 |f+1,G,n,d,c,p,path,hn,t0,hf,hp=>by
  unfold dP;refine Safe.uW ?_;rw[if_neg (by decide)]
  refine Safe.bind ((Ef t0).wk λj s G1 hj g1 h=>?_)
  obtain⟨q,so⟩:=h;have LX:G1.nz s:=by
   obtain⟨d',q',i,t',hi,e,_⟩:=so;rw[g1.ty _ _ t0] at t';cases t';rw[e];exact g1.nz _ (hf i hi)
  refine Safe.bind ((yP (by omega) so).wk λj2 w G2 fH g2 h=>?_)
  obtain⟨hjn,h⟩:=h;rcases h with⟨_,h⟩|⟨fw,_⟩
  ·exact absurd LX h
  have TC:=so.mono g2;have I3: ∀e∈path,zS G2 e:=λe he=>((hp e he).mono g1).mono g2
  split
  ·next hk=>
   rcases fw.2 with k|k|⟨k,_⟩|⟨_,c',s',o',d',tr,_⟩
   ·omega
   ·omega
   ·omega
   ·exact Safe.bind ((ui (by omega) tr).wk λj3 b G3 _ _ _=>by
     split<;>exact Safe.ret λ_ _ _ _ _=>trivial)
  split
  ·next hk=>
   rcases fw.2 with k|k|⟨_,d',t',f'⟩|⟨k,_⟩
   ·omega
   ·omega
   ·refine qh f (by omega) t' f' λe he=>?_
    rcases List.mem_append.1 he with h|h
    ·exact I3 e h
    ·rw[List.mem_singleton] at h;subst h;exact⟨fw.1,q,d',TC,hk,t',f'⟩
   ·omega
  ·exact Lv (by omega) TC fw I3
theorem su {g:Nat}{op:Op}: ∀(f:Nat) {G:Ga} {n:Nat},n≤g→G.ty 1=some (.inner 1 [])→full G 1 1→Safe t n (gh g op f) G λ_ _ _=>True
 |0,_,_,_,_,_=>Safe.ret λ_ _ _ _ _=>trivial
 |f+1,G,n,hn,t0,hf=>by
  unfold gh;refine Safe.uW ?_;rw[if_neg (by decide)]
  refine Safe.bind ((qh g hn t0 hf λe he=>by cases he).wk λj r G1 hj g1 _=>?_)
  split
  ·exact Safe.ret λ_ _ _ _ _=>trivial
  ·exact su f (by omega) (g1.ty _ _ t0) (full.mono g1 hf)
variable {G:Ga} {m:Mm} {c s o w:Int} {p:List Nat}
def lf (m:Mm)(s:Int):Int:=if kd (m.at s)≠5 then m.at s else if m.at (aw (m.at s)+4)=1 then m.at (aw (m.at s)+3) else m.at (aw (m.at s)+2)
mutual
inductive eN (m:Mm):Int→List (Int×Int)→Prop where
 |none {w:Int} (h3:kd w≠3) (h4:kd w≠4):eN m w []
 |reb {w:Int} {l:List (Int×Int)} (h4:kd w=4) (h3:kd (m.at (aw w))=3) (h:eN m (m.at (aw w)) l):eN m w l
 |inner {w:Int} {l:List (Int×Int)} (h3:kd w=3) (h:F9 m (aw w) (m.at (aw w)) 0 l):eN m w l
inductive F9 (m:Mm):Int→Int→Int→List (Int×Int)→Prop where
 |done {a d i:Int} (h: ¬i<d):F9 m a d i []
 |next {a d i:Int} {l l':List (Int×Int)} (h:i<d) (k:eN m (lf m (dh a d i)) l) (r:F9 m a d (i+1) l'):F9 m a d i ((a,dh a d i)::(l++l'))
end
theorem bs.TP (h:bs G m)(so:aQ G s o p)(hz:G.nz s):da G p (lf m s):=by
 unfold lf;rcases h.slot so with⟨_,a⟩|⟨_,a|⟨a,_,old,new,b,t⟩⟩
 ·exact absurd hz a
 ·rw[if_pos a.PJ];exact a
 ·rw[if_neg (by simp[a])]
  obtain⟨o',p',Ip,fo,fn,_,_,e2,e3,_⟩:=h.ij _ _ t;have:=(aQ.uniq h so Ip).2
  subst this;split
  ·rw[e3];exact fn
  ·rw[e2];exact fo
theorem bs.deep (h:bs G m): ∃M:Nat,∀a d q,G.ty a=some (.inner d q)→q.length≤M:=by
 have key: ∀N:Nat,∃M:Nat,∀(a:Int) d q,a≤N→G.ty a=some (.inner d q)→q.length≤M:=by
  intro N;induction N with
  |zero=>exact⟨0,λa d q ha t=>by have:=h.room _ _ t;omega⟩
  |succ N ih=>
   obtain⟨M,hM⟩:=ih;cases e:G.ty ((N+1:Nat):Int) with
   |none=>exact⟨M,λa d q ha t=>by
     by_cases ea:a=((N+1:Nat):Int)
     ·rw[ea,e] at t;cases t
     ·exact hM a d q (by omega) t⟩
   |some r=>
    cases r with
    |inner d0 q0=>exact⟨max M q0.length,λa d q ha t=>by
      by_cases ea:a=((N+1:Nat):Int)
      ·rw[ea,e] at t;cases t;omega
      ·have:=hM a d q (by omega) t;omega⟩
    |leaf=>exact⟨M,λa d q ha t=>by
      by_cases ea:a=((N+1:Nat):Int)
      ·rw[ea,e] at t;cases t
      ·exact hM a d q (by omega) t⟩
    |empty=>exact⟨M,λa d q ha t=>by
      by_cases ea:a=((N+1:Nat):Int)
      ·rw[ea,e] at t;cases t
      ·exact hM a d q (by omega) t⟩
    |bT _ _=>exact⟨M,λa d q ha t=>by
      by_cases ea:a=((N+1:Nat):Int)
      ·rw[ea,e] at t;cases t
      ·exact hM a d q (by omega) t⟩
    |ek _ _ _ _=>exact⟨M,λa d q ha t=>by
      by_cases ea:a=((N+1:Nat):Int)
      ·rw[ea,e] at t;cases t
      ·exact hM a d q (by omega) t⟩
 obtain⟨M,hM⟩:=key m.cs.length;refine⟨M,λa d q t=>hM a d q ?_ t⟩
 have h1:=h.room _ _ t;have h2:1≤(Rec.inner d q).size:=by simp[Rec.size]
 omega
structure Xn (G:Ga) (P:List Nat→Prop) (l:List (Int×Int)):Prop where
 und:iy G P (l.map Prod.snd)
 own: ∀e∈l,∃q,aQ G e.2 e.1 q∧G.nz e.2
theorem Gb (h:bs G m){M:Nat}(hM: ∀a d q,G.ty a=some (.inner d q)→q.length≤M): ∀(k:Nat) (p:List Nat) (w:Int),M+1≤p.length+k→da G p w→∃l,eN m w l∧Xn G (λq=>∃j,p++[j] <+:q) l:=by
 intro k;induction k with
 |zero=>
  intro p w hk fw;have no: ∀a d,¬G.ty a=some (.inner d p):=λa d t=>by have:=hM a d p t;omega
  rcases fw.2 with a|a|⟨_,d,t,_⟩|⟨_,c,s,o,d,_,_,t,_⟩
  ·exact⟨[],.none (by omega) (by omega),⟨List.nodup_nil,λs hs=>by cases hs⟩,λe he=>by cases he⟩
  ·exact⟨[],.none (by omega) (by omega),⟨List.nodup_nil,λs hs=>by cases hs⟩,λe he=>by cases he⟩
  ·exact absurd t (no _ _)
  ·exact absurd t (no _ _)
 |succ k ih=>
  have inn: ∀(p:List Nat) (a:Int) (d:Nat),M+1≤p.length+(k+1)→G.ty a=some (.inner d p)→full G a d→∃l,F9 m a (m.at a) 0 l∧Xn G (λq=>∃j,p++[j] <+:q) l:=by
   intro p a d hk t hf;obtain⟨e,d1,d2,c1⟩:=h.Xa t;have loop: ∀(r i:Nat),i+r=d→∃l,F9 m a d i l∧Xn G (λq=>∃j,i≤j∧p++[j] <+:q) l:=by
    intro r;induction r with
    |zero=>
     intro i hi;exact⟨[],.done (by omega),⟨List.nodup_nil,λs hs=>by cases hs⟩,λe he=>by cases he⟩
    |succ r ihr=>
     intro i hi;obtain⟨l',b',u',o'⟩:=ihr (i+1) (by omega)
     have ec:dh a d i=bV a d i:=by rw[jX c1 d2 ⟨by omega,by omega⟩,Int.toNat_natCast]
     have so:aQ G (bV a d i) a (p++[i]):=aQ.mk' t (by omega)
     have fl:=h.TP so (hf i (by omega))
     obtain⟨l,b,u,o⟩:=ih (p++[i]) _ (by simp;omega) fl
     have u0:iy G (λq=>q=p++[i]) [bV a d i]:=⟨by simp,λs hs=>by
      rw[List.mem_singleton] at hs;subst hs;exact⟨a,_,so,rfl⟩⟩
     have u1:iy G (λq=>p++[i] <+:q) ([bV a d i]++l.map Prod.snd):=iy.app h u0 u (by
      rintro q rfl ⟨j,hj⟩;have:=hj.length_le;simp at this) (by rintro q rfl;exact List.prefix_refl _) (by
      rintro q ⟨j,hj⟩;exact(List.prefix_append _ _).trans hj)
     have u2:iy G (λq=>∃j,i≤j∧p++[j] <+:q) (([bV a d i]++l.map Prod.snd)++l'.map Prod.snd):=iy.app h u1 u' (by
      rintro q hq ⟨j,hj,fH⟩;have:=jh hq fH;omega) (by intro q hq;exact⟨i,Nat.le_refl _,hq⟩) (by
      rintro q ⟨j,hj,fH⟩;exact⟨j,by omega,fH⟩)
     refine⟨(a,dh a d i)::(l++l'),.next (by omega) (by rw[ec];exact b) b',?_,?_⟩
     ·rw[ec];simpa using u2
     ·intro e he;rcases List.mem_cons.1 he with rfl|he
      ·rw[ec];exact⟨_,so,hf i (by omega)⟩
      ·rcases List.mem_append.1 he with he|he
       ·exact o e he
       ·exact o' e he
   obtain⟨l,b,u,o⟩:=loop d 0 (by omega)
   rw[e];exact⟨l,b,⟨u.1,λs hs=>by
    obtain⟨o1,q,so,j,_,hj⟩:=u.2 s hs;exact⟨o1,q,so,j,hj⟩⟩,o⟩
  intro p w hk fw;rcases fw.2 with a|a|⟨a,d,t,f⟩|⟨a,c,s,o,d,tr,so,t,f⟩
  ·exact⟨[],.none (by omega) (by omega),⟨List.nodup_nil,λs hs=>by cases hs⟩,λe he=>by cases he⟩
  ·exact⟨[],.none (by omega) (by omega),⟨List.nodup_nil,λs hs=>by cases hs⟩,λe he=>by cases he⟩
  ·obtain⟨l,b,bp⟩:=inn p _ d hk t f;exact⟨l,.inner a b,bp⟩
  ·obtain⟨l,b,bp⟩:=inn p c d hk t f;obtain⟨_,_,_,_,_,_,k3,kc,_⟩:=h.ij _ _ tr;exact⟨l,.reb a k3 (.inner k3 (by rw[kc];exact b)),bp⟩
theorem Gc (h:bs G m)(t0:G.ty 1=some (.inner 1 []))(hf:full G 1 1): ∃l,eN m (lf m 6) l∧((1,6)::l).length≤m.cs.length∧∀e∈((1,6)::l:List (Int×Int)),∃q,aQ G e.2 e.1 q∧G.nz e.2:=by
 obtain⟨M,hM⟩:=h.deep;have so:aQ G 6 1 [0]:=⟨1,[],0,t0,by omega,rfl,rfl⟩
 have hz:G.nz 6:=hf 0 (by omega)
 obtain⟨l,b,u,o⟩:=Gb h hM (M+1) [0] _ (by simp) (h.TP so hz)
 have u0:iy G (λq=>q=[0]) [6]:=⟨by simp,λs hs=>by
  rw[List.mem_singleton] at hs;subst hs;exact⟨1,_,so,rfl⟩⟩
 have u1:iy G (λ_=>True) ([6]++l.map Prod.snd):=iy.app h u0 u (by
  rintro q rfl ⟨j,hj⟩;have:=hj.length_le;simp at this) (λ_ _=>trivial) λ_ _=>trivial
 refine⟨l,b,?_,?_⟩
 ·have:=u1.len h
  simpa using this
 ·intro e he;rcases List.mem_cons.1 he with rfl|he
  ·exact⟨_,so,hz⟩
  ·exact o e he
end Go.Proofs.YtgfgglponbmgmaaGreatA.Y
end
