/- Texts of the proof of helpPlays_holds, put together by a small program of ours (names shortened, spaces taken out). No condition beyond the given statement. -/
import Derived.Test.YtgfgglponbmgmaaGreatHPL15
import Derived.Test.YtgfgglponbmgmaaGreatHPL12
import Derived.Test.YtgfgglponbmgmaaGreatHPL13
import Derived.Test.YtgfgglponbmgmaaGreatHPL17
import Derived.Test.YtgfgglponbmgmaaGreatHPL30
import Derived.Test.YtgfgglponbmgmaaGreatHPL11
set_option linter.unusedVariables false
set_option linter.unusedSimpArgs false
set_option linter.unnecessarySimpa false
noncomputable section
section
namespace Go.Proofs.YtgfgglponbmgmaaGreat.Fun.R
open Go Go.RowKit Go.Proofs.YtgfgglponbmgmaaGreatA.Am
set_option maxRecDepth 10000
section
variable {G:ae} {H H':aa} {o o':aj} {p m c:Nat} {K K':aa→aj→Prop} {t t1 t2 q:Int} {x:Value} {l lp ls:PL} {n i:Nat} {cs:List Value} {T:TypeId}
structure WS where
 lo:Int
 hi:Int
 back:Bool
 Qg:Int
 values:Bool
abbrev Nj (s:WS)(xp xs:Value):List Value:=[cv s.lo,cv s.hi,.bool s.back,cv s.Qg,.bool s.values,xp,xs]
def KW (K:aa→aj→Prop)(t t1 t2:Int)(w:Nat)(s:WS)(lp ls:PL)(H:aa)(o:aj):Prop:=
 K H o∧∃xp xs ty,H.get w=some ⟨Nj s xp xs,ty,1,false⟩∧o w=t∧gZ H o t1 xp lp∧gZ H o t2 xs ls
structure FM (p:Nat) (t t1 t2:Int):Prop where
 a:oZ t p
 a1:oZ t1 p
 a2:oZ t2 p
 d1:t≠t1
 d2:t≠t2
 d3:t1≠t2
theorem gZ.isSlice {s:Value}(h:gZ H o q s l): ∃a c,s= .slice a l.length c:=h.r.isSlice
section
variable {w:Nat} {s:WS}
theorem KW.fg (ht:FM p t t1 t2)(hK:bH [(p:Int),t,t1,t2] K):bH [(p:Int)] (KW K t t1 t2 w s lp ls):=λH o H' o' h f=>by
 obtain⟨hk,xp,xs,ty,g,ho,h1,h2⟩:=h;exact⟨hK _ _ _ _ hk (f.wk (by simp)),xp,xs,ty,by rw[f.same w (ar g) (by rw[ho];simpa using ht.a.ne)];exact g,by rw[f.own w (ar g)];exact ho,gZ.fr h1 f (by simpa using ht.a1.ne),gZ.fr h2 f (by simpa using ht.a2.ne)⟩
theorem KW.n9 (h:J (KW K t t1 t2 w s lp ls) p m H):aq (pv w) H=some (cv s.lo)∧aq (.pointer (some ⟨w,1,none⟩)) H=some (cv s.hi)∧aq (.pointer (some ⟨w,2,none⟩)) H=some (.bool s.back)∧aq (.pointer (some ⟨w,3,none⟩)) H=some (cv s.Qg)∧aq (.pointer (some ⟨w,4,none⟩)) H=some (.bool s.values):=by
 obtain⟨_,o,_,_,xp,xs,ty,g,_⟩:=h;exact⟨an w 0 _ g,an w 1 _ g,an w 2 _ g,an w 3 _ g,an w 4 _ g⟩
theorem KW.len (h:J (KW K t t1 t2 w s lp ls) p m H): ∃xp,aq (.pointer (some ⟨w,5,none⟩)) H=some xp∧cE xp=some (cv lp.length):=by
 obtain⟨_,o,_,_,xp,xs,ty,g,ho,h1,h2⟩:=h;exact⟨xp,an w 5 _ g,h1.r.len⟩
theorem KW.adp (ht:FM p t t1 t2)(hK:bH [(p:Int),t,t1,t2] K)(h:J (KW K t t1 t2 w s lp ls) p m H)(hb:lp.length+1≤4294967296): ∃xp,aq (.pointer (some ⟨w,5,none⟩)) H=some xp∧∀(T ty:TypeId) (a b:Int),∃x' l' H1 H2,
  dk T 2 16 xp (.slice (some ⟨H.length,0,none⟩) 1 1) (H.new ⟨[cv a,cv b],ty,2,false⟩)=some (x',H1)∧bE 1 (.pointer (some ⟨w,5,none⟩)) x' H1=some (undef,H2)∧J (KW K t t1 t2 w s l' ls) p m H2∧l'.length=lp.length+1:=by
 obtain⟨_,o,hr,hk,xp,xs,ty,g,ho,h1,h2⟩:=h;refine⟨xp,an w 5 _ g,λT mV a b=>?_⟩
 have f1:Fr H o (H.new ⟨[cv a,cv b],mV,2,false⟩) (o.up H.length (-9)) [t1]:=(Fr.refl H o [t1]).new _ _;have YF:Fr H o (H.new ⟨[cv a,cv b],mV,2,false⟩) (o.up H.length (-9)) []:=(Fr.refl H o []).new _ _;obtain⟨x',H2,o2,e,s2,f2,_⟩:=gZ.app (y:=.slice (some ⟨H.length,0,none⟩) 1 1) (m:=[(a,b)]) T (gZ.fr h1 YF (by simp)) (Src.one aL) (by simpa using hb)
 have f3:=f1.tr f2;have g2:H2.get w=some ⟨Nj s xp xs,ty,1,false⟩:=by rw[f3.same w (ar g) (by rw[ho];simpa using ht.d1)];exact g
 have DC:o2 w=t:=by rw[f3.own w (ar g)];exact ho
 obtain⟨ba,bc,ex⟩:=gZ.isSlice s2;obtain⟨H3,e3⟩: ∃z,z=H2.put w ⟨Nj s x' xs,ty,1,false⟩:=⟨_,rfl⟩;have f4:Fr H2 o2 H3 o2 [t]:=by rw[e3];exact(Fr.refl H2 o2 [t]).put λ_=>by simp[DC]
 have f5:Fr H o H3 o2 [t,t1]:=f3.trans f4 (by simp) (by simp)
 refine⟨x',lp++[(a,b)],H2,H3,e,?_,⟨KW.fg ht hK,o2,hr.fr f5 ?_ ?_ ?_,hK _ _ _ _ hk (f5.wk (by simp)),x',xs,ty,by rw[e3];exact aG g2,DC,gZ.fr s2 f4 ?_,gZ.fr h2 f5 ?_⟩,by simp⟩
 ·rw[ex,G8 w 5 ba _ bc H2 g2 rfl (by simp),e3,ex];rfl
 ·have:=ht.a.ne;have:=ht.a1.ne;simp;omega
 ·have:=ht.a.n0;have:=ht.a1.n0;simp;omega
 ·have:=ht.a.n1;have:=ht.a1.n1;simp;omega
 ·have:=ht.d1;have:=ht.d2;have:=ht.d3;simp;omega
 ·have:=ht.d1;have:=ht.d2;have:=ht.d3;simp;omega
theorem KW.adq (ht:FM p t t1 t2)(hK:bH [(p:Int),t,t1,t2] K)(h:J (KW K t t1 t2 w s lp ls) p m H)(hb:ls.length+1≤4294967296): ∃xp,aq (.pointer (some ⟨w,6,none⟩)) H=some xp∧∀(T ty:TypeId) (a b:Int),∃x' l' H1 H2,
  dk T 2 16 xp (.slice (some ⟨H.length,0,none⟩) 1 1) (H.new ⟨[cv a,cv b],ty,2,false⟩)=some (x',H1)∧bE 1 (.pointer (some ⟨w,6,none⟩)) x' H1=some (undef,H2)∧J (KW K t t1 t2 w s lp l') p m H2∧l'.length=ls.length+1:=by
 obtain⟨_,o,hr,hk,xp,xs,ty,g,ho,h1,h2⟩:=h;refine⟨xs,an w 6 _ g,λT mV a b=>?_⟩
 have f1:Fr H o (H.new ⟨[cv a,cv b],mV,2,false⟩) (o.up H.length (-9)) [t2]:=(Fr.refl H o [t2]).new _ _;have YF:Fr H o (H.new ⟨[cv a,cv b],mV,2,false⟩) (o.up H.length (-9)) []:=(Fr.refl H o []).new _ _;obtain⟨x',H2,o2,e,s2,f2,_⟩:=gZ.app (y:=.slice (some ⟨H.length,0,none⟩) 1 1) (m:=[(a,b)]) T (gZ.fr h2 YF (by simp)) (Src.one aL) (by simpa using hb)
 have f3:=f1.tr f2;have g2:H2.get w=some ⟨Nj s xp xs,ty,1,false⟩:=by rw[f3.same w (ar g) (by rw[ho];simpa using ht.d2)];exact g
 have DC:o2 w=t:=by rw[f3.own w (ar g)];exact ho
 obtain⟨ba,bc,ex⟩:=gZ.isSlice s2;obtain⟨H3,e3⟩: ∃z,z=H2.put w ⟨Nj s xp x',ty,1,false⟩:=⟨_,rfl⟩;have f4:Fr H2 o2 H3 o2 [t]:=by rw[e3];exact(Fr.refl H2 o2 [t]).put λ_=>by simp[DC]
 have f5:Fr H o H3 o2 [t,t2]:=f3.trans f4 (by simp) (by simp)
 refine⟨x',ls++[(a,b)],H2,H3,e,?_,⟨KW.fg ht hK,o2,hr.fr f5 ?_ ?_ ?_,hK _ _ _ _ hk (f5.wk (by simp)),xp,x',ty,by rw[e3];exact aG g2,DC,gZ.fr h1 f5 ?_,gZ.fr s2 f4 ?_⟩,by simp⟩
 ·rw[ex,G8 w 6 ba _ bc H2 g2 rfl (by simp),e3,ex];rfl
 ·have:=ht.a.ne;have:=ht.a2.ne;simp;omega
 ·have:=ht.a.n0;have:=ht.a2.n0;simp;omega
 ·have:=ht.a.n1;have:=ht.a2.n1;simp;omega
 ·have:=ht.d1;have:=ht.d2;have:=ht.d3;simp;omega
 ·have:=ht.d1;have:=ht.d2;have:=ht.d3;simp;omega
theorem KW.abt (ht:FM p t t1 t2)(hK:bH [(p:Int),t,t1,t2] K)(h:J (KW K t t1 t2 w s lp ls) p m H)(v:Int): ∃H2,bE 1 (pv w) (cv v) H=some (undef,H2)∧J (KW K t t1 t2 w {s with lo:=v} lp ls) p m H2:=by
 obtain⟨_,o,hr,hk,xp,xs,ty,g,ho,h1,h2⟩:=h;have f:Fr H o (H.put w ⟨Nj {s with lo:=v} xp xs,ty,1,false⟩) o [t]:=(Fr.refl H o [t]).put λ_=>by simp[ho]
 refine⟨_,sA w 0 (cv v) H g rfl (by simp) rfl rfl rfl,KW.fg ht hK,o,hr.fr f ?_ ?_ ?_,hK _ _ _ _ hk (f.wk (by simp)),xp,xs,ty,aG g,ho,gZ.fr h1 f ?_,gZ.fr h2 f ?_⟩
 ·have:=ht.a.ne;simp;omega
 ·have:=ht.a.n0;simp;omega
 ·have:=ht.a.n1;simp;omega
 ·have:=ht.d1;simp;omega
 ·have:=ht.d2;simp;omega
theorem KW.abu (ht:FM p t t1 t2)(hK:bH [(p:Int),t,t1,t2] K)(h:J (KW K t t1 t2 w s lp ls) p m H)(v:Int): ∃H2,bE 1 (.pointer (some ⟨w,1,none⟩)) (cv v) H=some (undef,H2)∧J (KW K t t1 t2 w {s with hi:=v} lp ls) p m H2:=by
 obtain⟨_,o,hr,hk,xp,xs,ty,g,ho,h1,h2⟩:=h;have f:Fr H o (H.put w ⟨Nj {s with hi:=v} xp xs,ty,1,false⟩) o [t]:=(Fr.refl H o [t]).put λ_=>by simp[ho]
 refine⟨_,sA w 1 (cv v) H g rfl (by simp) rfl rfl rfl,KW.fg ht hK,o,hr.fr f ?_ ?_ ?_,hK _ _ _ _ hk (f.wk (by simp)),xp,xs,ty,aG g,ho,gZ.fr h1 f ?_,gZ.fr h2 f ?_⟩
 ·have:=ht.a.ne;simp;omega
 ·have:=ht.a.n0;simp;omega
 ·have:=ht.a.n1;simp;omega
 ·have:=ht.d1;simp;omega
 ·have:=ht.d2;simp;omega
theorem KW.abv (ht:FM p t t1 t2)(hK:bH [(p:Int),t,t1,t2] K)(h:J (KW K t t1 t2 w s lp ls) p m H)(v:Bool): ∃H2,bE 1 (.pointer (some ⟨w,2,none⟩)) (.bool v) H=some (undef,H2)∧J (KW K t t1 t2 w {s with back:=v} lp ls) p m H2:=by
 obtain⟨_,o,hr,hk,xp,xs,ty,g,ho,h1,h2⟩:=h;have f:Fr H o (H.put w ⟨Nj {s with back:=v} xp xs,ty,1,false⟩) o [t]:=(Fr.refl H o [t]).put λ_=>by simp[ho]
 refine⟨_,sA w 2 (.bool v) H g rfl (by simp) rfl rfl rfl,KW.fg ht hK,o,hr.fr f ?_ ?_ ?_,hK _ _ _ _ hk (f.wk (by simp)),xp,xs,ty,aG g,ho,gZ.fr h1 f ?_,gZ.fr h2 f ?_⟩
 ·have:=ht.a.ne;simp;omega
 ·have:=ht.a.n0;simp;omega
 ·have:=ht.a.n1;simp;omega
 ·have:=ht.d1;simp;omega
 ·have:=ht.d2;simp;omega
theorem KW.adr (ht:FM p t t1 t2)(hK:bH [(p:Int),t,t1,t2] K)(h:J (KW K t t1 t2 w s lp ls) p m H)(v:Int): ∃H2,bE 1 (.pointer (some ⟨w,3,none⟩)) (cv v) H=some (undef,H2)∧J (KW K t t1 t2 w {s with Qg:=v} lp ls) p m H2:=by
 obtain⟨_,o,hr,hk,xp,xs,ty,g,ho,h1,h2⟩:=h;have f:Fr H o (H.put w ⟨Nj {s with Qg:=v} xp xs,ty,1,false⟩) o [t]:=(Fr.refl H o [t]).put λ_=>by simp[ho]
 refine⟨_,sA w 3 (cv v) H g rfl (by simp) rfl rfl rfl,KW.fg ht hK,o,hr.fr f ?_ ?_ ?_,hK _ _ _ _ hk (f.wk (by simp)),xp,xs,ty,aG g,ho,gZ.fr h1 f ?_,gZ.fr h2 f ?_⟩
 ·have:=ht.a.ne;simp;omega
 ·have:=ht.a.n0;simp;omega
 ·have:=ht.a.n1;simp;omega
 ·have:=ht.d1;simp;omega
 ·have:=ht.d2;simp;omega
theorem KW.abw (ht:FM p t t1 t2)(hK:bH [(p:Int),t,t1,t2] K)(h:J (KW K t t1 t2 w s lp ls) p m H)(v:Bool): ∃H2,bE 1 (.pointer (some ⟨w,4,none⟩)) (.bool v) H=some (undef,H2)∧J (KW K t t1 t2 w {s with values:=v} lp ls) p m H2:=by
 obtain⟨_,o,hr,hk,xp,xs,ty,g,ho,h1,h2⟩:=h;have f:Fr H o (H.put w ⟨Nj {s with values:=v} xp xs,ty,1,false⟩) o [t]:=(Fr.refl H o [t]).put λ_=>by simp[ho]
 refine⟨_,sA w 4 (.bool v) H g rfl (by simp) rfl rfl rfl,KW.fg ht hK,o,hr.fr f ?_ ?_ ?_,hK _ _ _ _ hk (f.wk (by simp)),xp,xs,ty,aG g,ho,gZ.fr h1 f ?_,gZ.fr h2 f ?_⟩
 ·have:=ht.a.ne;simp;omega
 ·have:=ht.a.n0;simp;omega
 ·have:=ht.a.n1;simp;omega
 ·have:=ht.d1;simp;omega
 ·have:=ht.d2;simp;omega
end
abbrev GW (K:aa→aj→Prop)(t t1 t2:Int)(w:Nat)(s:WS)(c p mm:Nat):Value→aa→Prop:=λv H'=>∃z lp' ls' m',v= .bool z∧J (KW K t t1 t2 w s lp' ls') p m' H'∧m'≤mm∧lp'.length+m'≤c∧ls'.length+m'≤c
section
variable {w:Nat} {s:WS}
theorem TJ (ht:FM p t t1 t2)(hK:bH [(p:Int),t,t1,t2] K)(hc:c≤2147483648)(h:J (KW K t t1 t2 w s lp ls) p m H)(h1:lp.length+m≤c)(h2:ls.length+m≤c)(h3:m≠0)(a:Int):
  aF (run G) 163 [pv w,pv p,cv a] H (GW K t t1 t2 w s c p (m-1)):=by
 refine Ev.up (t:=λk=>WW (run G k) k (pv w) (pv p) (cv a) H) ?_ λk=>RV ..
 simp -implicitDefEqProofs only[WW,sS,Nat.reduceAdd];refine Ev.num (kE h _) λzq Hz mz hj hm=>?_
 obtain⟨a0,a1,a2,a3,a4⟩:=KW.n9 hj;have J0: ∀{m1:Nat} {H1:aa} (v:Int) (x6 bX bV:Value),J (KW K t t1 t2 w s lp ls) p m1 H1→m1≤m-1→Ev (λk=>vG (run G k) k [pv w,pv p,cv a,x6,cv zq,bX,bV,cv v] H1) λr=>GW K t t1 t2 w s c p (m-1) r.1 r.2:=by
  intro m1 H1 v x6 bX bV hj hm;obtain⟨xp,b0,b1⟩:=KW.adp ht hK hj (by omega)
  obtain⟨x',l',H2,H3,b2,b3,gG,hl⟩:=b1 45 45 zq v;obtain⟨a0,a1,a2,a3,a4⟩:=KW.n9 gG;obtain⟨xq,b4,b5⟩:=KW.len gG;simp -implicitDefEqProofs only[Lf,xH,b0,zt,Hm,b2,b3,a3,sS,Nat.reduceAdd];refine Ev.gtr (λhq=>?_) (λhq=>?_)<;>try simp -implicitDefEqProofs only[b4,b5,a3,sS,Nat.reduceAdd]
  ·refine Ev.geq (λhq=>?_) (λhq=>?_)<;>try simp -implicitDefEqProofs only[sS,Nat.reduceAdd]
   ·exact Ev.ret ⟨_,_,_,_,rfl,gG,by omega,by omega,by omega⟩
   ·exact Ev.ret ⟨_,_,_,_,rfl,gG,by omega,by omega,by omega⟩
  ·exact Ev.ret ⟨_,_,_,_,rfl,gG,by omega,by omega,by omega⟩
 simp -implicitDefEqProofs only[a0,sS,Nat.reduceAdd];refine Ev.lss (λhq=>?_) (λhq=>?_)<;>try simp -implicitDefEqProofs only[a1,sS,Nat.reduceAdd]
 ·exact Ev.ret ⟨_,_,_,_,rfl,hj,by omega,by omega,by omega⟩
 refine Ev.gtr (λhq=>?_) (λhq=>?_)<;>try simp -implicitDefEqProofs only[a4,sS,Nat.reduceAdd]
 ·exact Ev.ret ⟨_,_,_,_,rfl,hj,by omega,by omega,by omega⟩
 cases hv:s.values<;>try simp -implicitDefEqProofs only[sS,Nat.reduceAdd]
 ·exact J0 _ _ _ _ hj hm
 ·refine Ev.num (kE hj _) λzv Hz mz hj hm=>?_
  exact J0 _ _ _ _ hj (by omega)
theorem Ev.gw {α:Type}{k:Nat→Value→aa→Option α}{Q:α→Prop}{C:Nat→ae}{f:Nat}{args:List Value}{mm:Nat}(h:aF C f args H (GW K t t1 t2 w s c p mm))(hk: ∀z lp ls m' H',J (KW K t t1 t2 w s lp ls) p m' H'→m'≤mm→lp.length+m'≤c→ls.length+m'≤c→Ev (λn=>k n (.bool z) H') Q):Ev (λn=>af (C n f args H) (k n)) Q:=
 Ev.call h λv H' hq=>by obtain⟨z,lp,ls,m',rfl,h1,h2,h3,h4⟩:=hq;exact hk z lp ls m' H' h1 h2 h3 h4
theorem TK (ht:FM p t t1 t2)(hK:bH [(p:Int),t,t1,t2] K)(hc:c≤2147483648){M:Nat}(ih: ∀{m:Nat} {lp ls:PL} {H:aa},J (KW K t t1 t2 w s lp ls) p m H→m<M→lp.length+m≤c→ls.length+m≤c→∀a,aF (run G) 119 [pv w,pv p,cv a] H (GW K t t1 t2 w s c p (m-1)))(h:J (KW K t t1 t2 w s lp ls) p m H)(hM:m<M)(h1:lp.length+m≤c)(h2:ls.length+m≤c)(h3:m≠0)(a:Int):
  aF (run G) 145 [pv w,pv p,cv a] H (GW K t t1 t2 w s c p m):=by
 refine Ev.up (t:=λk=>Xf (run G k) k (pv w) (pv p) (cv a) H) ?_ λk=>R5 ..
 simp -implicitDefEqProofs only[Xf,sS,Nat.reduceAdd];refine Ev.kB (Td _) λza=>?_
 refine Ev.kB (Ha _) λzk=>?_
 try simp -implicitDefEqProofs only[sS,Nat.reduceAdd]
 refine Ev.eql (λhq=>?_) (λhq=>?_)<;>try simp -implicitDefEqProofs only[sS,Nat.reduceAdd]
 ·refine Ev.gw (TJ ht hK hc h h1 h2 h3 _) λz lp ls m' H' hj hm g1 g2=>?_
  try simp -implicitDefEqProofs only[sS,Nat.reduceAdd]
  exact Ev.ret ⟨_,_,_,_,rfl,hj,by omega,g1,g2⟩
 refine Ev.eql (λhq=>?_) (λhq=>?_)<;>try simp -implicitDefEqProofs only[sS,Nat.reduceAdd]
 ·refine Ev.gw (ih h hM h1 h2 _) λz lp ls m' H' hj hm g1 g2=>?_
  try simp -implicitDefEqProofs only[sS,Nat.reduceAdd]
  exact Ev.ret ⟨_,_,_,_,rfl,hj,by omega,g1,g2⟩
 refine Ev.eql (λhq=>?_) (λhq=>?_)<;>try simp -implicitDefEqProofs only[sS,Nat.reduceAdd]
 ·refine Ev.num (kE h _) λzr Hz mz hj hm=>?_
  refine Ev.kB (Td _) λza2=>?_
  refine Ev.gw (ih hj (by omega) (by omega) (by omega) _) λz lp ls m' H' hj hm g1 g2=>?_
  try simp -implicitDefEqProofs only[sS,Nat.reduceAdd]
  exact Ev.ret ⟨_,_,_,_,rfl,hj,by omega,g1,g2⟩
 ·exact Ev.ret ⟨_,_,_,_,rfl,h,by omega,h1,h2⟩
theorem YQ (a b:Int):aE Tryz.prog 189 [(0,cv a),(1,cv b)]=some (.agg #[cv a,cv b]):=by kernel_rfl
theorem YS (a b:Int)(H:aa):ay Tryz.prog 32 1 [(0,.agg #[cv a,cv b])] H=some (.slice (some ⟨H.length,0,none⟩) 1 1,H.new ⟨[cv a,cv b],189,2,false⟩):=by kernel_rfl
theorem Nk (ht:FM p t t1 t2)(hK:bH [(p:Int),t,t1,t2] K)(hc:c≤2147483648): ∀(M:Nat) {m:Nat} {lp ls:PL} {H:aa},J (KW K t t1 t2 w s lp ls) p m H→m<M→lp.length+m≤c→ls.length+m≤c→∀a,aF (run G) 119 [pv w,pv p,cv a] H (GW K t t1 t2 w s c p (m-1)):=by
 intro M;induction M with
 |zero=>intro m lp ls H h hM;omega
 |succ M ih=>
 intro m lp ls H h hM h1 h2 a;refine Ev.up (t:=λk=>X9 (run G k) k (pv w) (pv p) (cv a) H) ?_ λk=>SK ..
 obtain⟨a0,a1,a2,a3,a4⟩:=KW.n9 h;have J0: ∀(x6 bz bJ x8 x9 aC dy aO eU fI lF zQ:Value) (f:Int),Ev (λk=>vT (run G k) k [pv w,pv p,cv a,x6,bz,cv f,bJ,x8,x9,aC,dy,aO,eU,fI,lF,zQ] H) λr=>GW K t t1 t2 w s c p (m-1) r.1 r.2:=by
  intro x6 bz bJ x8 x9 aC dy aO eU fI lF zQ f;simp -implicitDefEqProofs only[Mh,yD,sS,Nat.reduceAdd];refine Ev.abr (JK h _ _) λd i Hz mz hj hm=>?_
  simp -implicitDefEqProofs only[sS,Nat.reduceAdd];refine Ev.loop (k:=mz) (λk vs Hx=>∃(lp ls:PL) (i:Int) (x6 bz x7 bJ aC dy aO eU fI lF zQ:Value),J (KW K t t1 t2 w s lp ls) p k Hx∧k≤mz∧lp.length+k≤c∧ls.length+k≤c∧vs=[pv w,pv p,cv a,x6,bz,x7,bJ,cv d,cv i,aC,dy,aO,eU,fI,lF,zQ])
   (λr=>∃(lp ls:PL) (m2:Nat) (x9 x6 bz x7 bJ aC dy aO eU fI lF zQ:Value),J (KW K t t1 t2 w s lp ls) p m2 r.2.2∧m2≤m-1∧lp.length+m2≤c∧ls.length+m2≤c∧r.2.1=[pv w,pv p,cv a,x6,bz,x7,bJ,cv d,x9,aC,dy,aO,eU,fI,lF,zQ]∧(r.1= .exit 0∨(r.1= .ret∧∃z,x6= .bool z))) ⟨_,_,_,_,_,_,_,_,_,_,_,_,_,_,hj,Nat.le_refl _,by omega,by omega,rfl⟩ ?_ ?_
  ·rintro k vs Hx ⟨lp,ls,i,x6,bz,x7,bJ,aC,dy,aO,eU,fI,lF,zQ,hj,hk,g1,g2,rfl⟩;simp -implicitDefEqProofs only[Mg,yC,sS,Nat.reduceAdd];refine Ev.off hj (λhq=>?_) (λhq=>?_)<;>try simp -implicitDefEqProofs only[sS,Nat.reduceAdd]
   ·exact Ev.ret (.inr ⟨by simp,_,_,_,_,_,_,_,_,_,_,_,_,_,_,_,hj,by omega,g1,g2,rfl,.inl rfl⟩)
   refine Ev.kB (Bk _ _ _) λzc=>?_
   refine Ev.num (Hv hj _) λzw Hz mz2 hj Ku=>?_
   try simp -implicitDefEqProofs only[sS,Nat.reduceAdd]
   refine Ev.off hj (λhq=>?_) (λhq=>?_)<;>try simp -implicitDefEqProofs only[sS,Nat.reduceAdd]
   ·exact Ev.ret (.inr ⟨by simp,_,_,_,_,_,_,_,_,_,_,_,_,_,_,_,hj,by omega,by omega,by omega,rfl,.inl rfl⟩)
   obtain⟨xp,b0,b1⟩:=KW.adq ht hK hj (by omega)
   obtain⟨x',l',H2,H3,b2,b3,gG,hl⟩:=b1 189 189 zc zw;simp -implicitDefEqProofs only[b0,YQ,YS,b2,b3,sS,Nat.reduceAdd];refine Ev.gw (TK ht hK hc (M:=M) (λ{m lp ls H} hj hM g1 g2 a=>ih hj hM g1 g2 a) gG (by omega) (by omega) (by omega) (by omega) _) λz lp ls m' H' hj Nt g1 g2=>?_
   obtain⟨a0,a1,a2,a3,a4⟩:=KW.n9 hj;cases z<;>simp -implicitDefEqProofs only[a2,sS,Nat.reduceAdd]
   ·cases hb:s.back<;>simp -implicitDefEqProofs only[sS,Nat.reduceAdd]
    ·refine Ev.eql (λhq=>?_) (λhq=>?_)<;>try simp -implicitDefEqProofs only[sS,Nat.reduceAdd]
     ·exact Ev.ret (.inr ⟨by simp,_,_,_,_,_,_,_,_,_,_,_,_,_,_,_,hj,by omega,g1,g2,rfl,.inr ⟨rfl,_,rfl⟩⟩)
     ·refine Ev.kB (nB _ _) λzk=>?_
      refine Ev.num (kE hj _) λzr Hz mz3 jh hm4=>?_
      obtain⟨c0,c1,c2,c3,c4⟩:=KW.n9 jh;simp -implicitDefEqProofs only[a1,c1,sS,Nat.reduceAdd];refine Ev.gtr (λhq=>?_) (λhq=>?_)<;>try simp -implicitDefEqProofs only[a1,c1,sS,Nat.reduceAdd]
      ·exact Ev.ret (.inr ⟨by simp,_,_,_,_,_,_,_,_,_,_,_,_,_,_,_,jh,by omega,by omega,by omega,rfl,.inr ⟨rfl,_,rfl⟩⟩)
      ·exact Ev.ret (.inl ⟨rfl,_,by omega,_,_,_,_,_,_,_,_,_,_,_,_,_,_,jh,by omega,by omega,by omega,rfl⟩)
    ·refine Ev.eql (λhq=>?_) (λhq=>?_)<;>try simp -implicitDefEqProofs only[sS,Nat.reduceAdd]
     ·exact Ev.ret (.inr ⟨by simp,_,_,_,_,_,_,_,_,_,_,_,_,_,_,_,hj,by omega,g1,g2,rfl,.inr ⟨rfl,_,rfl⟩⟩)
     ·refine Ev.kB (nB _ _) λzk=>?_
      refine Ev.num (kE hj _) λzr Hz mz3 jh hm4=>?_
      obtain⟨c0,c1,c2,c3,c4⟩:=KW.n9 jh;simp -implicitDefEqProofs only[a0,c0,sS,Nat.reduceAdd];refine Ev.leq (λhq=>?_) (λhq=>?_)<;>try simp -implicitDefEqProofs only[a0,c0,sS,Nat.reduceAdd]
      ·exact Ev.ret (.inr ⟨by simp,_,_,_,_,_,_,_,_,_,_,_,_,_,_,_,jh,by omega,by omega,by omega,rfl,.inr ⟨rfl,_,rfl⟩⟩)
      ·exact Ev.ret (.inl ⟨rfl,_,by omega,_,_,_,_,_,_,_,_,_,_,_,_,_,_,jh,by omega,by omega,by omega,rfl⟩)
   ·exact Ev.ret (.inr ⟨by simp,_,_,_,_,_,_,_,_,_,_,_,_,_,_,_,hj,by omega,g1,g2,rfl,.inr ⟨rfl,_,rfl⟩⟩)
  ·rintro e vs Hx ⟨lp,ls,m2,x9,x6,bz,x7,bJ,aC,dy,aO,eU,fI,lF,zQ,hj,Ku,g1,g2,rfl,he⟩;rcases he with he|⟨he,z,rfl⟩
   ·simp only at he;subst he;simp -implicitDefEqProofs only[Mf,yB,sS,Nat.reduceAdd];exact Ev.ret ⟨_,_,_,_,rfl,hj,by omega,g1,g2⟩
   ·simp only at he;subst he;show Ev (λ_=>some (Value.bool z,Hx)) _
    exact Ev.ret ⟨_,_,_,_,rfl,hj,by omega,g1,g2⟩
 simp -implicitDefEqProofs only[X9,a0,a2,sS,Nat.reduceAdd];cases hb:s.back<;>simp -implicitDefEqProofs only[a1,sS,Nat.reduceAdd]
 ·exact J0 ..
 ·exact J0 ..
end
theorem TL (h:J K p m H)(hx: ∀H o,K H o→gT H o q x l)(hq:q≠(p:Int))(hl:l.length≤2147483648):aF (run G) 120 [pv p,x] H (Boo K p m):=by
 refine Ev.up (t:=λk=>XF (run G k) k (pv p) x H) ?_ λk=>Sl ..
 simp -implicitDefEqProofs only[XF,sS,Nat.reduceAdd];refine Ev.loop (k:=l.length) (λk vs Hx=>∃(i m2:Nat) (x4 bf cR:Value),J K p m2 Hx∧m2≤m∧i+k=l.length∧vs=[pv p,x,x4,cv i,bf,cR])
  (λr=>(∃m2,J K p m2 r.2.2∧m2≤m)∧∃(x4 x5 bf cR:Value),r.2.1=[pv p,x,x4,x5,bf,cR]∧(r.1= .exit 0∨(r.1= .ret∧∃z,x4= .bool z))) ⟨0,m,_,_,_,h,Nat.le_refl _,by omega,rfl⟩ ?_ ?_
 ·rintro k vs Hx ⟨i,m2,x4,bf,cR,hj,hm,hik,rfl⟩;obtain⟨_,o1,u6,D2⟩:=id hj;have hs:=hx _ _ D2;simp -implicitDefEqProofs only[LN,yf,hs.len,sS,Nat.reduceAdd];refine Ev.lss (λqA=>?_) (λqA=>?_)<;>try simp -implicitDefEqProofs only[sS,Nat.reduceAdd]
  ·obtain⟨ib,off,b,e1,e2,e3,e4⟩:=hs.idx (j:=i) (by omega)
   obtain⟨e5,e6,_⟩:=e4 _ e2;refine Ev.off hj (λkn=>?_) (λkn=>?_)<;>try simp -implicitDefEqProofs only[e1,gX,Nat.add_zero,e5,sS,Nat.reduceAdd]
   ·exact Ev.ret (.inr ⟨by simp,⟨_,hj,hm⟩,_,_,_,_,rfl,.inl rfl⟩)
   have hjB:J (λH o=>K H o∧H.get ib=some b∧o ib=q) p m2 Hx:=⟨hj.1.and λH o H' o' a f=>⟨by rw[f.same ib (ar a.1) (by rw[a.2];simpa using hq)];exact a.1,by rw[f.own ib (ar a.1)];exact a.2⟩,o1,u6,D2,e2,e3⟩
   refine Ev.num (Hv hjB _) λzw Hz mz fP Ku=>?_
   have gG:=fP.mono hj.1 λo a=>a.1
   obtain⟨_,o2,sT,hk2,g2,_⟩:=id fP;obtain⟨e7,e8,_⟩:=e4 _ g2;simp -implicitDefEqProofs only[e1,gX,e6,e8,sS,Nat.reduceAdd];have hw:IntKind.i64.wrap ((i:Int)+1)=((i+1:Nat):Int):=by rw[ga (by omega)];omega
   refine Ev.neq (λhq=>?_) (λhq=>?_)<;>try simp -implicitDefEqProofs only[e6,e8,hw,sS,Nat.reduceAdd]
   ·exact Ev.ret (.inr ⟨by simp,⟨_,gG,by omega⟩,_,_,_,_,rfl,.inr ⟨rfl,_,rfl⟩⟩)
   ·exact Ev.ret (.inl ⟨rfl,k-1,by omega,i+1,mz,_,_,_,gG,by omega,by omega,rfl⟩)
  ·exact Ev.ret (.inr ⟨by simp,⟨_,hj,hm⟩,_,_,_,_,rfl,.inl rfl⟩)
 ·rintro e vs Hx ⟨⟨m2,hj,hm⟩,x4,x5,bf,cR,rfl,he⟩;rcases he with he|⟨he,z,rfl⟩
  ·simp only at he;subst he;simp -implicitDefEqProofs only[LO,yg,sS,Nat.reduceAdd];exact Ev.ret ⟨_,rfl,_,hj,hm⟩
  ·simp only at he;subst he;show Ev (λ_=>some (Value.bool z,Hx)) _
   exact Ev.ret ⟨_,rfl,_,hj,hm⟩
end
section
variable {G:ae} {H H':aa} {o o':aj} {p m c:Nat} {K K':aa→aj→Prop} {t t1 t2 q:Int} {x:Value} {l lp ls:PL} {n i:Nat} {cs:List Value} {T:TypeId}
theorem KW.mono {w:Nat}{s:WS}(h:J (KW K t t1 t2 w s lp ls) p m H)(ht:FM p t t1 t2)(TB:bH [(p:Int),t,t1,t2] K')(k: ∀H o,K H o→K' H o):J (KW K' t t1 t2 w s lp ls) p m H:=h.mono (KW.fg ht TB) λo a=>⟨k _ _ a.1,a.2⟩
structure KWx (K:aa→aj→Prop) (t t1 t2:Int) (w:Nat) (s:WS) (xp xs:Value) (lp ls:PL) (H:aa) (o:aj):Prop where
 k:K H o
 g: ∃ty,H.get w=some ⟨Nj s xp xs,ty,1,false⟩
 ow:o w=t
 sp:gZ H o t1 xp lp
 ss:gZ H o t2 xs ls
theorem KWx.fg {w:Nat}{s:WS}{xp xs:Value}(ht:FM p t t1 t2)(hK:bH [(p:Int),t,t1,t2] K):bH [(p:Int)] (KWx K t t1 t2 w s xp xs lp ls):=λH o H' o' h f=>by
 obtain⟨ty,g⟩:=h.g;exact⟨hK _ _ _ _ h.k (f.wk (by simp)),⟨ty,by rw[f.same w (ar g) (by rw[h.ow];simpa using ht.a.ne)];exact g⟩,by rw[f.own w (ar g)];exact h.ow,gZ.fr h.sp f (by simpa using ht.a1.ne),gZ.fr h.ss f (by simpa using ht.a2.ne)⟩
theorem KW.ex {w:Nat}{s:WS}(h:J (KW K t t1 t2 w s lp ls) p m H)(ht:FM p t t1 t2)(hK:bH [(p:Int),t,t1,t2] K): ∃xp xs,J (KWx K t t1 t2 w s xp xs lp ls) p m H:=by
 obtain⟨_,o,hr,hk,xp,xs,ty,g,ho,h1,h2⟩:=h;exact⟨xp,xs,KWx.fg ht hK,o,hr,hk,⟨ty,g⟩,ho,h1,h2⟩
theorem YT:aE Tryz.prog 34 [(0,cv (-9223372036854775808)),(1,cv 9223372036854775807),(3,cv 1),(4,.bool true)]=some (.agg #[cv (-9223372036854775808),cv 9223372036854775807,.bool false,cv 1,.bool true,aA,aA]):=by kernel_rfl
theorem TM (s:WS)(H:aa):dL 34 (.agg #[cv s.lo,cv s.hi,.bool s.back,cv s.Qg,.bool s.values,aA,aA]) H=some (pv H.length,H.new ⟨Nj s aA aA,34,1,false⟩):=by
 simp[dL,Value.cells,aD,aV]
theorem TN (ht:FM p t t1 t2)(h9:t≠ -9∧t1≠ -9∧t2≠ -9)(hK:bH [(p:Int),t,t1,t2] K)(h:J K p m H)(op:kp):aF (run G) 157 [jx op] H λv H'=>∃w s,v=pv w∧J (KW K t t1 t2 w s [] []) p m H':=by
 refine Ev.up (t:=λk=>WI (run G k) k (jx op) H) ?_ λk=>RR ..
 obtain⟨i0,e0⟩: ∃i,i=H.length:=⟨_,rfl⟩;obtain⟨w,e1⟩: ∃i,i=H.length+1:=⟨_,rfl⟩;obtain⟨H1,gg⟩: ∃z,z=H.new ⟨n8 op,39,1,false⟩:=⟨_,rfl⟩;have l1:H1.length=H.length+1:=by rw[gg,cD]
 have ND:bH [(p:Int),t,t1,t2] λH o=>K H o∧Cl i0 (n8 op) 39 H o:=hK.and λH o H' o' a f=>a.fr f (by simp;omega)
 have fK:J (λH o=>K H o∧Cl i0 (n8 op) 39 H o) p m H1:=by
  rw[gg];refine h.nI _ _ 1 (ND.of (by simp)) λo hk f=>⟨hK _ _ _ _ hk (f.wk (by simp)),?_⟩
  rw[e0];exact Cl.made
 let s0:WS:=⟨-9223372036854775808,9223372036854775807,false,1,true⟩
 obtain⟨H2,iJ⟩: ∃z,z=H1.new ⟨Nj s0 aA aA,34,1,false⟩:=⟨_,rfl⟩;have fP:J (KW (λH o=>K H o∧Cl i0 (n8 op) 39 H o) t t1 t2 w s0 [] []) p m H2:=by
  obtain⟨_,o,hr,hk⟩:=fK;have f:Fr H1 o H2 (o.up H1.length t) []:=by rw[iJ];exact(Fr.refl H1 o []).new _ _
  refine⟨KW.fg ht ND,_,hr.fr f (by simp) (by simp) (by simp),ND _ _ _ _ hk (f.wk (by simp)),aA,aA,34,?_,?_,.inl ⟨rfl,rfl⟩,.inl ⟨rfl,rfl⟩⟩
  ·rw[iJ,e1, ←l1];exact aL
  ·rw[e1, ←l1];exact aP
 have bx:=Dj op H;rw[←e0, ←gg] at bx;have bw:=TM s0 H1;rw[←iJ,l1, ←e1] at bw;have L0: ∀{s:WS} {m':Nat} {H':aa},J (KW (λH o=>K H o∧Cl i0 (n8 op) 39 H o) t t1 t2 w s [] []) p m' H'→aq (pv i0) H'=some (cv op.kind)∧aq (.pointer (some ⟨i0,1,none⟩)) H'=some (cv op.key)∧aq (.pointer (some ⟨i0,2,none⟩)) H'=some (cv op.value):=λhj=>by
  obtain⟨_,o,_,⟨_,g,_⟩,_⟩:=hj;exact⟨an i0 0 _ g,an i0 1 _ g,an i0 2 _ g⟩
 have J0: ∀{s:WS} {H':aa} (x2 x7 x8 aX bX cq:Value),J (KW (λH o=>K H o∧Cl i0 (n8 op) 39 H o) t t1 t2 w s [] []) p m H'→Ev (λk=>nq (run G k) k [jx op,x2,pv i0,x7,x8,pv w,aX,bX,cq] H') λr=>∃w s,r.1=pv w∧J (KW K t t1 t2 w s [] []) p m r.2:=by
  intro s H' x2 x7 x8 aX bX cq hj;simp -implicitDefEqProofs only[K9,xz,sS,Nat.reduceAdd];exact Ev.ret ⟨w,s,rfl,KW.mono hj ht hK λH o a=>a.1⟩
 have J1: ∀{s:WS} {H':aa} (b:Bool) (x2 x7 x8 aX bX:Value),J (KW (λH o=>K H o∧Cl i0 (n8 op) 39 H o) t t1 t2 w s [] []) p m H'→Ev (λk=>vF (run G k) k [jx op,x2,pv i0,x7,x8,pv w,aX,bX,.bool b] H') λr=>∃w s,r.1=pv w∧J (KW K t t1 t2 w s [] []) p m r.2:=by
  intro s H' b x2 x7 x8 aX bX hj;simp -implicitDefEqProofs only[La,xA,sS,Nat.reduceAdd];cases b<;>simp -implicitDefEqProofs only[sS,Nat.reduceAdd]
  ·exact J0 _ _ _ _ _ _ hj
  ·obtain⟨a0,a1,a2⟩:=L0 hj;obtain⟨H3,g3,gG⟩:=KW.abt ht ND hj op.key;obtain⟨b0,b1,b2⟩:=L0 gG;obtain⟨H4,g4,jh⟩:=KW.abu ht ND gG op.value;obtain⟨H5,g5,lG⟩:=KW.adr ht ND jh 0;obtain⟨c0,c1,c2⟩:=L0 lG;simp -implicitDefEqProofs only[a1,Nat.add_zero,g3,b2,g4,g5,c0,sS,Nat.reduceAdd];refine Ev.eql (λhq=>?_) (λhq=>?_)<;>try simp -implicitDefEqProofs only[sS,Nat.reduceAdd]
   ·obtain⟨H6,g6,oj⟩:=KW.abw ht ND lG true;simp -implicitDefEqProofs only[g6,sS,Nat.reduceAdd];exact J0 _ _ _ _ _ _ oj
   ·obtain⟨H6,g6,oj⟩:=KW.abw ht ND lG false;simp -implicitDefEqProofs only[g6,sS,Nat.reduceAdd];exact J0 _ _ _ _ _ _ oj
 obtain⟨a0,a1,a2⟩:=L0 fP;simp -implicitDefEqProofs only[WI,bx,YT,Nat.add_zero,sS,Nat.reduceAdd];have bw':dL 34 (.agg #[cv (-9223372036854775808),cv 9223372036854775807,.bool false,cv 1,.bool true,aA,aA]) H1=some (pv w,H2):=bw;simp -implicitDefEqProofs only[bw',a0,Nat.add_zero,sS,Nat.reduceAdd];refine Ev.eql (λhq=>?_) (λhq=>?_)<;>try simp -implicitDefEqProofs only[a1,sS,Nat.reduceAdd]
 ·obtain⟨H3,g3,gG⟩:=KW.abu ht ND fP op.key;obtain⟨H4,g4,jh⟩:=KW.abv ht ND gG true;simp -implicitDefEqProofs only[g3,g4,sS,Nat.reduceAdd];exact J0 _ _ _ _ _ _ jh
 refine Ev.eql (λhq=>?_) (λhq=>?_)<;>try simp -implicitDefEqProofs only[a1,sS,Nat.reduceAdd]
 ·obtain⟨H3,g3,gG⟩:=KW.abt ht ND fP op.key;simp -implicitDefEqProofs only[Nat.add_zero,g3,sS,Nat.reduceAdd];exact J0 _ _ _ _ _ _ gG
 refine Ev.eql (λhq=>?_) (λhq=>?_)<;>try simp -implicitDefEqProofs only[a1,sS,Nat.reduceAdd]
 ·obtain⟨H3,g3,gG⟩:=KW.abv ht ND fP true;simp -implicitDefEqProofs only[g3,sS,Nat.reduceAdd];exact J0 _ _ _ _ _ _ gG
 refine Ev.eql (λhq=>?_) (λhq=>?_)<;>try simp -implicitDefEqProofs only[a1,sS,Nat.reduceAdd]
 ·exact J1 true _ _ _ _ _ fP
 refine Ev.eql (λhq=>?_) (λhq=>?_)<;>try simp -implicitDefEqProofs only[a1,sS,Nat.reduceAdd]
 ·exact J1 true _ _ _ _ _ fP
 ·exact J1 false _ _ _ _ _ fP
theorem Qh (h:J K p m H)(hs: ∀H o,K H o→gT H o q x l)(hl:l.length≤2147483648)(op:kp):aF (run G) 158 [jx op,x] H λv H'=>∃r s,v=gz r s∧J K p m H'∧((s=x∧r.list=l)∨(s=aA∧r.list=[])):=by
 refine Ev.up (t:=λk=>Xg (run G k) k (jx op) x H) ?_ λk=>R6 ..
 obtain⟨i0,e0⟩: ∃i,i=H.length:=⟨_,rfl⟩;obtain⟨i1,e1⟩: ∃i,i=H.length+1:=⟨_,rfl⟩;obtain⟨H1,gg⟩: ∃z,z=H.new ⟨n8 op,39,1,false⟩:=⟨_,rfl⟩;have l1:H1.length=H.length+1:=by rw[gg,cD]
 obtain⟨H2,iJ⟩: ∃z,z=H1.new ⟨rc bS,47,1,false⟩:=⟨_,rfl⟩;have fP:J K p m H2:=by rw[iJ,gg];exact(h.new _).new _
 have bx:=Dj op H;rw[←e0, ←gg] at bx;have n1:aV H1 47 1 [cv 0,.bool false,cv 0,cv 0,cv 0,aA]=(pv i1,H2):=by rw[iJ,e1, ←l1];rfl
 have g0:H2.get i0=some ⟨n8 op,39,1,false⟩:=by rw[iJ,dq (by omega),gg,e0];exact aL
 have g1:H2.get i1=some ⟨rc bS,47,1,false⟩:=by rw[iJ,e1, ←l1];exact aL
 have a0:aq (pv i0) H2=some (cv op.kind):=an i0 0 _ g0;obtain⟨_,o2,_,hk2⟩:=id fP;have VN:=hs _ _ hk2;obtain⟨xa,xc,ex⟩:=VN.isSlice;have fin: ∀(r:eQ) (s:Value),(∃a m c,s= .slice a m c)→∃H3,bE 6 (pv i1) (gz r s) H2=some (undef,H3)∧dh 6 (pv i1) H3=some (gz r s)∧J K p m H3:=λr s vn=>by
  obtain⟨a,mm,cc,es⟩:=vn;refine⟨_,ug i1 r es H2 g1 rfl,pV _ _ _ (aG g1),h.uL λo=>⟨(o.up H.length (-9)).up H1.length (-9),?_⟩⟩
  rw[iJ,gg];have f1:Fr H o (H.new ⟨n8 op,39,1,false⟩) (o.up H.length (-9)) []:=(Fr.refl H o []).new _ _;have f2:=f1.new ⟨rc bS,47,1,false⟩ (-9);exact f2.put λhh=>by omega
 simp -implicitDefEqProofs only[Xg,bx,n1,a0,Nat.add_zero,sS,Nat.reduceAdd];refine Ev.eql (λhq=>?_) (λhq=>?_)<;>try simp -implicitDefEqProofs only[sS,Nat.reduceAdd]
 ·obtain⟨H3,b1,b2,gG⟩:=fin ⟨0,false,0,0,0,l⟩ x ⟨_,_,_,ex⟩;have ab:aE Tryz.prog 47 [(4,x)]=some (gz ⟨0,false,0,0,0,l⟩ x):=by rw[ex];exact abl _ _ _
  simp -implicitDefEqProofs only[ab,b1,b2,sS,Nat.reduceAdd];exact Ev.ret ⟨_,_,rfl,gG,.inl ⟨rfl,rfl⟩⟩
 try simp -implicitDefEqProofs only[a0,sS,Nat.reduceAdd]
 refine Ev.eql (λhq=>?_) (λhq=>?_)<;>try simp -implicitDefEqProofs only[VN.len,sS,Nat.reduceAdd]
 ·obtain⟨H3,b1,b2,gG⟩:=fin ⟨0,false,0,0,l.length,[]⟩ aA ⟨_,_,_,rfl⟩;simp -implicitDefEqProofs only[adk,b1,b2,sS,Nat.reduceAdd];exact Ev.ret ⟨_,_,rfl,gG,.inr ⟨rfl,rfl⟩⟩
 refine Ev.eql (λhq=>?_) (λhq=>?_)<;>try simp -implicitDefEqProofs only[sS,Nat.reduceAdd]
 ·obtain⟨H3,b1,b2,gG⟩:=fin bS aA ⟨_,_,_,rfl⟩;simp -implicitDefEqProofs only[Dk,b1,b2,sS,Nat.reduceAdd];exact Ev.ret ⟨_,_,rfl,gG,.inr ⟨rfl,rfl⟩⟩
 ·obtain⟨i,off,b,e1,e2,e3,e4⟩:=VN.idx (j:=0) (by omega)
  obtain⟨e5,e6,e7⟩:=e4 H2 e2;simp only[Int.natCast_zero] at e1;obtain⟨H3,b1,b2,gG⟩:=fin (M6 ((l.getD 0 (0,0)).1,(l.getD 0 (0,0)).2,true)) aA ⟨_,_,_,rfl⟩;simp -implicitDefEqProofs only[e1,e7,YI,b1,b2,sS,Nat.reduceAdd];exact Ev.ret ⟨_,_,rfl,gG,.inr ⟨rfl,uh _⟩⟩
abbrev ads (K:aa→aj→Prop)(p c:Nat):Value→aa→Prop:=λv H'=>∃r s,v=gz r s∧r.list.length≤c∧∃m',J (λH o=>K H o∧gT H o (-41) s r.list) p m' H'∧m'≤c
theorem dH.relabel {x:Value}{l:List Int}(h:dH H o q x l)(k: ∀i,i<H.length→o i=q→o' i=q):dH H o' q x l:=⟨h.1,λb n c e dC=>⟨(h.2 b n c e dC).1,k _ (h.2 b n c e dC).1 (h.2 b n c e dC).2⟩⟩
theorem Av.relabel (h:Av H o p m)(k: ∀i,i<H.length→(o i=(p:Int)∨o i= -50∨o i= -51)→o' i=o i):Av H o' p m:=by
 obtain⟨tape,w,T,W,i,nk,na,nx,ny,rec,laid,ty,g,ho,ht,hT,hw,hi⟩:=h;exact⟨tape,w,T,W,i,nk,na,nx,ny,rec,laid,ty,g,by rw[k p (ar g) (.inl ho)];exact ho,dH.relabel ht λi hi hh=>by rw[k i hi (.inr (.inl hh))];exact hh,hT,dH.relabel hw λi hi hh=>by rw[k i hi (.inr (.inr hh))];exact hh,hi⟩
abbrev Nl (r:eQ)(s:Value):List Value:=[cv r.Fa,.bool r.found,cv r.key,cv r.value,cv r.n,s]
theorem TO (h:J K p m H)(hM:m≤2147483648)(op:kp)(bud:Int):aF (run G) 128 [pv p,jx op,cv bud] H (ads K p m):=by
 refine Ev.up (t:=λk=>WE (run G k) k (pv p) (jx op) (cv bud) H) ?_ λk=>RO ..
 obtain⟨hK,b,hr,hk⟩:=id h;obtain⟨i0,e0⟩: ∃i,i=H.length:=⟨_,rfl⟩;obtain⟨i1,e1⟩: ∃i,i=H.length+1:=⟨_,rfl⟩;obtain⟨t,YL,htf⟩:=gI b H.length;have ht:FM p t (t-1) (t-2):=⟨⟨by omega,by omega,by omega⟩,⟨by omega,by omega,by omega⟩,⟨by omega,by omega,by omega⟩,by omega,by omega,by omega⟩
 let KQ:aa→aj→Prop:=λH' o=>Fr H b H' o [t,t-1,t-2,(p:Int)]∧Cl i0 (n8 op) 39 H' o∧Cl i1 (rc bS) 47 H' o
 have hKQ:bH [(p:Int),t,t-1,t-2] KQ:=(bH.base (by simp)).and ((show bH _ _ from λH o H' o' a f=>a.fr f (by simp;omega)).and λH o H' o' a f=>a.fr f (by simp;omega))
 have Qi:bH [(p:Int)] KQ:=hKQ.of (by simp)
 obtain⟨H1,gg⟩: ∃z,z=H.new ⟨n8 op,39,1,false⟩:=⟨_,rfl⟩;have l1:H1.length=H.length+1:=by rw[gg,cD]
 obtain⟨H2,iJ⟩: ∃z,z=H1.new ⟨rc bS,47,1,false⟩:=⟨_,rfl⟩;have fK:J (λH' o=>Fr H b H' o [t,t-1,t-2,(p:Int)]∧Cl i0 (n8 op) 39 H' o) p m H1:=by
  rw[gg];have P9:J (λH' o=>Fr H b H' o [t,t-1,t-2,(p:Int)]) p m H:=⟨bH.base (by simp),b,hr,Fr.refl _ _ _⟩
  refine P9.nI _ _ 1 ((bH.base (by simp)).and λH o H' o' a f=>a.fr f (by simp)) λo hk f=>⟨hk.new _ _,?_⟩
  rw[e0];exact Cl.made
 have fP:J KQ p m H2:=by
  rw[iJ];refine fK.nI _ _ 1 Qi λo hk f=>⟨hk.1.new _ _,hk.2.new,?_⟩
  rw[e1, ←l1];exact Cl.made
 have bx:=Dj op H;rw[←e0, ←gg] at bx;have n1:aV H1 47 1 [cv 0,.bool false,cv 0,cv 0,cv 0,aA]=(pv i1,H2):=by rw[iJ,e1, ←l1];rfl
 have n9: ∀{m':Nat} {H':aa},J KQ p m' H'→aq (pv i0) H'=some (cv op.kind)∧aq (.pointer (some ⟨i0,1,none⟩)) H'=some (cv op.key)∧dh 3 (pv i0) H'=some (jx op):=λhj=>by
  obtain⟨_,o,_,_,g,_⟩:=hj;exact⟨an i0 0 _ g.1,an i0 1 _ g.1,Rf g.1⟩
 let KE:eQ→Value→aa→aj→Prop:=λr s H' o=>Fr H b H' o [t,t-1,t-2,(p:Int)]∧Cl i1 (Nl r s) 47 H' o∧gT H' o (t-1) s r.list
 have hKE: ∀r s,bH [(p:Int)] (KE r s):=λr s=>(bH.base (by simp)).and ((show bH _ _ from λH o H' o' a f=>a.fr f (by simp)).and λH o H' o' a f=>a.fr f (by simp;omega))
 have fin: ∀{m':Nat} {H':aa} (r:eQ) (s:Value),(∃a m c,s= .slice a m c)→J (λH o=>KQ H o∧gT H o (t-1) s r.list) p m' H'→∃H3,bE 6 (pv i1) (gz r s) H'=some (undef,H3)∧dh 6 (pv i1) H3=some (gz r s)∧J (KE r s) p m' H3:=λ{m' H'} r s vn hj=>by
  obtain⟨a,mm,cc,es⟩:=vn;obtain⟨_,o',sT,kn,VN⟩:=hj;have f:Fr H' o' (H'.put i1 ⟨Nl r s,47,1,false⟩) o' [-9]:=(Fr.refl _ o' [-9]).put λ_=>by simp[kn.2.2.2]
  exact⟨_,ug i1 r es _ kn.2.2.1 rfl,pV _ _ _ (aG kn.2.2.1),hKE r s,o',sT.fr f (by simp) (by simp) (by simp),kn.1.put λhh=>by omega,kn.2.2.self,VN.fr f (by simp;omega)⟩
 have out: ∀{m':Nat} {H':aa} {r:eQ} {s:Value},J (KE r s) p m' H'→J (λH o=>K H o∧gT H o (-41) s r.list) p m' H':=λ{m' H' r s} hj=>by
  obtain⟨_,o,u6,hf,hc,hs⟩:=hj;have f3:Fr H b H' o [(p:Int)]:=iS (iS (iS hf λi hi=>by have:=htf i hi;omega) λi hi=>by have:=htf i hi;omega) λi hi=>by have:=htf i hi;omega
  let o':aj:=λi=>if o i=t-1 then -41 else o i
  refine⟨hK.and (bH.kJ (by simp)),o',u6.relabel λi hi hh=>?_,hK _ _ _ _ hk ⟨f3.slot,λi hi=>?_,f3.size⟩,hs.relabel λi hi hh=>?_⟩
  ·show(if o i=t-1 then(-41:Int) else o i)=o i
   rw[if_neg (by omega)]
  ·show(if o i=t-1 then(-41:Int) else o i)=b i
   have:=f3.own i hi
   have:=htf i hi
   rw[if_neg (by omega)];exact f3.own i hi
  ·show(if o i=t-1 then(-41:Int) else o i)= -41
   rw[if_pos hh]
 have YU: ∀{m':Nat} {H':aa} (r:eQ),r.list=[]→J KQ p m' H'→∃H3,bE 6 (pv i1) (gz r aA) H'=some (undef,H3)∧dh 6 (pv i1) H3=some (gz r aA)∧J (KE r aA) p m' H3:=λr hl hj=>fin r aA ⟨_,_,_,rfl⟩ (hj.mono (Qi.and (bH.kJ (by simp;omega))) λo a=>⟨a,by rw[hl];exact .nil⟩)
 obtain⟨a0,a1,a2⟩:=n9 fP;simp -implicitDefEqProofs only[WE,bx,n1,a0,Nat.add_zero,sS,Nat.reduceAdd];refine Ev.eql (λhq=>?_) (λhq=>?_)<;>try simp -implicitDefEqProofs only[a1,sS,Nat.reduceAdd]
 ·refine Ev.ado (YP fP _) λz zb Hz mz hj hm=>?_
  obtain⟨b0,b1,b2⟩:=n9 hj;cases zb<;>simp -implicitDefEqProofs only[b1,sS,Nat.reduceAdd]
  ·obtain⟨H3,c1,c2,gG⟩:=YU bS rfl hj;simp -implicitDefEqProofs only[Dk,c1,c2,sS,Nat.reduceAdd];exact Ev.ret ⟨_,_,rfl,by simp[bS],_,out gG,by omega⟩
  ·obtain⟨H3,c1,c2,gG⟩:=YU (M6 (op.key,z,true)) (uh _) hj;simp -implicitDefEqProofs only[zt,YI,c1,c2,sS,Nat.reduceAdd];exact Ev.ret ⟨_,_,rfl,by rw[uh];simp,_,out gG,by omega⟩
 refine Ev.loop (k:=m) (λk vs Hx=>∃(i:Int) (aI x8 bB x7 dp aC cH eZ:Value),J KQ p k Hx∧k≤m∧vs=[pv p,jx op,cv bud,pv i1,pv i0,aI,x8,bB,x7,cv i,dp,aC,cH,eZ])
  (λr=>∃(m2:Nat) (aI x8 bB x7 x9 dp aC cH eZ:Value),m2≤m∧r.2.1=[pv p,jx op,cv bud,pv i1,pv i0,aI,x8,bB,x7,x9,dp,aC,cH,eZ]∧((r.1= .exit 0∧J KQ p m2 r.2.2)∨(r.1= .ret∧∃rr s,J (KE rr s) p m2 r.2.2∧rr.list.length≤m))) ⟨_,_,_,_,_,_,_,_,_,fP,Nat.le_refl _,rfl⟩ ?_ ?_
 ·rintro k vs Hx ⟨i,aI,x8,bB,x7,dp,aC,cH,eZ,hj,hkm,rfl⟩;obtain⟨b0,b1,b2⟩:=n9 hj;simp -implicitDefEqProofs only[K6,xw,sS,Nat.reduceAdd];refine Ev.lss (λhq=>?_) (λhq=>?_)<;>try simp -implicitDefEqProofs only[sS,Nat.reduceAdd]
  ·refine Ev.off hj (λhq0=>?_) (λhq0=>?_)<;>try simp -implicitDefEqProofs only[b2,sS,Nat.reduceAdd]
   ·exact Ev.ret (.inr ⟨by simp,_,_,_,_,_,_,_,_,_,_,hkm,rfl,.inl ⟨rfl,hj⟩⟩)
   refine Ev.call (TN ht ⟨by omega,by omega,by omega⟩ hKQ hj op) ?_
   rintro v H3 ⟨w,s,rfl,hj⟩
   try simp -implicitDefEqProofs only[sS,Nat.reduceAdd]
   refine Ev.gw (Nk ht hKQ (c:=m) hM (k+1) hj (by omega) (by simp;omega) (by simp;omega) _) λz lp ls m2 H4 hj Ku g1 g2=>?_
   have hjq:=hj.mono Qi λo a=>a.1
   try simp -implicitDefEqProofs only[sS,Nat.reduceAdd]
   refine Ev.off hj (λkn=>?_) (λkn=>?_)<;>try simp -implicitDefEqProofs only[sS,Nat.reduceAdd]
   ·exact Ev.ret (.inr ⟨by simp,_,_,_,_,_,_,_,_,_,_,(show m2≤m by omega),rfl,.inl ⟨rfl,hjq⟩⟩)
   obtain⟨xp,xs,TP⟩:=KW.ex hj ht hKQ;have ldx: ∀{m':Nat} {H':aa},J (KWx KQ t (t-1) (t-2) w s xp xs lp ls) p m' H'→aq (.pointer (some ⟨w,6,none⟩)) H'=some xs∧aq (.pointer (some ⟨w,5,none⟩)) H'=some xp∧dh 3 (pv i0) H'=some (jx op):=λhj=>by
    obtain⟨_,o,_,hx⟩:=hj;obtain⟨ty,g⟩:=hx.g;exact⟨an w 6 _ g,an w 5 _ g,Rf hx.k.2.1.1⟩
   obtain⟨c0,c1,c2⟩:=ldx TP;simp -implicitDefEqProofs only[c0,sS,Nat.reduceAdd];refine Ev.bool (TL TP (λH o a=>a.ss.r) (by omega) (by omega)) λz Hz mz NC hmz=>?_
   have adt:=NC.mono Qi λo a=>a.k
   obtain⟨d0,d1,d2⟩:=ldx NC;cases z<;>simp -implicitDefEqProofs only[d1,d2,sS,Nat.reduceAdd]
   ·exact Ev.ret (.inl ⟨rfl,mz,by omega,_,_,_,_,_,_,_,_,_,adt,by omega,rfl⟩)
   ·refine Ev.call (Qh NC (λH o a=>a.sp.r) (by omega) op) ?_
    rintro v H5 ⟨r,s',rfl,lG,Uy⟩;have aac: ∃a m c,s'= .slice a m c:=by
     rcases Uy with⟨rfl,_⟩|⟨rfl,_⟩
     ·obtain⟨_,o,_,hx⟩:=TP;obtain⟨a,c,e⟩:=hx.sp.r.isSlice;exact⟨a,_,c,e⟩
     ·exact⟨_,_,_,rfl⟩
    have oj:J (λH o=>KQ H o∧gT H o (t-1) s' r.list) p mz H5:=lG.mono (Qi.and (bH.kJ (by simp;omega))) λo a=>⟨a.k,by
     rcases Uy with⟨rfl,e⟩|⟨rfl,e⟩
     ·rw[e];exact a.sp.r
     ·rw[e];exact .nil⟩
    obtain⟨H6,g5,g6,Dg⟩:=fin r s' aac oj;simp -implicitDefEqProofs only[g5,sS,Nat.reduceAdd];refine Ev.ret (.inr ⟨by simp,_,_,_,_,_,_,_,_,_,_,(show mz≤m by omega),rfl,.inr ⟨rfl,r,s',Dg,?_⟩⟩)
    rcases Uy with⟨_,e⟩|⟨_,e⟩
    ·rw[e];omega
    ·rw[e];simp
  ·exact Ev.ret (.inr ⟨by simp,_,_,_,_,_,_,_,_,_,_,hkm,rfl,.inl ⟨rfl,hj⟩⟩)
 ·rintro e vs Hx ⟨m2,aI,x8,bB,x7,x9,dp,aC,cH,eZ,hm,rfl,he⟩;rcases he with⟨he,hj⟩|⟨he,rr,s,hj,hl⟩
  ·simp only at he;subst he;obtain⟨H6,g5,g6,lG⟩:=YU (lO 9) rfl hj;simp -implicitDefEqProofs only[K4,xv,M7,g5,g6,sS,Nat.reduceAdd];exact Ev.ret ⟨_,_,rfl,by simp[lO],_,out lG,hm⟩
  ·simp only at he;subst he;obtain⟨_,o1,_,_,hc,_⟩:=id hj;have Vc:=pV i1 rr (s:=s) Hx hc.1;show Ev (λ_=>af (pS (jj Tryz.prog 47 (pv i1) Hx) Hx) λv _=>some (v,Hx)) _
   simp -implicitDefEqProofs only[YN,Vc,sS,Nat.reduceAdd];exact Ev.ret ⟨_,_,rfl,hl,_,out hj,hm⟩
end
end Go.Proofs.YtgfgglponbmgmaaGreat.Fun.R
end
