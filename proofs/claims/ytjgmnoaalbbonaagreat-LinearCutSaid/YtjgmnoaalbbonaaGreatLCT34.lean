/- Texts of the proof of linearCut_holds, put together by a small program of ours (names shortened, spaces taken out). No condition beyond the given statement. -/
import Derived.Test.YtjgmnoaalbbonaaGreatLCT15
import Derived.Test.YtjgmnoaalbbonaaGreatLCT16
import Derived.Test.YtjgmnoaalbbonaaGreatLCT19
import Derived.Test.YtjgmnoaalbbonaaGreatLCT22
import Derived.Test.YtjgmnoaalbbonaaGreatLCT33
set_option linter.unusedVariables false
set_option linter.unusedSimpArgs false
set_option linter.unnecessarySimpa false
noncomputable section
section
namespace Go.Proofs.YtjgmnoaalbbonaaGreat.Fun
open Go Go.RowKit Go.Proofs.YtjgmnoaalbbonaaGreatA.Am
set_option maxRecDepth 10000
section
variable {G:ae} {H H':aa} {o o':aj} {p m c:Nat} {K K':aa→aj→Prop} {t t1 t2 q:Int} {x:Value} {l lp ls:PL} {n i:Nat} {cs:List Value} {T:TypeId}
structure WS where
 lo:Int
 hi:Int
 back:Bool
 PB:Int
 values:Bool
abbrev Mb (s:WS)(xp xs:Value):List Value:=[cv s.lo,cv s.hi,.bool s.back,cv s.PB,.bool s.values,xp,xs]
def KW (K:aa→aj→Prop)(t t1 t2:Int)(w:Nat)(s:WS)(lp ls:PL)(H:aa)(o:aj):Prop:=
 K H o∧∃xp xs ty,H.get w=some ⟨Mb s xp xs,ty,1,false⟩∧o w=t∧gu H o t1 xp lp∧gu H o t2 xs ls
structure FF (p:Nat) (t t1 t2:Int):Prop where
 a:pR t p
 a1:pR t1 p
 a2:pR t2 p
 d1:t≠t1
 d2:t≠t2
 d3:t1≠t2
theorem gu.isSlice {s:Value}(h:gu H o q s l): ∃a c,s= .slice a l.length c:=h.r.isSlice
section
variable {w:Nat} {s:WS}
theorem KW.iK (ht:FF p t t1 t2)(hK:cI [(p:Int),t,t1,t2] K):cI [(p:Int)] (KW K t t1 t2 w s lp ls):=λH o H' o' h f=>by
 obtain⟨hk,xp,xs,ty,g,ho,h1,h2⟩:=h;exact⟨hK _ _ _ _ hk (f.wk (by simp)),xp,xs,ty,by rw[f.same w (an g) (by rw[ho];simpa using ht.a.ne)];exact g,by rw[f.own w (an g)];exact ho,gu.fr h1 f (by simpa using ht.a1.ne),gu.fr h2 f (by simpa using ht.a2.ne)⟩
theorem KW.oR (h:J (KW K t t1 t2 w s lp ls) p m H):aq (pv w) H=some (cv s.lo)∧aq (.pointer (some ⟨w,1,none⟩)) H=some (cv s.hi)∧aq (.pointer (some ⟨w,2,none⟩)) H=some (.bool s.back)∧aq (.pointer (some ⟨w,3,none⟩)) H=some (cv s.PB)∧aq (.pointer (some ⟨w,4,none⟩)) H=some (.bool s.values):=by
 obtain⟨_,o,_,_,xp,xs,ty,g,_⟩:=h;exact⟨ak w 0 _ g,ak w 1 _ g,ak w 2 _ g,ak w 3 _ g,ak w 4 _ g⟩
theorem KW.len (h:J (KW K t t1 t2 w s lp ls) p m H): ∃xp,aq (.pointer (some ⟨w,5,none⟩)) H=some xp∧cw xp=some (cv lp.length):=by
 obtain⟨_,o,_,_,xp,xs,ty,g,ho,h1,h2⟩:=h;exact⟨xp,ak w 5 _ g,h1.r.len⟩
theorem KW.adg (ht:FF p t t1 t2)(hK:cI [(p:Int),t,t1,t2] K)(h:J (KW K t t1 t2 w s lp ls) p m H)(hb:lp.length+1≤4294967296): ∃xp,aq (.pointer (some ⟨w,5,none⟩)) H=some xp∧∀(T ty:TypeId) (a b:Int),∃x' l' H1 H2,
  cg T 2 16 xp (.slice (some ⟨H.length,0,none⟩) 1 1) (H.new ⟨[cv a,cv b],ty,2,false⟩)=some (x',H1)∧bS 1 (.pointer (some ⟨w,5,none⟩)) x' H1=some (undef,H2)∧J (KW K t t1 t2 w s l' ls) p m H2∧l'.length=lp.length+1:=by
 obtain⟨_,o,hr,hk,xp,xs,ty,g,ho,h1,h2⟩:=h;refine⟨xp,ak w 5 _ g,λT mo a b=>?_⟩
 have f1:Fr H o (H.new ⟨[cv a,cv b],mo,2,false⟩) (o.up H.length (-9)) [t1]:=(Fr.refl H o [t1]).new _ _;have rO:Fr H o (H.new ⟨[cv a,cv b],mo,2,false⟩) (o.up H.length (-9)) []:=(Fr.refl H o []).new _ _;obtain⟨x',H2,o2,e,s2,f2,_⟩:=gu.app (y:=.slice (some ⟨H.length,0,none⟩) 1 1) (m:=[(a,b)]) T (gu.fr h1 rO (by simp)) (Src.one ay) (by simpa using hb)
 have f3:=f1.tr f2;have g2:H2.get w=some ⟨Mb s xp xs,ty,1,false⟩:=by rw[f3.same w (an g) (by rw[ho];simpa using ht.d1)];exact g
 have Ee:o2 w=t:=by rw[f3.own w (an g)];exact ho
 obtain⟨ba,bc,ex⟩:=gu.isSlice s2;obtain⟨H3,e3⟩: ∃z,z=H2.put w ⟨Mb s x' xs,ty,1,false⟩:=⟨_,rfl⟩;have f4:Fr H2 o2 H3 o2 [t]:=by rw[e3];exact(Fr.refl H2 o2 [t]).put λ_=>by simp[Ee]
 have f5:Fr H o H3 o2 [t,t1]:=f3.trans f4 (by simp) (by simp)
 refine⟨x',lp++[(a,b)],H2,H3,e,?_,⟨KW.iK ht hK,o2,hr.fr f5 ?_ ?_ ?_,hK _ _ _ _ hk (f5.wk (by simp)),x',xs,ty,by rw[e3];exact aD g2,Ee,gu.fr s2 f4 ?_,gu.fr h2 f5 ?_⟩,by simp⟩
 ·rw[ex,xk w 5 ba _ bc H2 g2 rfl (by simp),e3,ex];rfl
 ·have:=ht.a.ne;have:=ht.a1.ne;simp;omega
 ·have:=ht.a.n0;have:=ht.a1.n0;simp;omega
 ·have:=ht.a.n1;have:=ht.a1.n1;simp;omega
 ·have:=ht.d1;have:=ht.d2;have:=ht.d3;simp;omega
 ·have:=ht.d1;have:=ht.d2;have:=ht.d3;simp;omega
theorem KW.adh (ht:FF p t t1 t2)(hK:cI [(p:Int),t,t1,t2] K)(h:J (KW K t t1 t2 w s lp ls) p m H)(hb:ls.length+1≤4294967296): ∃xp,aq (.pointer (some ⟨w,6,none⟩)) H=some xp∧∀(T ty:TypeId) (a b:Int),∃x' l' H1 H2,
  cg T 2 16 xp (.slice (some ⟨H.length,0,none⟩) 1 1) (H.new ⟨[cv a,cv b],ty,2,false⟩)=some (x',H1)∧bS 1 (.pointer (some ⟨w,6,none⟩)) x' H1=some (undef,H2)∧J (KW K t t1 t2 w s lp l') p m H2∧l'.length=ls.length+1:=by
 obtain⟨_,o,hr,hk,xp,xs,ty,g,ho,h1,h2⟩:=h;refine⟨xs,ak w 6 _ g,λT mo a b=>?_⟩
 have f1:Fr H o (H.new ⟨[cv a,cv b],mo,2,false⟩) (o.up H.length (-9)) [t2]:=(Fr.refl H o [t2]).new _ _;have rO:Fr H o (H.new ⟨[cv a,cv b],mo,2,false⟩) (o.up H.length (-9)) []:=(Fr.refl H o []).new _ _;obtain⟨x',H2,o2,e,s2,f2,_⟩:=gu.app (y:=.slice (some ⟨H.length,0,none⟩) 1 1) (m:=[(a,b)]) T (gu.fr h2 rO (by simp)) (Src.one ay) (by simpa using hb)
 have f3:=f1.tr f2;have g2:H2.get w=some ⟨Mb s xp xs,ty,1,false⟩:=by rw[f3.same w (an g) (by rw[ho];simpa using ht.d2)];exact g
 have Ee:o2 w=t:=by rw[f3.own w (an g)];exact ho
 obtain⟨ba,bc,ex⟩:=gu.isSlice s2;obtain⟨H3,e3⟩: ∃z,z=H2.put w ⟨Mb s xp x',ty,1,false⟩:=⟨_,rfl⟩;have f4:Fr H2 o2 H3 o2 [t]:=by rw[e3];exact(Fr.refl H2 o2 [t]).put λ_=>by simp[Ee]
 have f5:Fr H o H3 o2 [t,t2]:=f3.trans f4 (by simp) (by simp)
 refine⟨x',ls++[(a,b)],H2,H3,e,?_,⟨KW.iK ht hK,o2,hr.fr f5 ?_ ?_ ?_,hK _ _ _ _ hk (f5.wk (by simp)),xp,x',ty,by rw[e3];exact aD g2,Ee,gu.fr h1 f5 ?_,gu.fr s2 f4 ?_⟩,by simp⟩
 ·rw[ex,xk w 6 ba _ bc H2 g2 rfl (by simp),e3,ex];rfl
 ·have:=ht.a.ne;have:=ht.a2.ne;simp;omega
 ·have:=ht.a.n0;have:=ht.a2.n0;simp;omega
 ·have:=ht.a.n1;have:=ht.a2.n1;simp;omega
 ·have:=ht.d1;have:=ht.d2;have:=ht.d3;simp;omega
 ·have:=ht.d1;have:=ht.d2;have:=ht.d3;simp;omega
theorem KW.aa7 (ht:FF p t t1 t2)(hK:cI [(p:Int),t,t1,t2] K)(h:J (KW K t t1 t2 w s lp ls) p m H)(v:Int): ∃H2,bS 1 (pv w) (cv v) H=some (undef,H2)∧J (KW K t t1 t2 w {s with lo:=v} lp ls) p m H2:=by
 obtain⟨_,o,hr,hk,xp,xs,ty,g,ho,h1,h2⟩:=h;have f:Fr H o (H.put w ⟨Mb {s with lo:=v} xp xs,ty,1,false⟩) o [t]:=(Fr.refl H o [t]).put λ_=>by simp[ho]
 refine⟨_,kE w 0 (cv v) H g rfl (by simp) rfl rfl rfl,KW.iK ht hK,o,hr.fr f ?_ ?_ ?_,hK _ _ _ _ hk (f.wk (by simp)),xp,xs,ty,aD g,ho,gu.fr h1 f ?_,gu.fr h2 f ?_⟩
 ·have:=ht.a.ne;simp;omega
 ·have:=ht.a.n0;simp;omega
 ·have:=ht.a.n1;simp;omega
 ·have:=ht.d1;simp;omega
 ·have:=ht.d2;simp;omega
theorem KW.aa8 (ht:FF p t t1 t2)(hK:cI [(p:Int),t,t1,t2] K)(h:J (KW K t t1 t2 w s lp ls) p m H)(v:Int): ∃H2,bS 1 (.pointer (some ⟨w,1,none⟩)) (cv v) H=some (undef,H2)∧J (KW K t t1 t2 w {s with hi:=v} lp ls) p m H2:=by
 obtain⟨_,o,hr,hk,xp,xs,ty,g,ho,h1,h2⟩:=h;have f:Fr H o (H.put w ⟨Mb {s with hi:=v} xp xs,ty,1,false⟩) o [t]:=(Fr.refl H o [t]).put λ_=>by simp[ho]
 refine⟨_,kE w 1 (cv v) H g rfl (by simp) rfl rfl rfl,KW.iK ht hK,o,hr.fr f ?_ ?_ ?_,hK _ _ _ _ hk (f.wk (by simp)),xp,xs,ty,aD g,ho,gu.fr h1 f ?_,gu.fr h2 f ?_⟩
 ·have:=ht.a.ne;simp;omega
 ·have:=ht.a.n0;simp;omega
 ·have:=ht.a.n1;simp;omega
 ·have:=ht.d1;simp;omega
 ·have:=ht.d2;simp;omega
theorem KW.Pz (ht:FF p t t1 t2)(hK:cI [(p:Int),t,t1,t2] K)(h:J (KW K t t1 t2 w s lp ls) p m H)(v:Bool): ∃H2,bS 1 (.pointer (some ⟨w,2,none⟩)) (.bool v) H=some (undef,H2)∧J (KW K t t1 t2 w {s with back:=v} lp ls) p m H2:=by
 obtain⟨_,o,hr,hk,xp,xs,ty,g,ho,h1,h2⟩:=h;have f:Fr H o (H.put w ⟨Mb {s with back:=v} xp xs,ty,1,false⟩) o [t]:=(Fr.refl H o [t]).put λ_=>by simp[ho]
 refine⟨_,kE w 2 (.bool v) H g rfl (by simp) rfl rfl rfl,KW.iK ht hK,o,hr.fr f ?_ ?_ ?_,hK _ _ _ _ hk (f.wk (by simp)),xp,xs,ty,aD g,ho,gu.fr h1 f ?_,gu.fr h2 f ?_⟩
 ·have:=ht.a.ne;simp;omega
 ·have:=ht.a.n0;simp;omega
 ·have:=ht.a.n1;simp;omega
 ·have:=ht.d1;simp;omega
 ·have:=ht.d2;simp;omega
theorem KW.adi (ht:FF p t t1 t2)(hK:cI [(p:Int),t,t1,t2] K)(h:J (KW K t t1 t2 w s lp ls) p m H)(v:Int): ∃H2,bS 1 (.pointer (some ⟨w,3,none⟩)) (cv v) H=some (undef,H2)∧J (KW K t t1 t2 w {s with PB:=v} lp ls) p m H2:=by
 obtain⟨_,o,hr,hk,xp,xs,ty,g,ho,h1,h2⟩:=h;have f:Fr H o (H.put w ⟨Mb {s with PB:=v} xp xs,ty,1,false⟩) o [t]:=(Fr.refl H o [t]).put λ_=>by simp[ho]
 refine⟨_,kE w 3 (cv v) H g rfl (by simp) rfl rfl rfl,KW.iK ht hK,o,hr.fr f ?_ ?_ ?_,hK _ _ _ _ hk (f.wk (by simp)),xp,xs,ty,aD g,ho,gu.fr h1 f ?_,gu.fr h2 f ?_⟩
 ·have:=ht.a.ne;simp;omega
 ·have:=ht.a.n0;simp;omega
 ·have:=ht.a.n1;simp;omega
 ·have:=ht.d1;simp;omega
 ·have:=ht.d2;simp;omega
theorem KW.aa9 (ht:FF p t t1 t2)(hK:cI [(p:Int),t,t1,t2] K)(h:J (KW K t t1 t2 w s lp ls) p m H)(v:Bool): ∃H2,bS 1 (.pointer (some ⟨w,4,none⟩)) (.bool v) H=some (undef,H2)∧J (KW K t t1 t2 w {s with values:=v} lp ls) p m H2:=by
 obtain⟨_,o,hr,hk,xp,xs,ty,g,ho,h1,h2⟩:=h;have f:Fr H o (H.put w ⟨Mb {s with values:=v} xp xs,ty,1,false⟩) o [t]:=(Fr.refl H o [t]).put λ_=>by simp[ho]
 refine⟨_,kE w 4 (.bool v) H g rfl (by simp) rfl rfl rfl,KW.iK ht hK,o,hr.fr f ?_ ?_ ?_,hK _ _ _ _ hk (f.wk (by simp)),xp,xs,ty,aD g,ho,gu.fr h1 f ?_,gu.fr h2 f ?_⟩
 ·have:=ht.a.ne;simp;omega
 ·have:=ht.a.n0;simp;omega
 ·have:=ht.a.n1;simp;omega
 ·have:=ht.d1;simp;omega
 ·have:=ht.d2;simp;omega
end
abbrev GW (K:aa→aj→Prop)(t t1 t2:Int)(w:Nat)(s:WS)(c p mm:Nat):Value→aa→Prop:=λv H'=>∃z lp' ls' m',v= .bool z∧J (KW K t t1 t2 w s lp' ls') p m' H'∧m'≤mm∧lp'.length+m'≤c∧ls'.length+m'≤c
section
variable {w:Nat} {s:WS}
theorem SN (ht:FF p t t1 t2)(hK:cI [(p:Int),t,t1,t2] K)(hc:c≤2147483648)(h:J (KW K t t1 t2 w s lp ls) p m H)(h1:lp.length+m≤c)(h2:ls.length+m≤c)(h3:m≠0)(a:Int):
  bA (run G) 166 [pv w,pv p,cv a] H (GW K t t1 t2 w s c p (m-1)):=by
 refine Ev.up (t:=λk=>VL (run G k) k (pv w) (pv p) (cv a) H) ?_ λk=>Q2 ..
 simp -implicitDefEqProofs only[VL,sS,Nat.reduceAdd];refine Ev.num (cE h _) λzq Hz mz hj hm=>?_
 obtain⟨a0,a1,a2,a3,a4⟩:=KW.oR hj;have J0: ∀{m1:Nat} {H1:aa} (v:Int) (x6 cx cy:Value),J (KW K t t1 t2 w s lp ls) p m1 H1→m1≤m-1→Ev (λk=>vU (run G k) k [pv w,pv p,cv a,x6,cv zq,cx,cy,cv v] H1) λr=>GW K t t1 t2 w s c p (m-1) r.1 r.2:=by
  intro m1 H1 v x6 cx cy hj hm;obtain⟨xp,b0,b1⟩:=KW.adg ht hK hj (by omega)
  obtain⟨x',l',H2,H3,b2,b3,kg,hl⟩:=b1 42 42 zq v;obtain⟨a0,a1,a2,a3,a4⟩:=KW.oR kg;obtain⟨xq,b4,b5⟩:=KW.len kg;simp -implicitDefEqProofs only[Kb,xY,b0,zN,Hj,b2,b3,a3,sS,Nat.reduceAdd];refine Ev.gtr (λhq=>?_) (λhq=>?_)<;>try simp -implicitDefEqProofs only[b4,b5,a3,sS,Nat.reduceAdd]
  ·refine Ev.geq (λhq=>?_) (λhq=>?_)<;>try simp -implicitDefEqProofs only[sS,Nat.reduceAdd]
   ·exact Ev.ret ⟨_,_,_,_,rfl,kg,by omega,by omega,by omega⟩
   ·exact Ev.ret ⟨_,_,_,_,rfl,kg,by omega,by omega,by omega⟩
  ·exact Ev.ret ⟨_,_,_,_,rfl,kg,by omega,by omega,by omega⟩
 simp -implicitDefEqProofs only[a0,sS,Nat.reduceAdd];refine Ev.lss (λhq=>?_) (λhq=>?_)<;>try simp -implicitDefEqProofs only[a1,sS,Nat.reduceAdd]
 ·exact Ev.ret ⟨_,_,_,_,rfl,hj,by omega,by omega,by omega⟩
 refine Ev.gtr (λhq=>?_) (λhq=>?_)<;>try simp -implicitDefEqProofs only[a4,sS,Nat.reduceAdd]
 ·exact Ev.ret ⟨_,_,_,_,rfl,hj,by omega,by omega,by omega⟩
 cases hv:s.values<;>try simp -implicitDefEqProofs only[sS,Nat.reduceAdd]
 ·exact J0 _ _ _ _ hj hm
 ·refine Ev.num (cE hj _) λzv Hz mz hj hm=>?_
  exact J0 _ _ _ _ hj (by omega)
theorem Ev.gw {α:Type}{k:Nat→Value→aa→Option α}{Q:α→Prop}{C:Nat→ae}{f:Nat}{args:List Value}{mm:Nat}(h:bA C f args H (GW K t t1 t2 w s c p mm))(hk: ∀z lp ls m' H',J (KW K t t1 t2 w s lp ls) p m' H'→m'≤mm→lp.length+m'≤c→ls.length+m'≤c→Ev (λn=>k n (.bool z) H') Q):Ev (λn=>af (C n f args H) (k n)) Q:=
 Ev.call h λv H' hq=>by obtain⟨z,lp,ls,m',rfl,h1,h2,h3,h4⟩:=hq;exact hk z lp ls m' H' h1 h2 h3 h4
theorem SO (ht:FF p t t1 t2)(hK:cI [(p:Int),t,t1,t2] K)(hc:c≤2147483648){M:Nat}(ih: ∀{m:Nat} {lp ls:PL} {H:aa},J (KW K t t1 t2 w s lp ls) p m H→m<M→lp.length+m≤c→ls.length+m≤c→∀a,bA (run G) 136 [pv w,pv p,cv a] H (GW K t t1 t2 w s c p (m-1)))(h:J (KW K t t1 t2 w s lp ls) p m H)(hM:m<M)(h1:lp.length+m≤c)(h2:ls.length+m≤c)(h3:m≠0)(a:Int):
  bA (run G) 152 [pv w,pv p,cv a] H (GW K t t1 t2 w s c p m):=by
 refine Ev.up (t:=λk=>VY (run G k) k (pv w) (pv p) (cv a) H) ?_ λk=>Rf ..
 simp -implicitDefEqProofs only[VY,sS,Nat.reduceAdd];refine Ev.az (gT _) λza=>?_
 refine Ev.az (dj _) λzk=>?_
 try simp -implicitDefEqProofs only[sS,Nat.reduceAdd]
 refine Ev.eql (λhq=>?_) (λhq=>?_)<;>try simp -implicitDefEqProofs only[sS,Nat.reduceAdd]
 ·refine Ev.gw (SN ht hK hc h h1 h2 h3 _) λz lp ls m' H' hj hm g1 g2=>?_
  try simp -implicitDefEqProofs only[sS,Nat.reduceAdd]
  exact Ev.ret ⟨_,_,_,_,rfl,hj,by omega,g1,g2⟩
 refine Ev.eql (λhq=>?_) (λhq=>?_)<;>try simp -implicitDefEqProofs only[sS,Nat.reduceAdd]
 ·refine Ev.gw (ih h hM h1 h2 _) λz lp ls m' H' hj hm g1 g2=>?_
  try simp -implicitDefEqProofs only[sS,Nat.reduceAdd]
  exact Ev.ret ⟨_,_,_,_,rfl,hj,by omega,g1,g2⟩
 refine Ev.eql (λhq=>?_) (λhq=>?_)<;>try simp -implicitDefEqProofs only[sS,Nat.reduceAdd]
 ·refine Ev.num (cE h _) λzr Hz mz hj hm=>?_
  refine Ev.az (gT _) λza2=>?_
  refine Ev.gw (ih hj (by omega) (by omega) (by omega) _) λz lp ls m' H' hj hm g1 g2=>?_
  try simp -implicitDefEqProofs only[sS,Nat.reduceAdd]
  exact Ev.ret ⟨_,_,_,_,rfl,hj,by omega,g1,g2⟩
 ·exact Ev.ret ⟨_,_,_,_,rfl,h,by omega,h1,h2⟩
theorem Ys (a b:Int):aE Tryz.prog 205 [(0,cv a),(1,cv b)]=some (.agg #[cv a,cv b]):=by kernel_rfl
theorem Yt (a b:Int)(H:aa):au Tryz.prog 133 1 [(0,.agg #[cv a,cv b])] H=some (.slice (some ⟨H.length,0,none⟩) 1 1,H.new ⟨[cv a,cv b],205,2,false⟩):=by kernel_rfl
theorem Mc (ht:FF p t t1 t2)(hK:cI [(p:Int),t,t1,t2] K)(hc:c≤2147483648): ∀(M:Nat) {m:Nat} {lp ls:PL} {H:aa},J (KW K t t1 t2 w s lp ls) p m H→m<M→lp.length+m≤c→ls.length+m≤c→∀a,bA (run G) 136 [pv w,pv p,cv a] H (GW K t t1 t2 w s c p (m-1)):=by
 intro M;induction M with
 |zero=>intro m lp ls H h hM;omega
 |succ M ih=>
 intro m lp ls H h hM h1 h2 a;refine Ev.up (t:=λk=>XF (run G k) k (pv w) (pv p) (cv a) H) ?_ λk=>Sg ..
 obtain⟨a0,a1,a2,a3,a4⟩:=KW.oR h;have J0: ∀(x6 bF bN x8 x9 aG dD aN fw gv kY CB:Value) (f:Int),Ev (λk=>wj (run G k) k [pv w,pv p,cv a,x6,bF,cv f,bN,x8,x9,aG,dD,aN,fw,gv,kY,CB] H) λr=>GW K t t1 t2 w s c p (m-1) r.1 r.2:=by
  intro x6 bF bN x8 x9 aG dD aN fw gv kY CB f;simp -implicitDefEqProofs only[Lk,zi,sS,Nat.reduceAdd];refine Ev.jt (df h _ _) λd i Hz mz hj hm=>?_
  simp -implicitDefEqProofs only[sS,Nat.reduceAdd];refine Ev.loop (k:=mz) (λk vs Hx=>∃(lp ls:PL) (i:Int) (x6 bF x7 bN aG dD aN fw gv kY CB:Value),J (KW K t t1 t2 w s lp ls) p k Hx∧k≤mz∧lp.length+k≤c∧ls.length+k≤c∧vs=[pv w,pv p,cv a,x6,bF,x7,bN,cv d,cv i,aG,dD,aN,fw,gv,kY,CB])
   (λr=>∃(lp ls:PL) (m2:Nat) (x9 x6 bF x7 bN aG dD aN fw gv kY CB:Value),J (KW K t t1 t2 w s lp ls) p m2 r.2.2∧m2≤m-1∧lp.length+m2≤c∧ls.length+m2≤c∧r.2.1=[pv w,pv p,cv a,x6,bF,x7,bN,cv d,x9,aG,dD,aN,fw,gv,kY,CB]∧(r.1= .exit 0∨(r.1= .ret∧∃z,x6= .bool z))) ⟨_,_,_,_,_,_,_,_,_,_,_,_,_,_,hj,Nat.le_refl _,by omega,by omega,rfl⟩ ?_ ?_
  ·rintro k vs Hx ⟨lp,ls,i,x6,bF,x7,bN,aG,dD,aN,fw,gv,kY,CB,hj,hk,g1,g2,rfl⟩;simp -implicitDefEqProofs only[Lj,zh,sS,Nat.reduceAdd];refine Ev.off hj (λhq=>?_) (λhq=>?_)<;>try simp -implicitDefEqProofs only[sS,Nat.reduceAdd]
   ·exact Ev.ret (.inr ⟨by simp,_,_,_,_,_,_,_,_,_,_,_,_,_,_,_,hj,by omega,g1,g2,rfl,.inl rfl⟩)
   refine Ev.az (bH _ _ _) λzc=>?_
   refine Ev.num (eI hj _) λzw Hz mz2 hj DP=>?_
   try simp -implicitDefEqProofs only[sS,Nat.reduceAdd]
   refine Ev.off hj (λhq=>?_) (λhq=>?_)<;>try simp -implicitDefEqProofs only[sS,Nat.reduceAdd]
   ·exact Ev.ret (.inr ⟨by simp,_,_,_,_,_,_,_,_,_,_,_,_,_,_,_,hj,by omega,by omega,by omega,rfl,.inl rfl⟩)
   obtain⟨xp,b0,b1⟩:=KW.adh ht hK hj (by omega)
   obtain⟨x',l',H2,H3,b2,b3,kg,hl⟩:=b1 205 205 zc zw;simp -implicitDefEqProofs only[b0,Ys,Yt,b2,b3,sS,Nat.reduceAdd];refine Ev.gw (SO ht hK hc (M:=M) (λ{m lp ls H} hj hM g1 g2 a=>ih hj hM g1 g2 a) kg (by omega) (by omega) (by omega) (by omega) _) λz lp ls m' H' hj Ml g1 g2=>?_
   obtain⟨a0,a1,a2,a3,a4⟩:=KW.oR hj;cases z<;>simp -implicitDefEqProofs only[a2,sS,Nat.reduceAdd]
   ·cases hb:s.back<;>simp -implicitDefEqProofs only[sS,Nat.reduceAdd]
    ·refine Ev.eql (λhq=>?_) (λhq=>?_)<;>try simp -implicitDefEqProofs only[sS,Nat.reduceAdd]
     ·exact Ev.ret (.inr ⟨by simp,_,_,_,_,_,_,_,_,_,_,_,_,_,_,_,hj,by omega,g1,g2,rfl,.inr ⟨rfl,_,rfl⟩⟩)
     ·refine Ev.az (cG _ _) λzk=>?_
      refine Ev.num (cE hj _) λzr Hz mz3 qX T7=>?_
      obtain⟨c0,c1,c2,c3,c4⟩:=KW.oR qX;simp -implicitDefEqProofs only[a1,c1,sS,Nat.reduceAdd];refine Ev.gtr (λhq=>?_) (λhq=>?_)<;>try simp -implicitDefEqProofs only[a1,c1,sS,Nat.reduceAdd]
      ·exact Ev.ret (.inr ⟨by simp,_,_,_,_,_,_,_,_,_,_,_,_,_,_,_,qX,by omega,by omega,by omega,rfl,.inr ⟨rfl,_,rfl⟩⟩)
      ·exact Ev.ret (.inl ⟨rfl,_,by omega,_,_,_,_,_,_,_,_,_,_,_,_,_,_,qX,by omega,by omega,by omega,rfl⟩)
    ·refine Ev.eql (λhq=>?_) (λhq=>?_)<;>try simp -implicitDefEqProofs only[sS,Nat.reduceAdd]
     ·exact Ev.ret (.inr ⟨by simp,_,_,_,_,_,_,_,_,_,_,_,_,_,_,_,hj,by omega,g1,g2,rfl,.inr ⟨rfl,_,rfl⟩⟩)
     ·refine Ev.az (cG _ _) λzk=>?_
      refine Ev.num (cE hj _) λzr Hz mz3 qX T7=>?_
      obtain⟨c0,c1,c2,c3,c4⟩:=KW.oR qX;simp -implicitDefEqProofs only[a0,c0,sS,Nat.reduceAdd];refine Ev.leq (λhq=>?_) (λhq=>?_)<;>try simp -implicitDefEqProofs only[a0,c0,sS,Nat.reduceAdd]
      ·exact Ev.ret (.inr ⟨by simp,_,_,_,_,_,_,_,_,_,_,_,_,_,_,_,qX,by omega,by omega,by omega,rfl,.inr ⟨rfl,_,rfl⟩⟩)
      ·exact Ev.ret (.inl ⟨rfl,_,by omega,_,_,_,_,_,_,_,_,_,_,_,_,_,_,qX,by omega,by omega,by omega,rfl⟩)
   ·exact Ev.ret (.inr ⟨by simp,_,_,_,_,_,_,_,_,_,_,_,_,_,_,_,hj,by omega,g1,g2,rfl,.inr ⟨rfl,_,rfl⟩⟩)
  ·rintro e vs Hx ⟨lp,ls,m2,x9,x6,bF,x7,bN,aG,dD,aN,fw,gv,kY,CB,hj,DP,g1,g2,rfl,he⟩;rcases he with he|⟨he,z,rfl⟩
   ·simp only at he;subst he;simp -implicitDefEqProofs only[Li,zg,sS,Nat.reduceAdd];exact Ev.ret ⟨_,_,_,_,rfl,hj,by omega,g1,g2⟩
   ·simp only at he;subst he;show Ev (λ_=>some (Value.bool z,Hx)) _
    exact Ev.ret ⟨_,_,_,_,rfl,hj,by omega,g1,g2⟩
 simp -implicitDefEqProofs only[XF,a0,a2,sS,Nat.reduceAdd];cases hb:s.back<;>simp -implicitDefEqProofs only[a1,sS,Nat.reduceAdd]
 ·exact J0 ..
 ·exact J0 ..
end
theorem SP (h:J K p m H)(hx: ∀H o,K H o→gE H o q x l)(hq:q≠(p:Int))(hl:l.length≤2147483648):bA (run G) 137 [pv p,x] H (SF K p m):=by
 refine Ev.up (t:=λk=>WW (run G k) k (pv p) x H) ?_ λk=>RM ..
 simp -implicitDefEqProofs only[WW,sS,Nat.reduceAdd];refine Ev.loop (k:=l.length) (λk vs Hx=>∃(i m2:Nat) (x4 aX dP:Value),J K p m2 Hx∧m2≤m∧i+k=l.length∧vs=[pv p,x,x4,cv i,aX,dP])
  (λr=>(∃m2,J K p m2 r.2.2∧m2≤m)∧∃(x4 x5 aX dP:Value),r.2.1=[pv p,x,x4,x5,aX,dP]∧(r.1= .exit 0∨(r.1= .ret∧∃z,x4= .bool z))) ⟨0,m,_,_,_,h,Nat.le_refl _,by omega,rfl⟩ ?_ ?_
 ·rintro k vs Hx ⟨i,m2,x4,aX,dP,hj,hm,hik,rfl⟩;obtain⟨_,o1,Gl,Hv⟩:=id hj;have hs:=hx _ _ Hv;simp -implicitDefEqProofs only[KI,yG,hs.len,sS,Nat.reduceAdd];refine Ev.lss (λHB=>?_) (λHB=>?_)<;>try simp -implicitDefEqProofs only[sS,Nat.reduceAdd]
  ·obtain⟨ib,off,b,e1,e2,e3,e4⟩:=hs.idx (j:=i) (by omega)
   obtain⟨e5,e6,_⟩:=e4 _ e2;refine Ev.off hj (λpT=>?_) (λpT=>?_)<;>try simp -implicitDefEqProofs only[e1,aQ,Nat.add_zero,e5,sS,Nat.reduceAdd]
   ·exact Ev.ret (.inr ⟨by simp,⟨_,hj,hm⟩,_,_,_,_,rfl,.inl rfl⟩)
   have hjB:J (λH o=>K H o∧H.get ib=some b∧o ib=q) p m2 Hx:=⟨hj.1.and λH o H' o' a f=>⟨by rw[f.same ib (an a.1) (by rw[a.2];simpa using hq)];exact a.1,by rw[f.own ib (an a.1)];exact a.2⟩,o1,Gl,Hv,e2,e3⟩
   refine Ev.num (eI hjB _) λzw Hz mz jb DP=>?_
   have kg:=jb.mono hj.1 λo a=>a.1
   obtain⟨_,o2,M9,hk2,g2,_⟩:=id jb;obtain⟨e7,e8,_⟩:=e4 _ g2;simp -implicitDefEqProofs only[e1,aQ,e6,e8,sS,Nat.reduceAdd];have hw:IntKind.i64.wrap ((i:Int)+1)=((i+1:Nat):Int):=by rw[kr (by omega)];omega
   refine Ev.neq (λhq=>?_) (λhq=>?_)<;>try simp -implicitDefEqProofs only[e6,e8,hw,sS,Nat.reduceAdd]
   ·exact Ev.ret (.inr ⟨by simp,⟨_,kg,by omega⟩,_,_,_,_,rfl,.inr ⟨rfl,_,rfl⟩⟩)
   ·exact Ev.ret (.inl ⟨rfl,k-1,by omega,i+1,mz,_,_,_,kg,by omega,by omega,rfl⟩)
  ·exact Ev.ret (.inr ⟨by simp,⟨_,hj,hm⟩,_,_,_,_,rfl,.inl rfl⟩)
 ·rintro e vs Hx ⟨⟨m2,hj,hm⟩,x4,x5,aX,dP,rfl,he⟩;rcases he with he|⟨he,z,rfl⟩
  ·simp only at he;subst he;simp -implicitDefEqProofs only[KJ,yH,sS,Nat.reduceAdd];exact Ev.ret ⟨_,rfl,_,hj,hm⟩
  ·simp only at he;subst he;show Ev (λ_=>some (Value.bool z,Hx)) _
   exact Ev.ret ⟨_,rfl,_,hj,hm⟩
end
section
variable {G:ae} {H H':aa} {o o':aj} {p m c:Nat} {K K':aa→aj→Prop} {t t1 t2 q:Int} {x:Value} {l lp ls:PL} {n i:Nat} {cs:List Value} {T:TypeId}
theorem KW.mono {w:Nat}{s:WS}(h:J (KW K t t1 t2 w s lp ls) p m H)(ht:FF p t t1 t2)(hK':cI [(p:Int),t,t1,t2] K')(k: ∀H o,K H o→K' H o):J (KW K' t t1 t2 w s lp ls) p m H:=h.mono (KW.iK ht hK') λo a=>⟨k _ _ a.1,a.2⟩
structure KWx (K:aa→aj→Prop) (t t1 t2:Int) (w:Nat) (s:WS) (xp xs:Value) (lp ls:PL) (H:aa) (o:aj):Prop where
 k:K H o
 g: ∃ty,H.get w=some ⟨Mb s xp xs,ty,1,false⟩
 ow:o w=t
 sp:gu H o t1 xp lp
 ss:gu H o t2 xs ls
theorem KWx.iK {w:Nat}{s:WS}{xp xs:Value}(ht:FF p t t1 t2)(hK:cI [(p:Int),t,t1,t2] K):cI [(p:Int)] (KWx K t t1 t2 w s xp xs lp ls):=λH o H' o' h f=>by
 obtain⟨ty,g⟩:=h.g;exact⟨hK _ _ _ _ h.k (f.wk (by simp)),⟨ty,by rw[f.same w (an g) (by rw[h.ow];simpa using ht.a.ne)];exact g⟩,by rw[f.own w (an g)];exact h.ow,gu.fr h.sp f (by simpa using ht.a1.ne),gu.fr h.ss f (by simpa using ht.a2.ne)⟩
theorem KW.ex {w:Nat}{s:WS}(h:J (KW K t t1 t2 w s lp ls) p m H)(ht:FF p t t1 t2)(hK:cI [(p:Int),t,t1,t2] K): ∃xp xs,J (KWx K t t1 t2 w s xp xs lp ls) p m H:=by
 obtain⟨_,o,hr,hk,xp,xs,ty,g,ho,h1,h2⟩:=h;exact⟨xp,xs,KWx.iK ht hK,o,hr,hk,⟨ty,g⟩,ho,h1,h2⟩
theorem Yu:aE Tryz.prog 135 [(0,cv (-9223372036854775808)),(1,cv 9223372036854775807),(3,cv 1),(4,.bool true)]=some (.agg #[cv (-9223372036854775808),cv 9223372036854775807,.bool false,cv 1,.bool true,ax,ax]):=by kernel_rfl
theorem SQ (s:WS)(H:aa):cO 135 (.agg #[cv s.lo,cv s.hi,.bool s.back,cv s.PB,.bool s.values,ax,ax]) H=some (pv H.length,H.new ⟨Mb s ax ax,135,1,false⟩):=by
 simp[cO,Value.cells,av,aO]
theorem SR (ht:FF p t t1 t2)(h9:t≠ -9∧t1≠ -9∧t2≠ -9)(hK:cI [(p:Int),t,t1,t2] K)(h:J K p m H)(op:kC):bA (run G) 161 [iO op] H λv H'=>∃w s,v=pv w∧J (KW K t t1 t2 w s [] []) p m H':=by
 refine Ev.up (t:=λk=>VK (run G k) k (iO op) H) ?_ λk=>Q0 ..
 obtain⟨i0,e0⟩: ∃i,i=H.length:=⟨_,rfl⟩;obtain⟨w,e1⟩: ∃i,i=H.length+1:=⟨_,rfl⟩;obtain⟨H1,hU⟩: ∃z,z=H.new ⟨oQ op,39,1,false⟩:=⟨_,rfl⟩;have l1:H1.length=H.length+1:=by rw[hU,aW]
 have Mz:cI [(p:Int),t,t1,t2] λH o=>K H o∧Cl i0 (oQ op) 39 H o:=hK.and λH o H' o' a f=>a.fr f (by simp;omega)
 have kc:J (λH o=>K H o∧Cl i0 (oQ op) 39 H o) p m H1:=by
  rw[hU];refine h.rL _ _ 1 (Mz.of (by simp)) λo hk f=>⟨hK _ _ _ _ hk (f.wk (by simp)),?_⟩
  rw[e0];exact Cl.made
 let s0:WS:=⟨-9223372036854775808,9223372036854775807,false,1,true⟩
 obtain⟨H2,iL⟩: ∃z,z=H1.new ⟨Mb s0 ax ax,135,1,false⟩:=⟨_,rfl⟩;have jb:J (KW (λH o=>K H o∧Cl i0 (oQ op) 39 H o) t t1 t2 w s0 [] []) p m H2:=by
  obtain⟨_,o,hr,hk⟩:=kc;have f:Fr H1 o H2 (o.up H1.length t) []:=by rw[iL];exact(Fr.refl H1 o []).new _ _
  refine⟨KW.iK ht Mz,_,hr.fr f (by simp) (by simp) (by simp),Mz _ _ _ _ hk (f.wk (by simp)),ax,ax,135,?_,?_,.inl ⟨rfl,rfl⟩,.inl ⟨rfl,rfl⟩⟩
  ·rw[iL,e1, ←l1];exact ay
  ·rw[e1, ←l1];exact aH
 have bx:=vA op H;rw[←e0, ←hU] at bx;have bw:=SQ s0 H1;rw[←iL,l1, ←e1] at bw;have L0: ∀{s:WS} {m':Nat} {H':aa},J (KW (λH o=>K H o∧Cl i0 (oQ op) 39 H o) t t1 t2 w s [] []) p m' H'→aq (pv i0) H'=some (cv op.kind)∧aq (.pointer (some ⟨i0,1,none⟩)) H'=some (cv op.key)∧aq (.pointer (some ⟨i0,2,none⟩)) H'=some (cv op.value):=λhj=>by
  obtain⟨_,o,_,⟨_,g,_⟩,_⟩:=hj;exact⟨ak i0 0 _ g,ak i0 1 _ g,ak i0 2 _ g⟩
 have J0: ∀{s:WS} {H':aa} (x2 x7 x8 bn cx cU:Value),J (KW (λH o=>K H o∧Cl i0 (oQ op) 39 H o) t t1 t2 w s [] []) p m H'→Ev (λk=>nO (run G k) k [iO op,x2,pv i0,x7,x8,pv w,bn,cx,cU] H') λr=>∃w s,r.1=pv w∧J (KW K t t1 t2 w s [] []) p m r.2:=by
  intro s H' x2 x7 x8 bn cx cU hj;simp -implicitDefEqProofs only[J9,xW,sS,Nat.reduceAdd];exact Ev.ret ⟨w,s,rfl,KW.mono hj ht hK λH o a=>a.1⟩
 have J1: ∀{s:WS} {H':aa} (b:Bool) (x2 x7 x8 bn cx:Value),J (KW (λH o=>K H o∧Cl i0 (oQ op) 39 H o) t t1 t2 w s [] []) p m H'→Ev (λk=>vT (run G k) k [iO op,x2,pv i0,x7,x8,pv w,bn,cx,.bool b] H') λr=>∃w s,r.1=pv w∧J (KW K t t1 t2 w s [] []) p m r.2:=by
  intro s H' b x2 x7 x8 bn cx hj;simp -implicitDefEqProofs only[Ka,xX,sS,Nat.reduceAdd];cases b<;>simp -implicitDefEqProofs only[sS,Nat.reduceAdd]
  ·exact J0 _ _ _ _ _ _ hj
  ·obtain⟨a0,a1,a2⟩:=L0 hj;obtain⟨H3,g3,kg⟩:=KW.aa7 ht Mz hj op.key;obtain⟨b0,b1,b2⟩:=L0 kg;obtain⟨H4,g4,qX⟩:=KW.aa8 ht Mz kg op.value;obtain⟨H5,g5,q9⟩:=KW.adi ht Mz qX 0;obtain⟨c0,c1,c2⟩:=L0 q9;simp -implicitDefEqProofs only[a1,Nat.add_zero,g3,b2,g4,g5,c0,sS,Nat.reduceAdd];refine Ev.eql (λhq=>?_) (λhq=>?_)<;>try simp -implicitDefEqProofs only[sS,Nat.reduceAdd]
   ·obtain⟨H6,g6,tU⟩:=KW.aa9 ht Mz q9 true;simp -implicitDefEqProofs only[g6,sS,Nat.reduceAdd];exact J0 _ _ _ _ _ _ tU
   ·obtain⟨H6,g6,tU⟩:=KW.aa9 ht Mz q9 false;simp -implicitDefEqProofs only[g6,sS,Nat.reduceAdd];exact J0 _ _ _ _ _ _ tU
 obtain⟨a0,a1,a2⟩:=L0 jb;simp -implicitDefEqProofs only[VK,bx,Yu,Nat.add_zero,sS,Nat.reduceAdd];have bw':cO 135 (.agg #[cv (-9223372036854775808),cv 9223372036854775807,.bool false,cv 1,.bool true,ax,ax]) H1=some (pv w,H2):=bw;simp -implicitDefEqProofs only[bw',a0,Nat.add_zero,sS,Nat.reduceAdd];refine Ev.eql (λhq=>?_) (λhq=>?_)<;>try simp -implicitDefEqProofs only[a1,sS,Nat.reduceAdd]
 ·obtain⟨H3,g3,kg⟩:=KW.aa8 ht Mz jb op.key;obtain⟨H4,g4,qX⟩:=KW.Pz ht Mz kg true;simp -implicitDefEqProofs only[g3,g4,sS,Nat.reduceAdd];exact J0 _ _ _ _ _ _ qX
 refine Ev.eql (λhq=>?_) (λhq=>?_)<;>try simp -implicitDefEqProofs only[a1,sS,Nat.reduceAdd]
 ·obtain⟨H3,g3,kg⟩:=KW.aa7 ht Mz jb op.key;simp -implicitDefEqProofs only[Nat.add_zero,g3,sS,Nat.reduceAdd];exact J0 _ _ _ _ _ _ kg
 refine Ev.eql (λhq=>?_) (λhq=>?_)<;>try simp -implicitDefEqProofs only[a1,sS,Nat.reduceAdd]
 ·obtain⟨H3,g3,kg⟩:=KW.Pz ht Mz jb true;simp -implicitDefEqProofs only[g3,sS,Nat.reduceAdd];exact J0 _ _ _ _ _ _ kg
 refine Ev.eql (λhq=>?_) (λhq=>?_)<;>try simp -implicitDefEqProofs only[a1,sS,Nat.reduceAdd]
 ·exact J1 true _ _ _ _ _ jb
 refine Ev.eql (λhq=>?_) (λhq=>?_)<;>try simp -implicitDefEqProofs only[a1,sS,Nat.reduceAdd]
 ·exact J1 true _ _ _ _ _ jb
 ·exact J1 false _ _ _ _ _ jb
theorem PC (h:J K p m H)(hs: ∀H o,K H o→gE H o q x l)(hl:l.length≤2147483648)(op:kC):bA (run G) 162 [iO op,x] H λv H'=>∃r s,v=dL r s∧J K p m H'∧((s=x∧r.list=l)∨(s=ax∧r.list=[])):=by
 refine Ev.up (t:=λk=>V1 (run G k) k (iO op) x H) ?_ λk=>Ri ..
 obtain⟨i0,e0⟩: ∃i,i=H.length:=⟨_,rfl⟩;obtain⟨i1,e1⟩: ∃i,i=H.length+1:=⟨_,rfl⟩;obtain⟨H1,hU⟩: ∃z,z=H.new ⟨oQ op,39,1,false⟩:=⟨_,rfl⟩;have l1:H1.length=H.length+1:=by rw[hU,aW]
 obtain⟨H2,iL⟩: ∃z,z=H1.new ⟨rc bM,45,1,false⟩:=⟨_,rfl⟩;have jb:J K p m H2:=by rw[iL,hU];exact(h.new _).new _
 have bx:=vA op H;rw[←e0, ←hU] at bx;have n1:aO H1 45 1 [cv 0,.bool false,cv 0,cv 0,cv 0,ax]=(pv i1,H2):=by rw[iL,e1, ←l1];rfl
 have g0:H2.get i0=some ⟨oQ op,39,1,false⟩:=by rw[iL,cD (by omega),hU,e0];exact ay
 have g1:H2.get i1=some ⟨rc bM,45,1,false⟩:=by rw[iL,e1, ←l1];exact ay
 have a0:aq (pv i0) H2=some (cv op.kind):=ak i0 0 _ g0;obtain⟨_,o2,_,hk2⟩:=id jb;have wK:=hs _ _ hk2;obtain⟨xa,xc,ex⟩:=wK.isSlice;have fin: ∀(r:dA) (s:Value),(∃a m c,s= .slice a m c)→∃H3,bS 6 (pv i1) (dL r s) H2=some (undef,H3)∧cK 6 (pv i1) H3=some (dL r s)∧J K p m H3:=λr s oz=>by
  obtain⟨a,mm,cc,es⟩:=oz;refine⟨_,tD i1 r es H2 g1 rfl,jJ _ _ _ (aD g1),h.DR λo=>⟨(o.up H.length (-9)).up H1.length (-9),?_⟩⟩
  rw[iL,hU];have f1:Fr H o (H.new ⟨oQ op,39,1,false⟩) (o.up H.length (-9)) []:=(Fr.refl H o []).new _ _;have f2:=f1.new ⟨rc bM,45,1,false⟩ (-9);exact f2.put λhh=>by omega
 simp -implicitDefEqProofs only[V1,bx,n1,a0,Nat.add_zero,sS,Nat.reduceAdd];refine Ev.eql (λhq=>?_) (λhq=>?_)<;>try simp -implicitDefEqProofs only[sS,Nat.reduceAdd]
 ·obtain⟨H3,b1,b2,kg⟩:=fin ⟨0,false,0,0,0,l⟩ x ⟨_,_,_,ex⟩;have ab:aE Tryz.prog 45 [(4,x)]=some (dL ⟨0,false,0,0,0,l⟩ x):=by rw[ex];exact X5 _ _ _
  simp -implicitDefEqProofs only[ab,b1,b2,sS,Nat.reduceAdd];exact Ev.ret ⟨_,_,rfl,kg,.inl ⟨rfl,rfl⟩⟩
 try simp -implicitDefEqProofs only[a0,sS,Nat.reduceAdd]
 refine Ev.eql (λhq=>?_) (λhq=>?_)<;>try simp -implicitDefEqProofs only[wK.len,sS,Nat.reduceAdd]
 ·obtain⟨H3,b1,b2,kg⟩:=fin ⟨0,false,0,0,l.length,[]⟩ ax ⟨_,_,_,rfl⟩;simp -implicitDefEqProofs only[aaM,b1,b2,sS,Nat.reduceAdd];exact Ev.ret ⟨_,_,rfl,kg,.inr ⟨rfl,rfl⟩⟩
 refine Ev.eql (λhq=>?_) (λhq=>?_)<;>try simp -implicitDefEqProofs only[sS,Nat.reduceAdd]
 ·obtain⟨H3,b1,b2,kg⟩:=fin bM ax ⟨_,_,_,rfl⟩;simp -implicitDefEqProofs only[AL,b1,b2,sS,Nat.reduceAdd];exact Ev.ret ⟨_,_,rfl,kg,.inr ⟨rfl,rfl⟩⟩
 ·obtain⟨i,off,b,e1,e2,e3,e4⟩:=wK.idx (j:=0) (by omega)
  obtain⟨e5,e6,e7⟩:=e4 H2 e2;simp only[Int.natCast_zero] at e1;obtain⟨H3,b1,b2,kg⟩:=fin (nf ((l.getD 0 (0,0)).1,(l.getD 0 (0,0)).2,true)) ax ⟨_,_,_,rfl⟩;simp -implicitDefEqProofs only[e1,e7,Sz,b1,b2,sS,Nat.reduceAdd];exact Ev.ret ⟨_,_,rfl,kg,.inr ⟨rfl,ng _⟩⟩
abbrev adj (K:aa→aj→Prop)(p c:Nat):Value→aa→Prop:=λv H'=>∃r s,v=dL r s∧r.list.length≤c∧∃m',J (λH o=>K H o∧gE H o (-41) s r.list) p m' H'∧m'≤c
theorem fp.relabel {x:Value}{l:List Int}(h:fp H o q x l)(k: ∀i,i<H.length→o i=q→o' i=q):fp H o' q x l:=⟨h.1,λb n c e dX=>⟨(h.2 b n c e dX).1,k _ (h.2 b n c e dX).1 (h.2 b n c e dX).2⟩⟩
theorem zH.relabel (h:zH H o p m)(k: ∀i,i<H.length→(o i=(p:Int)∨o i= -50∨o i= -51)→o' i=o i):zH H o' p m:=by
 obtain⟨tape,w,T,W,i,nk,na,nx,ny,rec,laid,ty,g,ho,ht,hT,hw,hi⟩:=h;exact⟨tape,w,T,W,i,nk,na,nx,ny,rec,laid,ty,g,by rw[k p (an g) (.inl ho)];exact ho,fp.relabel ht λi hi hh=>by rw[k i hi (.inr (.inl hh))];exact hh,hT,fp.relabel hw λi hi hh=>by rw[k i hi (.inr (.inr hh))];exact hh,hi⟩
abbrev Md (r:dA)(s:Value):List Value:=[cv r.qY,.bool r.found,cv r.key,cv r.value,cv r.n,s]
theorem SS (h:J K p m H)(hM:m≤2147483648)(op:kC)(dt:Int):bA (run G) 145 [pv p,iO op,cv dt] H (adj K p m):=by
 refine Ev.up (t:=λk=>VG (run G k) k (pv p) (iO op) (cv dt) H) ?_ λk=>QX ..
 obtain⟨hK,b,hr,hk⟩:=id h;obtain⟨i0,e0⟩: ∃i,i=H.length:=⟨_,rfl⟩;obtain⟨i1,e1⟩: ∃i,i=H.length+1:=⟨_,rfl⟩;obtain⟨t,T5,Yv⟩:=jq b H.length;have ht:FF p t (t-1) (t-2):=⟨⟨by omega,by omega,by omega⟩,⟨by omega,by omega,by omega⟩,⟨by omega,by omega,by omega⟩,by omega,by omega,by omega⟩
 let KQ:aa→aj→Prop:=λH' o=>Fr H b H' o [t,t-1,t-2,(p:Int)]∧Cl i0 (oQ op) 39 H' o∧Cl i1 (rc bM) 45 H' o
 have hKQ:cI [(p:Int),t,t-1,t-2] KQ:=(cI.base (by simp)).and ((show cI _ _ from λH o H' o' a f=>a.fr f (by simp;omega)).and λH o H' o' a f=>a.fr f (by simp;omega))
 have PD:cI [(p:Int)] KQ:=hKQ.of (by simp)
 obtain⟨H1,hU⟩: ∃z,z=H.new ⟨oQ op,39,1,false⟩:=⟨_,rfl⟩;have l1:H1.length=H.length+1:=by rw[hU,aW]
 obtain⟨H2,iL⟩: ∃z,z=H1.new ⟨rc bM,45,1,false⟩:=⟨_,rfl⟩;have kc:J (λH' o=>Fr H b H' o [t,t-1,t-2,(p:Int)]∧Cl i0 (oQ op) 39 H' o) p m H1:=by
  rw[hU];have SM:J (λH' o=>Fr H b H' o [t,t-1,t-2,(p:Int)]) p m H:=⟨cI.base (by simp),b,hr,Fr.refl _ _ _⟩
  refine SM.rL _ _ 1 ((cI.base (by simp)).and λH o H' o' a f=>a.fr f (by simp)) λo hk f=>⟨hk.new _ _,?_⟩
  rw[e0];exact Cl.made
 have jb:J KQ p m H2:=by
  rw[iL];refine kc.rL _ _ 1 PD λo hk f=>⟨hk.1.new _ _,hk.2.new,?_⟩
  rw[e1, ←l1];exact Cl.made
 have bx:=vA op H;rw[←e0, ←hU] at bx;have n1:aO H1 45 1 [cv 0,.bool false,cv 0,cv 0,cv 0,ax]=(pv i1,H2):=by rw[iL,e1, ←l1];rfl
 have oR: ∀{m':Nat} {H':aa},J KQ p m' H'→aq (pv i0) H'=some (cv op.kind)∧aq (.pointer (some ⟨i0,1,none⟩)) H'=some (cv op.key)∧cK 3 (pv i0) H'=some (iO op):=λhj=>by
  obtain⟨_,o,_,_,g,_⟩:=hj;exact⟨ak i0 0 _ g.1,ak i0 1 _ g.1,Pc g.1⟩
 let KE:dA→Value→aa→aj→Prop:=λr s H' o=>Fr H b H' o [t,t-1,t-2,(p:Int)]∧Cl i1 (Md r s) 45 H' o∧gE H' o (t-1) s r.list
 have hKE: ∀r s,cI [(p:Int)] (KE r s):=λr s=>(cI.base (by simp)).and ((show cI _ _ from λH o H' o' a f=>a.fr f (by simp)).and λH o H' o' a f=>a.fr f (by simp;omega))
 have fin: ∀{m':Nat} {H':aa} (r:dA) (s:Value),(∃a m c,s= .slice a m c)→J (λH o=>KQ H o∧gE H o (t-1) s r.list) p m' H'→∃H3,bS 6 (pv i1) (dL r s) H'=some (undef,H3)∧cK 6 (pv i1) H3=some (dL r s)∧J (KE r s) p m' H3:=λ{m' H'} r s oz hj=>by
  obtain⟨a,mm,cc,es⟩:=oz;obtain⟨_,o',M9,pT,wK⟩:=hj;have f:Fr H' o' (H'.put i1 ⟨Md r s,45,1,false⟩) o' [-9]:=(Fr.refl _ o' [-9]).put λ_=>by simp[pT.2.2.2]
  exact⟨_,tD i1 r es _ pT.2.2.1 rfl,jJ _ _ _ (aD pT.2.2.1),hKE r s,o',M9.fr f (by simp) (by simp) (by simp),pT.1.put λhh=>by omega,pT.2.2.self,wK.fr f (by simp;omega)⟩
 have out: ∀{m':Nat} {H':aa} {r:dA} {s:Value},J (KE r s) p m' H'→J (λH o=>K H o∧gE H o (-41) s r.list) p m' H':=λ{m' H' r s} hj=>by
  obtain⟨_,o,Gl,hf,hc,hs⟩:=hj;have f3:Fr H b H' o [(p:Int)]:=mh (mh (mh hf λi hi=>by have:=Yv i hi;omega) λi hi=>by have:=Yv i hi;omega) λi hi=>by have:=Yv i hi;omega
  let o':aj:=λi=>if o i=t-1 then -41 else o i
  refine⟨hK.and (cI.kJ (by simp)),o',Gl.relabel λi hi hh=>?_,hK _ _ _ _ hk ⟨f3.slot,λi hi=>?_,f3.size⟩,hs.relabel λi hi hh=>?_⟩
  ·show(if o i=t-1 then(-41:Int) else o i)=o i
   rw[if_neg (by omega)]
  ·show(if o i=t-1 then(-41:Int) else o i)=b i
   have:=f3.own i hi
   have:=Yv i hi
   rw[if_neg (by omega)];exact f3.own i hi
  ·show(if o i=t-1 then(-41:Int) else o i)= -41
   rw[if_pos hh]
 have JH: ∀{m':Nat} {H':aa} (r:dA),r.list=[]→J KQ p m' H'→∃H3,bS 6 (pv i1) (dL r ax) H'=some (undef,H3)∧cK 6 (pv i1) H3=some (dL r ax)∧J (KE r ax) p m' H3:=λr hl hj=>fin r ax ⟨_,_,_,rfl⟩ (hj.mono (PD.and (cI.kJ (by simp;omega))) λo a=>⟨a,by rw[hl];exact .nil⟩)
 obtain⟨a0,a1,a2⟩:=oR jb;simp -implicitDefEqProofs only[VG,bx,n1,a0,Nat.add_zero,sS,Nat.reduceAdd];refine Ev.eql (λhq=>?_) (λhq=>?_)<;>try simp -implicitDefEqProofs only[a1,sS,Nat.reduceAdd]
 ·refine Ev.dq (fW jb _) λz zb Hz mz hj hm=>?_
  obtain⟨b0,b1,b2⟩:=oR hj;cases zb<;>simp -implicitDefEqProofs only[b1,sS,Nat.reduceAdd]
  ·obtain⟨H3,c1,c2,kg⟩:=JH bM rfl hj;simp -implicitDefEqProofs only[AL,c1,c2,sS,Nat.reduceAdd];exact Ev.ret ⟨_,_,rfl,by simp[bM],_,out kg,by omega⟩
  ·obtain⟨H3,c1,c2,kg⟩:=JH (nf (op.key,z,true)) (ng _) hj;simp -implicitDefEqProofs only[zN,Sz,c1,c2,sS,Nat.reduceAdd];exact Ev.ret ⟨_,_,rfl,by rw[ng];simp,_,out kg,by omega⟩
 refine Ev.loop (k:=m) (λk vs Hx=>∃(i:Int) (aJ x8 bG x7 dJ aG dO fM:Value),J KQ p k Hx∧k≤m∧vs=[pv p,iO op,cv dt,pv i1,pv i0,aJ,x8,bG,x7,cv i,dJ,aG,dO,fM])
  (λr=>∃(m2:Nat) (aJ x8 bG x7 x9 dJ aG dO fM:Value),m2≤m∧r.2.1=[pv p,iO op,cv dt,pv i1,pv i0,aJ,x8,bG,x7,x9,dJ,aG,dO,fM]∧((r.1= .exit 0∧J KQ p m2 r.2.2)∨(r.1= .ret∧∃rr s,J (KE rr s) p m2 r.2.2∧rr.list.length≤m))) ⟨_,_,_,_,_,_,_,_,_,jb,Nat.le_refl _,rfl⟩ ?_ ?_
 ·rintro k vs Hx ⟨i,aJ,x8,bG,x7,dJ,aG,dO,fM,hj,hkm,rfl⟩;obtain⟨b0,b1,b2⟩:=oR hj;simp -implicitDefEqProofs only[J7,xV,sS,Nat.reduceAdd];refine Ev.lss (λhq=>?_) (λhq=>?_)<;>try simp -implicitDefEqProofs only[sS,Nat.reduceAdd]
  ·refine Ev.off hj (λhq0=>?_) (λhq0=>?_)<;>try simp -implicitDefEqProofs only[b2,sS,Nat.reduceAdd]
   ·exact Ev.ret (.inr ⟨by simp,_,_,_,_,_,_,_,_,_,_,hkm,rfl,.inl ⟨rfl,hj⟩⟩)
   refine Ev.call (SR ht ⟨by omega,by omega,by omega⟩ hKQ hj op) ?_
   rintro v H3 ⟨w,s,rfl,hj⟩
   try simp -implicitDefEqProofs only[sS,Nat.reduceAdd]
   refine Ev.gw (Mc ht hKQ (c:=m) hM (k+1) hj (by omega) (by simp;omega) (by simp;omega) _) λz lp ls m2 H4 hj DP g1 g2=>?_
   have hjq:=hj.mono PD λo a=>a.1
   try simp -implicitDefEqProofs only[sS,Nat.reduceAdd]
   refine Ev.off hj (λpT=>?_) (λpT=>?_)<;>try simp -implicitDefEqProofs only[sS,Nat.reduceAdd]
   ·exact Ev.ret (.inr ⟨by simp,_,_,_,_,_,_,_,_,_,_,(show m2≤m by omega),rfl,.inl ⟨rfl,hjq⟩⟩)
   obtain⟨xp,xs,LN⟩:=KW.ex hj ht hKQ;have ldx: ∀{m':Nat} {H':aa},J (KWx KQ t (t-1) (t-2) w s xp xs lp ls) p m' H'→aq (.pointer (some ⟨w,6,none⟩)) H'=some xs∧aq (.pointer (some ⟨w,5,none⟩)) H'=some xp∧cK 3 (pv i0) H'=some (iO op):=λhj=>by
    obtain⟨_,o,_,hx⟩:=hj;obtain⟨ty,g⟩:=hx.g;exact⟨ak w 6 _ g,ak w 5 _ g,Pc hx.k.2.1.1⟩
   obtain⟨c0,c1,c2⟩:=ldx LN;simp -implicitDefEqProofs only[c0,sS,Nat.reduceAdd];refine Ev.bool (SP LN (λH o a=>a.ss.r) (by omega) (by omega)) λz Hz mz Qg hmz=>?_
   have adk:=Qg.mono PD λo a=>a.k
   obtain⟨d0,d1,d2⟩:=ldx Qg;cases z<;>simp -implicitDefEqProofs only[d1,d2,sS,Nat.reduceAdd]
   ·exact Ev.ret (.inl ⟨rfl,mz,by omega,_,_,_,_,_,_,_,_,_,adk,by omega,rfl⟩)
   ·refine Ev.call (PC Qg (λH o a=>a.sp.r) (by omega) op) ?_
    rintro v H5 ⟨r,s',rfl,q9,Y5⟩;have ZG: ∃a m c,s'= .slice a m c:=by
     rcases Y5 with⟨rfl,_⟩|⟨rfl,_⟩
     ·obtain⟨_,o,_,hx⟩:=LN;obtain⟨a,c,e⟩:=hx.sp.r.isSlice;exact⟨a,_,c,e⟩
     ·exact⟨_,_,_,rfl⟩
    have tU:J (λH o=>KQ H o∧gE H o (t-1) s' r.list) p mz H5:=q9.mono (PD.and (cI.kJ (by simp;omega))) λo a=>⟨a.k,by
     rcases Y5 with⟨rfl,e⟩|⟨rfl,e⟩
     ·rw[e];exact a.sp.r
     ·rw[e];exact .nil⟩
    obtain⟨H6,g5,g6,T6⟩:=fin r s' ZG tU;simp -implicitDefEqProofs only[g5,sS,Nat.reduceAdd];refine Ev.ret (.inr ⟨by simp,_,_,_,_,_,_,_,_,_,_,(show mz≤m by omega),rfl,.inr ⟨rfl,r,s',T6,?_⟩⟩)
    rcases Y5 with⟨_,e⟩|⟨_,e⟩
    ·rw[e];omega
    ·rw[e];simp
  ·exact Ev.ret (.inr ⟨by simp,_,_,_,_,_,_,_,_,_,_,hkm,rfl,.inl ⟨rfl,hj⟩⟩)
 ·rintro e vs Hx ⟨m2,aJ,x8,bG,x7,x9,dJ,aG,dO,fM,hm,rfl,he⟩;rcases he with⟨he,hj⟩|⟨he,rr,s,hj,hl⟩
  ·simp only at he;subst he;obtain⟨H6,g5,g6,q9⟩:=JH (fN 9) rfl hj;simp -implicitDefEqProofs only[J6,xU,tF,g5,g6,sS,Nat.reduceAdd];exact Ev.ret ⟨_,_,rfl,by simp[fN],_,out q9,hm⟩
  ·simp only at he;subst he;obtain⟨_,o1,_,_,hc,_⟩:=id hj;have hl6:=jJ i1 rr (s:=s) Hx hc.1;show Ev (λ_=>af (pS (ju Tryz.prog 45 (pv i1) Hx) Hx) λv _=>some (v,Hx)) _
   simp -implicitDefEqProofs only[Yr,hl6,sS,Nat.reduceAdd];exact Ev.ret ⟨_,_,rfl,hl,_,out hj,hm⟩
end
end Go.Proofs.YtjgmnoaalbbonaaGreat.Fun
end
