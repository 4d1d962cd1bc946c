/- Texts of the proof of linearChecks_holds, put together by a small program of ours (names shortened, spaces taken out). No condition beyond the given statement. -/
import Derived.Test.YtjgmnoaalbbonaaGreatLCQ15
import Derived.Test.YtjgmnoaalbbonaaGreatLCQ16
import Derived.Test.YtjgmnoaalbbonaaGreatLCQ19
import Derived.Test.YtjgmnoaalbbonaaGreatLCQ22
import Derived.Test.YtjgmnoaalbbonaaGreatLCQ35
set_option linter.unusedVariables false
set_option linter.unusedSimpArgs false
set_option linter.unnecessarySimpa false
noncomputable section
section
namespace Go.Proofs.YtjgmnoaalbbonaaGreat.Fun
open Go Go.RowKit Go.Proofs.YtjgmnoaalbbonaaGreatA.Am
set_option maxRecDepth 10000
section
variable {G:ag} {H H':ae} {o o':an} {p m c:Nat} {K K':ae→an→Prop} {t t1 t2 q:Int} {x:Value} {l lp ls:PL} {n i:Nat} {cs:List Value} {T:TypeId}
structure WS where
 lo:Int
 hi:Int
 back:Bool
 TS:Int
 values:Bool
abbrev PU (s:WS)(xp xs:Value):List Value:=[cv s.lo,cv s.hi,.bool s.back,cv s.TS,.bool s.values,xp,xs]
def KW (K:ae→an→Prop)(t t1 t2:Int)(w:Nat)(s:WS)(lp ls:PL)(H:ae)(o:an):Prop:=
 K H o∧∃xp xs ty,H.get w=some ⟨PU s xp xs,ty,1,false⟩∧o w=t∧fF H o t1 xp lp∧fF H o t2 xs ls
structure I1 (p:Nat) (t t1 t2:Int):Prop where
 a:rA t p
 a1:rA t1 p
 a2:rA t2 p
 d1:t≠t1
 d2:t≠t2
 d3:t1≠t2
theorem fF.isSlice {s:Value}(h:fF H o q s l): ∃a c,s= .slice a l.length c:=h.r.isSlice
section
variable {w:Nat} {s:WS}
theorem KW.js (ht:I1 p t t1 t2)(hK:cW [(p:Int),t,t1,t2] K):cW [(p:Int)] (KW K t t1 t2 w s lp ls):=λH o H' o' h f=>by
 obtain⟨hk,xp,xs,ty,g,ho,h1,h2⟩:=h;exact⟨hK _ _ _ _ hk (f.wk (by simp)),xp,xs,ty,by rw[f.same w (aq g) (by rw[ho];simpa using ht.a.ne)];exact g,by rw[f.own w (aq g)];exact ho,fF.fr h1 f (by simpa using ht.a1.ne),fF.fr h2 f (by simpa using ht.a2.ne)⟩
theorem KW.ql (h:J (KW K t t1 t2 w s lp ls) p m H):au (pv w) H=some (cv s.lo)∧au (.pointer (some ⟨w,1,none⟩)) H=some (cv s.hi)∧au (.pointer (some ⟨w,2,none⟩)) H=some (.bool s.back)∧au (.pointer (some ⟨w,3,none⟩)) H=some (cv s.TS)∧au (.pointer (some ⟨w,4,none⟩)) H=some (.bool s.values):=by
 obtain⟨_,o,_,_,xp,xs,ty,g,_⟩:=h;exact⟨ak w 0 _ g,ak w 1 _ g,ak w 2 _ g,ak w 3 _ g,ak w 4 _ g⟩
theorem KW.len (h:J (KW K t t1 t2 w s lp ls) p m H): ∃xp,au (.pointer (some ⟨w,5,none⟩)) H=some xp∧cq xp=some (cv lp.length):=by
 obtain⟨_,o,_,_,xp,xs,ty,g,ho,h1,h2⟩:=h;exact⟨xp,ak w 5 _ g,h1.r.len⟩
theorem KW.ahA (ht:I1 p t t1 t2)(hK:cW [(p:Int),t,t1,t2] K)(h:J (KW K t t1 t2 w s lp ls) p m H)(hb:lp.length+1≤4294967296): ∃xp,au (.pointer (some ⟨w,5,none⟩)) H=some xp∧∀(T ty:TypeId) (a b:Int),∃x' l' H1 H2,
  cd T 2 16 xp (.slice (some ⟨H.length,0,none⟩) 1 1) (H.new ⟨[cv a,cv b],ty,2,false⟩)=some (x',H1)∧bS 1 (.pointer (some ⟨w,5,none⟩)) x' H1=some (undef,H2)∧J (KW K t t1 t2 w s l' ls) p m H2∧l'.length=lp.length+1:=by
 obtain⟨_,o,hr,hk,xp,xs,ty,g,ho,h1,h2⟩:=h;refine⟨xp,ak w 5 _ g,λT nL a b=>?_⟩
 have f1:Fr H o (H.new ⟨[cv a,cv b],nL,2,false⟩) (o.up H.length (-9)) [t1]:=(Fr.refl H o [t1]).new _ _;have sQ:Fr H o (H.new ⟨[cv a,cv b],nL,2,false⟩) (o.up H.length (-9)) []:=(Fr.refl H o []).new _ _;obtain⟨x',H2,o2,e,s2,f2,_⟩:=fF.app (y:=.slice (some ⟨H.length,0,none⟩) 1 1) (m:=[(a,b)]) T (fF.fr h1 sQ (by simp)) (Src.one az) (by simpa using hb)
 have f3:=f1.tr f2;have g2:H2.get w=some ⟨PU s xp xs,ty,1,false⟩:=by rw[f3.same w (aq g) (by rw[ho];simpa using ht.d1)];exact g
 have Hd:o2 w=t:=by rw[f3.own w (aq g)];exact ho
 obtain⟨ba,bc,ex⟩:=fF.isSlice s2;obtain⟨H3,e3⟩: ∃z,z=H2.put w ⟨PU s x' xs,ty,1,false⟩:=⟨_,rfl⟩;have f4:Fr H2 o2 H3 o2 [t]:=by rw[e3];exact(Fr.refl H2 o2 [t]).put λ_=>by simp[Hd]
 have f5:Fr H o H3 o2 [t,t1]:=f3.trans f4 (by simp) (by simp)
 refine⟨x',lp++[(a,b)],H2,H3,e,?_,⟨KW.js ht hK,o2,hr.fr f5 ?_ ?_ ?_,hK _ _ _ _ hk (f5.wk (by simp)),x',xs,ty,by rw[e3];exact aH g2,Hd,fF.fr s2 f4 ?_,fF.fr h2 f5 ?_⟩,by simp⟩
 ·rw[ex,zO w 5 ba _ bc H2 g2 rfl (by simp),e3,ex];rfl
 ·have:=ht.a.ne;have:=ht.a1.ne;simp;omega
 ·have:=ht.a.n0;have:=ht.a1.n0;simp;omega
 ·have:=ht.a.n1;have:=ht.a1.n1;simp;omega
 ·have:=ht.d1;have:=ht.d2;have:=ht.d3;simp;omega
 ·have:=ht.d1;have:=ht.d2;have:=ht.d3;simp;omega
theorem KW.ahB (ht:I1 p t t1 t2)(hK:cW [(p:Int),t,t1,t2] K)(h:J (KW K t t1 t2 w s lp ls) p m H)(hb:ls.length+1≤4294967296): ∃xp,au (.pointer (some ⟨w,6,none⟩)) H=some xp∧∀(T ty:TypeId) (a b:Int),∃x' l' H1 H2,
  cd T 2 16 xp (.slice (some ⟨H.length,0,none⟩) 1 1) (H.new ⟨[cv a,cv b],ty,2,false⟩)=some (x',H1)∧bS 1 (.pointer (some ⟨w,6,none⟩)) x' H1=some (undef,H2)∧J (KW K t t1 t2 w s lp l') p m H2∧l'.length=ls.length+1:=by
 obtain⟨_,o,hr,hk,xp,xs,ty,g,ho,h1,h2⟩:=h;refine⟨xs,ak w 6 _ g,λT nL a b=>?_⟩
 have f1:Fr H o (H.new ⟨[cv a,cv b],nL,2,false⟩) (o.up H.length (-9)) [t2]:=(Fr.refl H o [t2]).new _ _;have sQ:Fr H o (H.new ⟨[cv a,cv b],nL,2,false⟩) (o.up H.length (-9)) []:=(Fr.refl H o []).new _ _;obtain⟨x',H2,o2,e,s2,f2,_⟩:=fF.app (y:=.slice (some ⟨H.length,0,none⟩) 1 1) (m:=[(a,b)]) T (fF.fr h2 sQ (by simp)) (Src.one az) (by simpa using hb)
 have f3:=f1.tr f2;have g2:H2.get w=some ⟨PU s xp xs,ty,1,false⟩:=by rw[f3.same w (aq g) (by rw[ho];simpa using ht.d2)];exact g
 have Hd:o2 w=t:=by rw[f3.own w (aq g)];exact ho
 obtain⟨ba,bc,ex⟩:=fF.isSlice s2;obtain⟨H3,e3⟩: ∃z,z=H2.put w ⟨PU s xp x',ty,1,false⟩:=⟨_,rfl⟩;have f4:Fr H2 o2 H3 o2 [t]:=by rw[e3];exact(Fr.refl H2 o2 [t]).put λ_=>by simp[Hd]
 have f5:Fr H o H3 o2 [t,t2]:=f3.trans f4 (by simp) (by simp)
 refine⟨x',ls++[(a,b)],H2,H3,e,?_,⟨KW.js ht hK,o2,hr.fr f5 ?_ ?_ ?_,hK _ _ _ _ hk (f5.wk (by simp)),xp,x',ty,by rw[e3];exact aH g2,Hd,fF.fr h1 f5 ?_,fF.fr s2 f4 ?_⟩,by simp⟩
 ·rw[ex,zO w 6 ba _ bc H2 g2 rfl (by simp),e3,ex];rfl
 ·have:=ht.a.ne;have:=ht.a2.ne;simp;omega
 ·have:=ht.a.n0;have:=ht.a2.n0;simp;omega
 ·have:=ht.a.n1;have:=ht.a2.n1;simp;omega
 ·have:=ht.d1;have:=ht.d2;have:=ht.d3;simp;omega
 ·have:=ht.d1;have:=ht.d2;have:=ht.d3;simp;omega
theorem KW.afk (ht:I1 p t t1 t2)(hK:cW [(p:Int),t,t1,t2] K)(h:J (KW K t t1 t2 w s lp ls) p m H)(v:Int): ∃H2,bS 1 (pv w) (cv v) H=some (undef,H2)∧J (KW K t t1 t2 w {s with lo:=v} lp ls) p m H2:=by
 obtain⟨_,o,hr,hk,xp,xs,ty,g,ho,h1,h2⟩:=h;have f:Fr H o (H.put w ⟨PU {s with lo:=v} xp xs,ty,1,false⟩) o [t]:=(Fr.refl H o [t]).put λ_=>by simp[ho]
 refine⟨_,jA w 0 (cv v) H g rfl (by simp) rfl rfl rfl,KW.js ht hK,o,hr.fr f ?_ ?_ ?_,hK _ _ _ _ hk (f.wk (by simp)),xp,xs,ty,aH g,ho,fF.fr h1 f ?_,fF.fr h2 f ?_⟩
 ·have:=ht.a.ne;simp;omega
 ·have:=ht.a.n0;simp;omega
 ·have:=ht.a.n1;simp;omega
 ·have:=ht.d1;simp;omega
 ·have:=ht.d2;simp;omega
theorem KW.afl (ht:I1 p t t1 t2)(hK:cW [(p:Int),t,t1,t2] K)(h:J (KW K t t1 t2 w s lp ls) p m H)(v:Int): ∃H2,bS 1 (.pointer (some ⟨w,1,none⟩)) (cv v) H=some (undef,H2)∧J (KW K t t1 t2 w {s with hi:=v} lp ls) p m H2:=by
 obtain⟨_,o,hr,hk,xp,xs,ty,g,ho,h1,h2⟩:=h;have f:Fr H o (H.put w ⟨PU {s with hi:=v} xp xs,ty,1,false⟩) o [t]:=(Fr.refl H o [t]).put λ_=>by simp[ho]
 refine⟨_,jA w 1 (cv v) H g rfl (by simp) rfl rfl rfl,KW.js ht hK,o,hr.fr f ?_ ?_ ?_,hK _ _ _ _ hk (f.wk (by simp)),xp,xs,ty,aH g,ho,fF.fr h1 f ?_,fF.fr h2 f ?_⟩
 ·have:=ht.a.ne;simp;omega
 ·have:=ht.a.n0;simp;omega
 ·have:=ht.a.n1;simp;omega
 ·have:=ht.d1;simp;omega
 ·have:=ht.d2;simp;omega
theorem KW.TN (ht:I1 p t t1 t2)(hK:cW [(p:Int),t,t1,t2] K)(h:J (KW K t t1 t2 w s lp ls) p m H)(v:Bool): ∃H2,bS 1 (.pointer (some ⟨w,2,none⟩)) (.bool v) H=some (undef,H2)∧J (KW K t t1 t2 w {s with back:=v} lp ls) p m H2:=by
 obtain⟨_,o,hr,hk,xp,xs,ty,g,ho,h1,h2⟩:=h;have f:Fr H o (H.put w ⟨PU {s with back:=v} xp xs,ty,1,false⟩) o [t]:=(Fr.refl H o [t]).put λ_=>by simp[ho]
 refine⟨_,jA w 2 (.bool v) H g rfl (by simp) rfl rfl rfl,KW.js ht hK,o,hr.fr f ?_ ?_ ?_,hK _ _ _ _ hk (f.wk (by simp)),xp,xs,ty,aH g,ho,fF.fr h1 f ?_,fF.fr h2 f ?_⟩
 ·have:=ht.a.ne;simp;omega
 ·have:=ht.a.n0;simp;omega
 ·have:=ht.a.n1;simp;omega
 ·have:=ht.d1;simp;omega
 ·have:=ht.d2;simp;omega
theorem KW.ahC (ht:I1 p t t1 t2)(hK:cW [(p:Int),t,t1,t2] K)(h:J (KW K t t1 t2 w s lp ls) p m H)(v:Int): ∃H2,bS 1 (.pointer (some ⟨w,3,none⟩)) (cv v) H=some (undef,H2)∧J (KW K t t1 t2 w {s with TS:=v} lp ls) p m H2:=by
 obtain⟨_,o,hr,hk,xp,xs,ty,g,ho,h1,h2⟩:=h;have f:Fr H o (H.put w ⟨PU {s with TS:=v} xp xs,ty,1,false⟩) o [t]:=(Fr.refl H o [t]).put λ_=>by simp[ho]
 refine⟨_,jA w 3 (cv v) H g rfl (by simp) rfl rfl rfl,KW.js ht hK,o,hr.fr f ?_ ?_ ?_,hK _ _ _ _ hk (f.wk (by simp)),xp,xs,ty,aH g,ho,fF.fr h1 f ?_,fF.fr h2 f ?_⟩
 ·have:=ht.a.ne;simp;omega
 ·have:=ht.a.n0;simp;omega
 ·have:=ht.a.n1;simp;omega
 ·have:=ht.d1;simp;omega
 ·have:=ht.d2;simp;omega
theorem KW.afm (ht:I1 p t t1 t2)(hK:cW [(p:Int),t,t1,t2] K)(h:J (KW K t t1 t2 w s lp ls) p m H)(v:Bool): ∃H2,bS 1 (.pointer (some ⟨w,4,none⟩)) (.bool v) H=some (undef,H2)∧J (KW K t t1 t2 w {s with values:=v} lp ls) p m H2:=by
 obtain⟨_,o,hr,hk,xp,xs,ty,g,ho,h1,h2⟩:=h;have f:Fr H o (H.put w ⟨PU {s with values:=v} xp xs,ty,1,false⟩) o [t]:=(Fr.refl H o [t]).put λ_=>by simp[ho]
 refine⟨_,jA w 4 (.bool v) H g rfl (by simp) rfl rfl rfl,KW.js ht hK,o,hr.fr f ?_ ?_ ?_,hK _ _ _ _ hk (f.wk (by simp)),xp,xs,ty,aH g,ho,fF.fr h1 f ?_,fF.fr h2 f ?_⟩
 ·have:=ht.a.ne;simp;omega
 ·have:=ht.a.n0;simp;omega
 ·have:=ht.a.n1;simp;omega
 ·have:=ht.d1;simp;omega
 ·have:=ht.d2;simp;omega
end
abbrev GW (K:ae→an→Prop)(t t1 t2:Int)(w:Nat)(s:WS)(c p mm:Nat):Value→ae→Prop:=λv H'=>∃z lp' ls' m',v= .bool z∧J (KW K t t1 t2 w s lp' ls') p m' H'∧m'≤mm∧lp'.length+m'≤c∧ls'.length+m'≤c
section
variable {w:Nat} {s:WS}
theorem XB (ht:I1 p t t1 t2)(hK:cW [(p:Int),t,t1,t2] K)(hc:c≤2147483648)(h:J (KW K t t1 t2 w s lp ls) p m H)(h1:lp.length+m≤c)(h2:ls.length+m≤c)(h3:m≠0)(a:Int):
  bN (run G) 166 [pv w,pv p,cv a] H (GW K t t1 t2 w s c p (m-1)):=by
 refine Ev.up (t:=λk=>aaa (run G k) k (pv w) (pv p) (cv a) H) ?_ λk=>Vt ..
 simp -implicitDefEqProofs only[aaa,sS,Nat.reduceAdd];refine Ev.num (cQ h _) λzq Hz mz hj hm=>?_
 obtain⟨a0,a1,a2,a3,a4⟩:=KW.ql hj;have J0: ∀{m1:Nat} {H1:ae} (v:Int) (x6 cx cy:Value),J (KW K t t1 t2 w s lp ls) p m1 H1→m1≤m-1→Ev (λk=>yD (run G k) k [pv w,pv p,cv a,x6,cv zq,cx,cy,cv v] H1) λr=>GW K t t1 t2 w s c p (m-1) r.1 r.2:=by
  intro m1 H1 v x6 cx cy hj hm;obtain⟨xp,b0,b1⟩:=KW.ahA ht hK hj (by omega)
  obtain⟨x',l',H2,H3,b2,b3,lu,hl⟩:=b1 42 42 zq v;obtain⟨a0,a1,a2,a3,a4⟩:=KW.ql lu;obtain⟨xq,b4,b5⟩:=KW.len lu;simp -implicitDefEqProofs only[Oh,As,b0,Cg,Lg,b2,b3,a3,sS,Nat.reduceAdd];refine Ev.gtr (λhq=>?_) (λhq=>?_)<;>try simp -implicitDefEqProofs only[b4,b5,a3,sS,Nat.reduceAdd]
  ·refine Ev.geq (λhq=>?_) (λhq=>?_)<;>try simp -implicitDefEqProofs only[sS,Nat.reduceAdd]
   ·exact Ev.ret ⟨_,_,_,_,rfl,lu,by omega,by omega,by omega⟩
   ·exact Ev.ret ⟨_,_,_,_,rfl,lu,by omega,by omega,by omega⟩
  ·exact Ev.ret ⟨_,_,_,_,rfl,lu,by omega,by omega,by omega⟩
 simp -implicitDefEqProofs only[a0,sS,Nat.reduceAdd];refine Ev.lss (λhq=>?_) (λhq=>?_)<;>try simp -implicitDefEqProofs only[a1,sS,Nat.reduceAdd]
 ·exact Ev.ret ⟨_,_,_,_,rfl,hj,by omega,by omega,by omega⟩
 refine Ev.gtr (λhq=>?_) (λhq=>?_)<;>try simp -implicitDefEqProofs only[a4,sS,Nat.reduceAdd]
 ·exact Ev.ret ⟨_,_,_,_,rfl,hj,by omega,by omega,by omega⟩
 cases hv:s.values<;>try simp -implicitDefEqProofs only[sS,Nat.reduceAdd]
 ·exact J0 _ _ _ _ hj hm
 ·refine Ev.num (cQ hj _) λzv Hz mz hj hm=>?_
  exact J0 _ _ _ _ hj (by omega)
theorem Ev.gw {α:Type}{k:Nat→Value→ae→Option α}{Q:α→Prop}{C:Nat→ag}{f:Nat}{args:List Value}{mm:Nat}(h:bN C f args H (GW K t t1 t2 w s c p mm))(hk: ∀z lp ls m' H',J (KW K t t1 t2 w s lp ls) p m' H'→m'≤mm→lp.length+m'≤c→ls.length+m'≤c→Ev (λn=>k n (.bool z) H') Q):Ev (λn=>af (C n f args H) (k n)) Q:=
 Ev.call h λv H' hq=>by obtain⟨z,lp,ls,m',rfl,h1,h2,h3,h4⟩:=hq;exact hk z lp ls m' H' h1 h2 h3 h4
theorem XC (ht:I1 p t t1 t2)(hK:cW [(p:Int),t,t1,t2] K)(hc:c≤2147483648){M:Nat}(ih: ∀{m:Nat} {lp ls:PL} {H:ae},J (KW K t t1 t2 w s lp ls) p m H→m<M→lp.length+m≤c→ls.length+m≤c→∀a,bN (run G) 136 [pv w,pv p,cv a] H (GW K t t1 t2 w s c p (m-1)))(h:J (KW K t t1 t2 w s lp ls) p m H)(hM:m<M)(h1:lp.length+m≤c)(h2:ls.length+m≤c)(h3:m≠0)(a:Int):
  bN (run G) 152 [pv w,pv p,cv a] H (GW K t t1 t2 w s c p m):=by
 refine Ev.up (t:=λk=>aao (run G k) k (pv w) (pv p) (cv a) H) ?_ λk=>VD ..
 simp -implicitDefEqProofs only[aao,sS,Nat.reduceAdd];refine Ev.aG (iA _) λza=>?_
 refine Ev.aG (dx _) λzk=>?_
 try simp -implicitDefEqProofs only[sS,Nat.reduceAdd]
 refine Ev.eql (λhq=>?_) (λhq=>?_)<;>try simp -implicitDefEqProofs only[sS,Nat.reduceAdd]
 ·refine Ev.gw (XB ht hK hc h h1 h2 h3 _) λz lp ls m' H' hj hm g1 g2=>?_
  try simp -implicitDefEqProofs only[sS,Nat.reduceAdd]
  exact Ev.ret ⟨_,_,_,_,rfl,hj,by omega,g1,g2⟩
 refine Ev.eql (λhq=>?_) (λhq=>?_)<;>try simp -implicitDefEqProofs only[sS,Nat.reduceAdd]
 ·refine Ev.gw (ih h hM h1 h2 _) λz lp ls m' H' hj hm g1 g2=>?_
  try simp -implicitDefEqProofs only[sS,Nat.reduceAdd]
  exact Ev.ret ⟨_,_,_,_,rfl,hj,by omega,g1,g2⟩
 refine Ev.eql (λhq=>?_) (λhq=>?_)<;>try simp -implicitDefEqProofs only[sS,Nat.reduceAdd]
 ·refine Ev.num (cQ h _) λzr Hz mz hj hm=>?_
  refine Ev.aG (iA _) λza2=>?_
  refine Ev.gw (ih hj (by omega) (by omega) (by omega) _) λz lp ls m' H' hj hm g1 g2=>?_
  try simp -implicitDefEqProofs only[sS,Nat.reduceAdd]
  exact Ev.ret ⟨_,_,_,_,rfl,hj,by omega,g1,g2⟩
 ·exact Ev.ret ⟨_,_,_,_,rfl,h,by omega,h1,h2⟩
theorem ac4 (a b:Int):aI Tryz.prog 205 [(0,cv a),(1,cv b)]=some (.agg #[cv a,cv b]):=by kernel_rfl
theorem ac5 (a b:Int)(H:ae):aw Tryz.prog 133 1 [(0,.agg #[cv a,cv b])] H=some (.slice (some ⟨H.length,0,none⟩) 1 1,H.new ⟨[cv a,cv b],205,2,false⟩):=by kernel_rfl
theorem PV (ht:I1 p t t1 t2)(hK:cW [(p:Int),t,t1,t2] K)(hc:c≤2147483648): ∀(M:Nat) {m:Nat} {lp ls:PL} {H:ae},J (KW K t t1 t2 w s lp ls) p m H→m<M→lp.length+m≤c→ls.length+m≤c→∀a,bN (run G) 136 [pv w,pv p,cv a] H (GW K t t1 t2 w s c p (m-1)):=by
 intro M;induction M with
 |zero=>intro m lp ls H h hM;omega
 |succ M ih=>
 intro m lp ls H h hM h1 h2 a;refine Ev.up (t:=λk=>aci (run G k) k (pv w) (pv p) (cv a) H) ?_ λk=>WM ..
 obtain⟨a0,a1,a2,a3,a4⟩:=KW.ql h;have J0: ∀(x6 bK bW x8 x9 aK dC aU fO gl kG Ah:Value) (f:Int),Ev (λk=>yQ (run G k) k [pv w,pv p,cv a,x6,bK,cv f,bW,x8,x9,aK,dC,aU,fO,gl,kG,Ah] H) λr=>GW K t t1 t2 w s c p (m-1) r.1 r.2:=by
  intro x6 bK bW x8 x9 aK dC aU fO gl kG Ah f;simp -implicitDefEqProofs only[Ph,BH,sS,Nat.reduceAdd];refine Ev.kc (dp h _ _) λd i Hz mz hj hm=>?_
  simp -implicitDefEqProofs only[sS,Nat.reduceAdd];refine Ev.loop (k:=mz) (λk vs Hx=>∃(lp ls:PL) (i:Int) (x6 bK x7 bW aK dC aU fO gl kG Ah:Value),J (KW K t t1 t2 w s lp ls) p k Hx∧k≤mz∧lp.length+k≤c∧ls.length+k≤c∧vs=[pv w,pv p,cv a,x6,bK,x7,bW,cv d,cv i,aK,dC,aU,fO,gl,kG,Ah])
   (λr=>∃(lp ls:PL) (m2:Nat) (x9 x6 bK x7 bW aK dC aU fO gl kG Ah:Value),J (KW K t t1 t2 w s lp ls) p m2 r.2.2∧m2≤m-1∧lp.length+m2≤c∧ls.length+m2≤c∧r.2.1=[pv w,pv p,cv a,x6,bK,x7,bW,cv d,x9,aK,dC,aU,fO,gl,kG,Ah]∧(r.1= .exit 0∨(r.1= .ret∧∃z,x6= .bool z))) ⟨_,_,_,_,_,_,_,_,_,_,_,_,_,_,hj,Nat.le_refl _,by omega,by omega,rfl⟩ ?_ ?_
  ·rintro k vs Hx ⟨lp,ls,i,x6,bK,x7,bW,aK,dC,aU,fO,gl,kG,Ah,hj,hk,g1,g2,rfl⟩;simp -implicitDefEqProofs only[Pg,BG,sS,Nat.reduceAdd];refine Ev.off hj (λhq=>?_) (λhq=>?_)<;>try simp -implicitDefEqProofs only[sS,Nat.reduceAdd]
   ·exact Ev.ret (.inr ⟨by simp,_,_,_,_,_,_,_,_,_,_,_,_,_,_,_,hj,by omega,g1,g2,rfl,.inl rfl⟩)
   refine Ev.aG (bX _ _ _) λzc=>?_
   refine Ev.num (fj hj _) λzw Hz mz2 hj GI=>?_
   try simp -implicitDefEqProofs only[sS,Nat.reduceAdd]
   refine Ev.off hj (λhq=>?_) (λhq=>?_)<;>try simp -implicitDefEqProofs only[sS,Nat.reduceAdd]
   ·exact Ev.ret (.inr ⟨by simp,_,_,_,_,_,_,_,_,_,_,_,_,_,_,_,hj,by omega,by omega,by omega,rfl,.inl rfl⟩)
   obtain⟨xp,b0,b1⟩:=KW.ahB ht hK hj (by omega)
   obtain⟨x',l',H2,H3,b2,b3,lu,hl⟩:=b1 205 205 zc zw;simp -implicitDefEqProofs only[b0,ac4,ac5,b2,b3,sS,Nat.reduceAdd];refine Ev.gw (XC ht hK hc (M:=M) (λ{m lp ls H} hj hM g1 g2 a=>ih hj hM g1 g2 a) lu (by omega) (by omega) (by omega) (by omega) _) λz lp ls m' H' hj GD g1 g2=>?_
   obtain⟨a0,a1,a2,a3,a4⟩:=KW.ql hj;cases z<;>simp -implicitDefEqProofs only[a2,sS,Nat.reduceAdd]
   ·cases hb:s.back<;>simp -implicitDefEqProofs only[sS,Nat.reduceAdd]
    ·refine Ev.eql (λhq=>?_) (λhq=>?_)<;>try simp -implicitDefEqProofs only[sS,Nat.reduceAdd]
     ·exact Ev.ret (.inr ⟨by simp,_,_,_,_,_,_,_,_,_,_,_,_,_,_,_,hj,by omega,g1,g2,rfl,.inr ⟨rfl,_,rfl⟩⟩)
     ·refine Ev.aG (cS _ _) λzk=>?_
      refine Ev.num (cQ hj _) λzr Hz mz3 sN YJ=>?_
      obtain⟨c0,c1,c2,c3,c4⟩:=KW.ql sN;simp -implicitDefEqProofs only[a1,c1,sS,Nat.reduceAdd];refine Ev.gtr (λhq=>?_) (λhq=>?_)<;>try simp -implicitDefEqProofs only[a1,c1,sS,Nat.reduceAdd]
      ·exact Ev.ret (.inr ⟨by simp,_,_,_,_,_,_,_,_,_,_,_,_,_,_,_,sN,by omega,by omega,by omega,rfl,.inr ⟨rfl,_,rfl⟩⟩)
      ·exact Ev.ret (.inl ⟨rfl,_,by omega,_,_,_,_,_,_,_,_,_,_,_,_,_,_,sN,by omega,by omega,by omega,rfl⟩)
    ·refine Ev.eql (λhq=>?_) (λhq=>?_)<;>try simp -implicitDefEqProofs only[sS,Nat.reduceAdd]
     ·exact Ev.ret (.inr ⟨by simp,_,_,_,_,_,_,_,_,_,_,_,_,_,_,_,hj,by omega,g1,g2,rfl,.inr ⟨rfl,_,rfl⟩⟩)
     ·refine Ev.aG (cS _ _) λzk=>?_
      refine Ev.num (cQ hj _) λzr Hz mz3 sN YJ=>?_
      obtain⟨c0,c1,c2,c3,c4⟩:=KW.ql sN;simp -implicitDefEqProofs only[a0,c0,sS,Nat.reduceAdd];refine Ev.leq (λhq=>?_) (λhq=>?_)<;>try simp -implicitDefEqProofs only[a0,c0,sS,Nat.reduceAdd]
      ·exact Ev.ret (.inr ⟨by simp,_,_,_,_,_,_,_,_,_,_,_,_,_,_,_,sN,by omega,by omega,by omega,rfl,.inr ⟨rfl,_,rfl⟩⟩)
      ·exact Ev.ret (.inl ⟨rfl,_,by omega,_,_,_,_,_,_,_,_,_,_,_,_,_,_,sN,by omega,by omega,by omega,rfl⟩)
   ·exact Ev.ret (.inr ⟨by simp,_,_,_,_,_,_,_,_,_,_,_,_,_,_,_,hj,by omega,g1,g2,rfl,.inr ⟨rfl,_,rfl⟩⟩)
  ·rintro e vs Hx ⟨lp,ls,m2,x9,x6,bK,x7,bW,aK,dC,aU,fO,gl,kG,Ah,hj,GI,g1,g2,rfl,he⟩;rcases he with he|⟨he,z,rfl⟩
   ·simp only at he;subst he;simp -implicitDefEqProofs only[Pf,BF,sS,Nat.reduceAdd];exact Ev.ret ⟨_,_,_,_,rfl,hj,by omega,g1,g2⟩
   ·simp only at he;subst he;show Ev (λ_=>some (Value.bool z,Hx)) _
    exact Ev.ret ⟨_,_,_,_,rfl,hj,by omega,g1,g2⟩
 simp -implicitDefEqProofs only[aci,a0,a2,sS,Nat.reduceAdd];cases hb:s.back<;>simp -implicitDefEqProofs only[a1,sS,Nat.reduceAdd]
 ·exact J0 ..
 ·exact J0 ..
end
theorem XD (h:J K p m H)(hx: ∀H o,K H o→ee H o q x l)(hq:q≠(p:Int))(hl:l.length≤2147483648):bN (run G) 137 [pv p,x] H (Xt K p m):=by
 refine Ev.up (t:=λk=>abn (run G k) k (pv p) x H) ?_ λk=>Wf ..
 simp -implicitDefEqProofs only[abn,sS,Nat.reduceAdd];refine Ev.loop (k:=l.length) (λk vs Hx=>∃(i m2:Nat) (x4 bn dI:Value),J K p m2 Hx∧m2≤m∧i+k=l.length∧vs=[pv p,x,x4,cv i,bn,dI])
  (λr=>(∃m2,J K p m2 r.2.2∧m2≤m)∧∃(x4 x5 bn dI:Value),r.2.1=[pv p,x,x4,x5,bn,dI]∧(r.1= .exit 0∨(r.1= .ret∧∃z,x4= .bool z))) ⟨0,m,_,_,_,h,Nat.le_refl _,by omega,rfl⟩ ?_ ?_
 ·rintro k vs Hx ⟨i,m2,x4,bn,dI,hj,hm,hik,rfl⟩;obtain⟨_,o1,JA,Ls⟩:=id hj;have hs:=hx _ _ Ls;simp -implicitDefEqProofs only[OO,A7,hs.len,sS,Nat.reduceAdd];refine Ev.lss (λLw=>?_) (λLw=>?_)<;>try simp -implicitDefEqProofs only[sS,Nat.reduceAdd]
  ·obtain⟨ib,off,b,e1,e2,e3,e4⟩:=hs.idx (j:=i) (by omega)
   obtain⟨e5,e6,_⟩:=e4 _ e2;refine Ev.off hj (λrB=>?_) (λrB=>?_)<;>try simp -implicitDefEqProofs only[e1,ax,Nat.add_zero,e5,sS,Nat.reduceAdd]
   ·exact Ev.ret (.inr ⟨by simp,⟨_,hj,hm⟩,_,_,_,_,rfl,.inl rfl⟩)
   have hjB:J (λH o=>K H o∧H.get ib=some b∧o ib=q) p m2 Hx:=⟨hj.1.and λH o H' o' a f=>⟨by rw[f.same ib (aq a.1) (by rw[a.2];simpa using hq)];exact a.1,by rw[f.own ib (aq a.1)];exact a.2⟩,o1,JA,Ls,e2,e3⟩
   refine Ev.num (fj hjB _) λzw Hz mz jJ GI=>?_
   have lu:=jJ.mono hj.1 λo a=>a.1
   obtain⟨_,o2,QO,hk2,g2,_⟩:=id jJ;obtain⟨e7,e8,_⟩:=e4 _ g2;simp -implicitDefEqProofs only[e1,ax,e6,e8,sS,Nat.reduceAdd];have hw:IntKind.i64.wrap ((i:Int)+1)=((i+1:Nat):Int):=by rw[jE (by omega)];omega
   refine Ev.neq (λhq=>?_) (λhq=>?_)<;>try simp -implicitDefEqProofs only[e6,e8,hw,sS,Nat.reduceAdd]
   ·exact Ev.ret (.inr ⟨by simp,⟨_,lu,by omega⟩,_,_,_,_,rfl,.inr ⟨rfl,_,rfl⟩⟩)
   ·exact Ev.ret (.inl ⟨rfl,k-1,by omega,i+1,mz,_,_,_,lu,by omega,by omega,rfl⟩)
  ·exact Ev.ret (.inr ⟨by simp,⟨_,hj,hm⟩,_,_,_,_,rfl,.inl rfl⟩)
 ·rintro e vs Hx ⟨⟨m2,hj,hm⟩,x4,x5,bn,dI,rfl,he⟩;rcases he with he|⟨he,z,rfl⟩
  ·simp only at he;subst he;simp -implicitDefEqProofs only[OP,A8,sS,Nat.reduceAdd];exact Ev.ret ⟨_,rfl,_,hj,hm⟩
  ·simp only at he;subst he;show Ev (λ_=>some (Value.bool z,Hx)) _
   exact Ev.ret ⟨_,rfl,_,hj,hm⟩
end
section
variable {G:ag} {H H':ae} {o o':an} {p m c:Nat} {K K':ae→an→Prop} {t t1 t2 q:Int} {x:Value} {l lp ls:PL} {n i:Nat} {cs:List Value} {T:TypeId}
theorem KW.mono {w:Nat}{s:WS}(h:J (KW K t t1 t2 w s lp ls) p m H)(ht:I1 p t t1 t2)(hK':cW [(p:Int),t,t1,t2] K')(k: ∀H o,K H o→K' H o):J (KW K' t t1 t2 w s lp ls) p m H:=h.mono (KW.js ht hK') λo a=>⟨k _ _ a.1,a.2⟩
structure KWx (K:ae→an→Prop) (t t1 t2:Int) (w:Nat) (s:WS) (xp xs:Value) (lp ls:PL) (H:ae) (o:an):Prop where
 k:K H o
 g: ∃ty,H.get w=some ⟨PU s xp xs,ty,1,false⟩
 ow:o w=t
 sp:fF H o t1 xp lp
 ss:fF H o t2 xs ls
theorem KWx.js {w:Nat}{s:WS}{xp xs:Value}(ht:I1 p t t1 t2)(hK:cW [(p:Int),t,t1,t2] K):cW [(p:Int)] (KWx K t t1 t2 w s xp xs lp ls):=λH o H' o' h f=>by
 obtain⟨ty,g⟩:=h.g;exact⟨hK _ _ _ _ h.k (f.wk (by simp)),⟨ty,by rw[f.same w (aq g) (by rw[h.ow];simpa using ht.a.ne)];exact g⟩,by rw[f.own w (aq g)];exact h.ow,fF.fr h.sp f (by simpa using ht.a1.ne),fF.fr h.ss f (by simpa using ht.a2.ne)⟩
theorem KW.ex {w:Nat}{s:WS}(h:J (KW K t t1 t2 w s lp ls) p m H)(ht:I1 p t t1 t2)(hK:cW [(p:Int),t,t1,t2] K): ∃xp xs,J (KWx K t t1 t2 w s xp xs lp ls) p m H:=by
 obtain⟨_,o,hr,hk,xp,xs,ty,g,ho,h1,h2⟩:=h;exact⟨xp,xs,KWx.js ht hK,o,hr,hk,⟨ty,g⟩,ho,h1,h2⟩
theorem ac6:aI Tryz.prog 135 [(0,cv (-9223372036854775808)),(1,cv 9223372036854775807),(3,cv 1),(4,.bool true)]=some (.agg #[cv (-9223372036854775808),cv 9223372036854775807,.bool false,cv 1,.bool true,aB,aB]):=by kernel_rfl
theorem XE (s:WS)(H:ae):cB 135 (.agg #[cv s.lo,cv s.hi,.bool s.back,cv s.TS,.bool s.values,aB,aB]) H=some (pv H.length,H.new ⟨PU s aB aB,135,1,false⟩):=by
 simp[cB,Value.cells,aD,aO]
theorem XF (ht:I1 p t t1 t2)(h9:t≠ -9∧t1≠ -9∧t2≠ -9)(hK:cW [(p:Int),t,t1,t2] K)(h:J K p m H)(op:jZ):bN (run G) 161 [iG op] H λv H'=>∃w s,v=pv w∧J (KW K t t1 t2 w s [] []) p m H':=by
 refine Ev.up (t:=λk=>Z9 (run G k) k (iG op) H) ?_ λk=>Vs ..
 obtain⟨i0,e0⟩: ∃i,i=H.length:=⟨_,rfl⟩;obtain⟨w,e1⟩: ∃i,i=H.length+1:=⟨_,rfl⟩;obtain⟨H1,iI⟩: ∃z,z=H.new ⟨qj op,39,1,false⟩:=⟨_,rfl⟩;have l1:H1.length=H.length+1:=by rw[iI,bh]
 have Ql:cW [(p:Int),t,t1,t2] λH o=>K H o∧Cl i0 (qj op) 39 H o:=hK.and λH o H' o' a f=>a.fr f (by simp;omega)
 have kY:J (λH o=>K H o∧Cl i0 (qj op) 39 H o) p m H1:=by
  rw[iI];refine h.tM _ _ 1 (Ql.of (by simp)) λo hk f=>⟨hK _ _ _ _ hk (f.wk (by simp)),?_⟩
  rw[e0];exact Cl.made
 let s0:WS:=⟨-9223372036854775808,9223372036854775807,false,1,true⟩
 obtain⟨H2,jt⟩: ∃z,z=H1.new ⟨PU s0 aB aB,135,1,false⟩:=⟨_,rfl⟩;have jJ:J (KW (λH o=>K H o∧Cl i0 (qj op) 39 H o) t t1 t2 w s0 [] []) p m H2:=by
  obtain⟨_,o,hr,hk⟩:=kY;have f:Fr H1 o H2 (o.up H1.length t) []:=by rw[jt];exact(Fr.refl H1 o []).new _ _
  refine⟨KW.js ht Ql,_,hr.fr f (by simp) (by simp) (by simp),Ql _ _ _ _ hk (f.wk (by simp)),aB,aB,135,?_,?_,.inl ⟨rfl,rfl⟩,.inl ⟨rfl,rfl⟩⟩
  ·rw[jt,e1, ←l1];exact az
  ·rw[e1, ←l1];exact aQ
 have bx:=tJ op H;rw[←e0, ←iI] at bx;have bw:=XE s0 H1;rw[←jt,l1, ←e1] at bw;have L0: ∀{s:WS} {m':Nat} {H':ae},J (KW (λH o=>K H o∧Cl i0 (qj op) 39 H o) t t1 t2 w s [] []) p m' H'→au (pv i0) H'=some (cv op.kind)∧au (.pointer (some ⟨i0,1,none⟩)) H'=some (cv op.key)∧au (.pointer (some ⟨i0,2,none⟩)) H'=some (cv op.value):=λhj=>by
  obtain⟨_,o,_,⟨_,g,_⟩,_⟩:=hj;exact⟨ak i0 0 _ g,ak i0 1 _ g,ak i0 2 _ g⟩
 have J0: ∀{s:WS} {H':ae} (x2 x7 x8 bz cx cJ:Value),J (KW (λH o=>K H o∧Cl i0 (qj op) 39 H o) t t1 t2 w s [] []) p m H'→Ev (λk=>pt (run G k) k [iG op,x2,pv i0,x7,x8,pv w,bz,cx,cJ] H') λr=>∃w s,r.1=pv w∧J (KW K t t1 t2 w s [] []) p m r.2:=by
  intro s H' x2 x7 x8 bz cx cJ hj;simp -implicitDefEqProofs only[Of,Aq,sS,Nat.reduceAdd];exact Ev.ret ⟨w,s,rfl,KW.mono hj ht hK λH o a=>a.1⟩
 have J1: ∀{s:WS} {H':ae} (b:Bool) (x2 x7 x8 bz cx:Value),J (KW (λH o=>K H o∧Cl i0 (qj op) 39 H o) t t1 t2 w s [] []) p m H'→Ev (λk=>yC (run G k) k [iG op,x2,pv i0,x7,x8,pv w,bz,cx,.bool b] H') λr=>∃w s,r.1=pv w∧J (KW K t t1 t2 w s [] []) p m r.2:=by
  intro s H' b x2 x7 x8 bz cx hj;simp -implicitDefEqProofs only[Og,Ar,sS,Nat.reduceAdd];cases b<;>simp -implicitDefEqProofs only[sS,Nat.reduceAdd]
  ·exact J0 _ _ _ _ _ _ hj
  ·obtain⟨a0,a1,a2⟩:=L0 hj;obtain⟨H3,g3,lu⟩:=KW.afk ht Ql hj op.key;obtain⟨b0,b1,b2⟩:=L0 lu;obtain⟨H4,g4,sN⟩:=KW.afl ht Ql lu op.value;obtain⟨H5,g5,sT⟩:=KW.ahC ht Ql sN 0;obtain⟨c0,c1,c2⟩:=L0 sT;simp -implicitDefEqProofs only[a1,Nat.add_zero,g3,b2,g4,g5,c0,sS,Nat.reduceAdd];refine Ev.eql (λhq=>?_) (λhq=>?_)<;>try simp -implicitDefEqProofs only[sS,Nat.reduceAdd]
   ·obtain⟨H6,g6,vP⟩:=KW.afm ht Ql sT true;simp -implicitDefEqProofs only[g6,sS,Nat.reduceAdd];exact J0 _ _ _ _ _ _ vP
   ·obtain⟨H6,g6,vP⟩:=KW.afm ht Ql sT false;simp -implicitDefEqProofs only[g6,sS,Nat.reduceAdd];exact J0 _ _ _ _ _ _ vP
 obtain⟨a0,a1,a2⟩:=L0 jJ;simp -implicitDefEqProofs only[Z9,bx,ac6,Nat.add_zero,sS,Nat.reduceAdd];have bw':cB 135 (.agg #[cv (-9223372036854775808),cv 9223372036854775807,.bool false,cv 1,.bool true,aB,aB]) H1=some (pv w,H2):=bw;simp -implicitDefEqProofs only[bw',a0,Nat.add_zero,sS,Nat.reduceAdd];refine Ev.eql (λhq=>?_) (λhq=>?_)<;>try simp -implicitDefEqProofs only[a1,sS,Nat.reduceAdd]
 ·obtain⟨H3,g3,lu⟩:=KW.afl ht Ql jJ op.key;obtain⟨H4,g4,sN⟩:=KW.TN ht Ql lu true;simp -implicitDefEqProofs only[g3,g4,sS,Nat.reduceAdd];exact J0 _ _ _ _ _ _ sN
 refine Ev.eql (λhq=>?_) (λhq=>?_)<;>try simp -implicitDefEqProofs only[a1,sS,Nat.reduceAdd]
 ·obtain⟨H3,g3,lu⟩:=KW.afk ht Ql jJ op.key;simp -implicitDefEqProofs only[Nat.add_zero,g3,sS,Nat.reduceAdd];exact J0 _ _ _ _ _ _ lu
 refine Ev.eql (λhq=>?_) (λhq=>?_)<;>try simp -implicitDefEqProofs only[a1,sS,Nat.reduceAdd]
 ·obtain⟨H3,g3,lu⟩:=KW.TN ht Ql jJ true;simp -implicitDefEqProofs only[g3,sS,Nat.reduceAdd];exact J0 _ _ _ _ _ _ lu
 refine Ev.eql (λhq=>?_) (λhq=>?_)<;>try simp -implicitDefEqProofs only[a1,sS,Nat.reduceAdd]
 ·exact J1 true _ _ _ _ _ jJ
 refine Ev.eql (λhq=>?_) (λhq=>?_)<;>try simp -implicitDefEqProofs only[a1,sS,Nat.reduceAdd]
 ·exact J1 true _ _ _ _ _ jJ
 ·exact J1 false _ _ _ _ _ jJ
theorem TU (h:J K p m H)(hs: ∀H o,K H o→ee H o q x l)(hl:l.length≤2147483648)(op:jZ):bN (run G) 162 [iG op,x] H λv H'=>∃r s,v=c8 r s∧J K p m H'∧((s=x∧r.list=l)∨(s=aB∧r.list=[])):=by
 refine Ev.up (t:=λk=>aar (run G k) k (iG op) x H) ?_ λk=>VG ..
 obtain⟨i0,e0⟩: ∃i,i=H.length:=⟨_,rfl⟩;obtain⟨i1,e1⟩: ∃i,i=H.length+1:=⟨_,rfl⟩;obtain⟨H1,iI⟩: ∃z,z=H.new ⟨qj op,39,1,false⟩:=⟨_,rfl⟩;have l1:H1.length=H.length+1:=by rw[iI,bh]
 obtain⟨H2,jt⟩: ∃z,z=H1.new ⟨rc bZ,45,1,false⟩:=⟨_,rfl⟩;have jJ:J K p m H2:=by rw[jt,iI];exact(h.new _).new _
 have bx:=tJ op H;rw[←e0, ←iI] at bx;have n1:aO H1 45 1 [cv 0,.bool false,cv 0,cv 0,cv 0,aB]=(pv i1,H2):=by rw[jt,e1, ←l1];rfl
 have g0:H2.get i0=some ⟨qj op,39,1,false⟩:=by rw[jt,cr (by omega),iI,e0];exact az
 have g1:H2.get i1=some ⟨rc bZ,45,1,false⟩:=by rw[jt,e1, ←l1];exact az
 have a0:au (pv i0) H2=some (cv op.kind):=ak i0 0 _ g0;obtain⟨_,o2,_,hk2⟩:=id jJ;have vV:=hs _ _ hk2;obtain⟨xa,xc,ex⟩:=vV.isSlice;have fin: ∀(r:dF) (s:Value),(∃a m c,s= .slice a m c)→∃H3,bS 6 (pv i1) (c8 r s) H2=some (undef,H3)∧bV 6 (pv i1) H3=some (c8 r s)∧J K p m H3:=λr s nP=>by
  obtain⟨a,mm,cc,es⟩:=nP;refine⟨_,tK i1 r es H2 g1 rfl,jR _ _ _ (aH g1),h.GN λo=>⟨(o.up H.length (-9)).up H1.length (-9),?_⟩⟩
  rw[jt,iI];have f1:Fr H o (H.new ⟨qj op,39,1,false⟩) (o.up H.length (-9)) []:=(Fr.refl H o []).new _ _;have f2:=f1.new ⟨rc bZ,45,1,false⟩ (-9);exact f2.put λhh=>by omega
 simp -implicitDefEqProofs only[aar,bx,n1,a0,Nat.add_zero,sS,Nat.reduceAdd];refine Ev.eql (λhq=>?_) (λhq=>?_)<;>try simp -implicitDefEqProofs only[sS,Nat.reduceAdd]
 ·obtain⟨H3,b1,b2,lu⟩:=fin ⟨0,false,0,0,0,l⟩ x ⟨_,_,_,ex⟩;have ab:aI Tryz.prog 45 [(4,x)]=some (c8 ⟨0,false,0,0,0,l⟩ x):=by rw[ex];exact Xe _ _ _
  simp -implicitDefEqProofs only[ab,b1,b2,sS,Nat.reduceAdd];exact Ev.ret ⟨_,_,rfl,lu,.inl ⟨rfl,rfl⟩⟩
 try simp -implicitDefEqProofs only[a0,sS,Nat.reduceAdd]
 refine Ev.eql (λhq=>?_) (λhq=>?_)<;>try simp -implicitDefEqProofs only[vV.len,sS,Nat.reduceAdd]
 ·obtain⟨H3,b1,b2,lu⟩:=fin ⟨0,false,0,0,l.length,[]⟩ aB ⟨_,_,_,rfl⟩;simp -implicitDefEqProofs only[acH,b1,b2,sS,Nat.reduceAdd];exact Ev.ret ⟨_,_,rfl,lu,.inr ⟨rfl,rfl⟩⟩
 refine Ev.eql (λhq=>?_) (λhq=>?_)<;>try simp -implicitDefEqProofs only[sS,Nat.reduceAdd]
 ·obtain⟨H3,b1,b2,lu⟩:=fin bZ aB ⟨_,_,_,rfl⟩;simp -implicitDefEqProofs only[yc,b1,b2,sS,Nat.reduceAdd];exact Ev.ret ⟨_,_,rfl,lu,.inr ⟨rfl,rfl⟩⟩
 ·obtain⟨i,off,b,e1,e2,e3,e4⟩:=vV.idx (j:=0) (by omega)
  obtain⟨e5,e6,e7⟩:=e4 H2 e2;simp only[Int.natCast_zero] at e1;obtain⟨H3,b1,b2,lu⟩:=fin (kr ((l.getD 0 (0,0)).1,(l.getD 0 (0,0)).2,true)) aB ⟨_,_,_,rfl⟩;simp -implicitDefEqProofs only[e1,e7,Tf,b1,b2,sS,Nat.reduceAdd];exact Ev.ret ⟨_,_,rfl,lu,.inr ⟨rfl,mB _⟩⟩
abbrev ahD (K:ae→an→Prop)(p c:Nat):Value→ae→Prop:=λv H'=>∃r s,v=c8 r s∧r.list.length≤c∧∃m',J (λH o=>K H o∧ee H o (-41) s r.list) p m' H'∧m'≤c
theorem gj.relabel {x:Value}{l:List Int}(h:gj H o q x l)(k: ∀i,i<H.length→o i=q→o' i=q):gj H o' q x l:=⟨h.1,λb n c e eC=>⟨(h.2 b n c e eC).1,k _ (h.2 b n c e eC).1 (h.2 b n c e eC).2⟩⟩
theorem Ca.relabel (h:Ca H o p m)(k: ∀i,i<H.length→(o i=(p:Int)∨o i= -50∨o i= -51)→o' i=o i):Ca H o' p m:=by
 obtain⟨tape,w,T,W,i,nk,na,nx,ny,rec,laid,ty,g,ho,ht,hT,hw,hi⟩:=h;exact⟨tape,w,T,W,i,nk,na,nx,ny,rec,laid,ty,g,by rw[k p (aq g) (.inl ho)];exact ho,gj.relabel ht λi hi hh=>by rw[k i hi (.inr (.inl hh))];exact hh,hT,gj.relabel hw λi hi hh=>by rw[k i hi (.inr (.inr hh))];exact hh,hi⟩
abbrev PW (r:dF)(s:Value):List Value:=[cv r.pH,.bool r.found,cv r.key,cv r.value,cv r.n,s]
theorem XG (h:J K p m H)(hM:m≤2147483648)(op:jZ)(dG:Int):bN (run G) 145 [pv p,iG op,cv dG] H (ahD K p m):=by
 refine Ev.up (t:=λk=>Z3 (run G k) k (pv p) (iG op) (cv dG) H) ?_ λk=>Vp ..
 obtain⟨hK,b,hr,hk⟩:=id h;obtain⟨i0,e0⟩: ∃i,i=H.length:=⟨_,rfl⟩;obtain⟨i1,e1⟩: ∃i,i=H.length+1:=⟨_,rfl⟩;obtain⟨t,YH,htf⟩:=j5 b H.length;have ht:I1 p t (t-1) (t-2):=⟨⟨by omega,by omega,by omega⟩,⟨by omega,by omega,by omega⟩,⟨by omega,by omega,by omega⟩,by omega,by omega,by omega⟩
 let KQ:ae→an→Prop:=λH' o=>Fr H b H' o [t,t-1,t-2,(p:Int)]∧Cl i0 (qj op) 39 H' o∧Cl i1 (rc bZ) 45 H' o
 have hKQ:cW [(p:Int),t,t-1,t-2] KQ:=(cW.base (by simp)).and ((show cW _ _ from λH o H' o' a f=>a.fr f (by simp;omega)).and λH o H' o' a f=>a.fr f (by simp;omega))
 have TV:cW [(p:Int)] KQ:=hKQ.of (by simp)
 obtain⟨H1,iI⟩: ∃z,z=H.new ⟨qj op,39,1,false⟩:=⟨_,rfl⟩;have l1:H1.length=H.length+1:=by rw[iI,bh]
 obtain⟨H2,jt⟩: ∃z,z=H1.new ⟨rc bZ,45,1,false⟩:=⟨_,rfl⟩;have kY:J (λH' o=>Fr H b H' o [t,t-1,t-2,(p:Int)]∧Cl i0 (qj op) 39 H' o) p m H1:=by
  rw[iI];have XA:J (λH' o=>Fr H b H' o [t,t-1,t-2,(p:Int)]) p m H:=⟨cW.base (by simp),b,hr,Fr.refl _ _ _⟩
  refine XA.tM _ _ 1 ((cW.base (by simp)).and λH o H' o' a f=>a.fr f (by simp)) λo hk f=>⟨hk.new _ _,?_⟩
  rw[e0];exact Cl.made
 have jJ:J KQ p m H2:=by
  rw[jt];refine kY.tM _ _ 1 TV λo hk f=>⟨hk.1.new _ _,hk.2.new,?_⟩
  rw[e1, ←l1];exact Cl.made
 have bx:=tJ op H;rw[←e0, ←iI] at bx;have n1:aO H1 45 1 [cv 0,.bool false,cv 0,cv 0,cv 0,aB]=(pv i1,H2):=by rw[jt,e1, ←l1];rfl
 have ql: ∀{m':Nat} {H':ae},J KQ p m' H'→au (pv i0) H'=some (cv op.kind)∧au (.pointer (some ⟨i0,1,none⟩)) H'=some (cv op.key)∧bV 3 (pv i0) H'=some (iG op):=λhj=>by
  obtain⟨_,o,_,_,g,_⟩:=hj;exact⟨ak i0 0 _ g.1,ak i0 1 _ g.1,Qj g.1⟩
 let KE:dF→Value→ae→an→Prop:=λr s H' o=>Fr H b H' o [t,t-1,t-2,(p:Int)]∧Cl i1 (PW r s) 45 H' o∧ee H' o (t-1) s r.list
 have hKE: ∀r s,cW [(p:Int)] (KE r s):=λr s=>(cW.base (by simp)).and ((show cW _ _ from λH o H' o' a f=>a.fr f (by simp)).and λH o H' o' a f=>a.fr f (by simp;omega))
 have fin: ∀{m':Nat} {H':ae} (r:dF) (s:Value),(∃a m c,s= .slice a m c)→J (λH o=>KQ H o∧ee H o (t-1) s r.list) p m' H'→∃H3,bS 6 (pv i1) (c8 r s) H'=some (undef,H3)∧bV 6 (pv i1) H3=some (c8 r s)∧J (KE r s) p m' H3:=λ{m' H'} r s nP hj=>by
  obtain⟨a,mm,cc,es⟩:=nP;obtain⟨_,o',QO,rB,vV⟩:=hj;have f:Fr H' o' (H'.put i1 ⟨PW r s,45,1,false⟩) o' [-9]:=(Fr.refl _ o' [-9]).put λ_=>by simp[rB.2.2.2]
  exact⟨_,tK i1 r es _ rB.2.2.1 rfl,jR _ _ _ (aH rB.2.2.1),hKE r s,o',QO.fr f (by simp) (by simp) (by simp),rB.1.put λhh=>by omega,rB.2.2.self,vV.fr f (by simp;omega)⟩
 have out: ∀{m':Nat} {H':ae} {r:dF} {s:Value},J (KE r s) p m' H'→J (λH o=>K H o∧ee H o (-41) s r.list) p m' H':=λ{m' H' r s} hj=>by
  obtain⟨_,o,JA,hf,hc,hs⟩:=hj;have f3:Fr H b H' o [(p:Int)]:=nI (nI (nI hf λi hi=>by have:=htf i hi;omega) λi hi=>by have:=htf i hi;omega) λi hi=>by have:=htf i hi;omega
  let o':an:=λi=>if o i=t-1 then -41 else o i
  refine⟨hK.and (cW.lZ (by simp)),o',JA.relabel λi hi hh=>?_,hK _ _ _ _ hk ⟨f3.slot,λi hi=>?_,f3.size⟩,hs.relabel λi hi hh=>?_⟩
  ·show(if o i=t-1 then(-41:Int) else o i)=o i
   rw[if_neg (by omega)]
  ·show(if o i=t-1 then(-41:Int) else o i)=b i
   have:=f3.own i hi
   have:=htf i hi
   rw[if_neg (by omega)];exact f3.own i hi
  ·show(if o i=t-1 then(-41:Int) else o i)= -41
   rw[if_pos hh]
 have NU: ∀{m':Nat} {H':ae} (r:dF),r.list=[]→J KQ p m' H'→∃H3,bS 6 (pv i1) (c8 r aB) H'=some (undef,H3)∧bV 6 (pv i1) H3=some (c8 r aB)∧J (KE r aB) p m' H3:=λr hl hj=>fin r aB ⟨_,_,_,rfl⟩ (hj.mono (TV.and (cW.lZ (by simp;omega))) λo a=>⟨a,by rw[hl];exact .nil⟩)
 obtain⟨a0,a1,a2⟩:=ql jJ;simp -implicitDefEqProofs only[Z3,bx,n1,a0,Nat.add_zero,sS,Nat.reduceAdd];refine Ev.eql (λhq=>?_) (λhq=>?_)<;>try simp -implicitDefEqProofs only[a1,sS,Nat.reduceAdd]
 ·refine Ev.dB (gO jJ _) λz zb Hz mz hj hm=>?_
  obtain⟨b0,b1,b2⟩:=ql hj;cases zb<;>simp -implicitDefEqProofs only[b1,sS,Nat.reduceAdd]
  ·obtain⟨H3,c1,c2,lu⟩:=NU bZ rfl hj;simp -implicitDefEqProofs only[yc,c1,c2,sS,Nat.reduceAdd];exact Ev.ret ⟨_,_,rfl,by simp[bZ],_,out lu,by omega⟩
  ·obtain⟨H3,c1,c2,lu⟩:=NU (kr (op.key,z,true)) (mB _) hj;simp -implicitDefEqProofs only[Cg,Tf,c1,c2,sS,Nat.reduceAdd];exact Ev.ret ⟨_,_,rfl,by rw[mB];simp,_,out lu,by omega⟩
 refine Ev.loop (k:=m) (λk vs Hx=>∃(i:Int) (aR x8 bJ x7 dL aK dQ fG:Value),J KQ p k Hx∧k≤m∧vs=[pv p,iG op,cv dG,pv i1,pv i0,aR,x8,bJ,x7,cv i,dL,aK,dQ,fG])
  (λr=>∃(m2:Nat) (aR x8 bJ x7 x9 dL aK dQ fG:Value),m2≤m∧r.2.1=[pv p,iG op,cv dG,pv i1,pv i0,aR,x8,bJ,x7,x9,dL,aK,dQ,fG]∧((r.1= .exit 0∧J KQ p m2 r.2.2)∨(r.1= .ret∧∃rr s,J (KE rr s) p m2 r.2.2∧rr.list.length≤m))) ⟨_,_,_,_,_,_,_,_,_,jJ,Nat.le_refl _,rfl⟩ ?_ ?_
 ·rintro k vs Hx ⟨i,aR,x8,bJ,x7,dL,aK,dQ,fG,hj,hkm,rfl⟩;obtain⟨b0,b1,b2⟩:=ql hj;simp -implicitDefEqProofs only[Oe,Ap,sS,Nat.reduceAdd];refine Ev.lss (λhq=>?_) (λhq=>?_)<;>try simp -implicitDefEqProofs only[sS,Nat.reduceAdd]
  ·refine Ev.off hj (λhq0=>?_) (λhq0=>?_)<;>try simp -implicitDefEqProofs only[b2,sS,Nat.reduceAdd]
   ·exact Ev.ret (.inr ⟨by simp,_,_,_,_,_,_,_,_,_,_,hkm,rfl,.inl ⟨rfl,hj⟩⟩)
   refine Ev.call (XF ht ⟨by omega,by omega,by omega⟩ hKQ hj op) ?_
   rintro v H3 ⟨w,s,rfl,hj⟩
   try simp -implicitDefEqProofs only[sS,Nat.reduceAdd]
   refine Ev.gw (PV ht hKQ (c:=m) hM (k+1) hj (by omega) (by simp;omega) (by simp;omega) _) λz lp ls m2 H4 hj GI g1 g2=>?_
   have hjq:=hj.mono TV λo a=>a.1
   try simp -implicitDefEqProofs only[sS,Nat.reduceAdd]
   refine Ev.off hj (λrB=>?_) (λrB=>?_)<;>try simp -implicitDefEqProofs only[sS,Nat.reduceAdd]
   ·exact Ev.ret (.inr ⟨by simp,_,_,_,_,_,_,_,_,_,_,(show m2≤m by omega),rfl,.inl ⟨rfl,hjq⟩⟩)
   obtain⟨xp,xs,Dg⟩:=KW.ex hj ht hKQ;have ldx: ∀{m':Nat} {H':ae},J (KWx KQ t (t-1) (t-2) w s xp xs lp ls) p m' H'→au (.pointer (some ⟨w,6,none⟩)) H'=some xs∧au (.pointer (some ⟨w,5,none⟩)) H'=some xp∧bV 3 (pv i0) H'=some (iG op):=λhj=>by
    obtain⟨_,o,_,hx⟩:=hj;obtain⟨ty,g⟩:=hx.g;exact⟨ak w 6 _ g,ak w 5 _ g,Qj hx.k.2.1.1⟩
   obtain⟨c0,c1,c2⟩:=ldx Dg;simp -implicitDefEqProofs only[c0,sS,Nat.reduceAdd];refine Ev.bool (XD Dg (λH o a=>a.ss.r) (by omega) (by omega)) λz Hz mz UG hmz=>?_
   have ahE:=UG.mono TV λo a=>a.k
   obtain⟨d0,d1,d2⟩:=ldx UG;cases z<;>simp -implicitDefEqProofs only[d1,d2,sS,Nat.reduceAdd]
   ·exact Ev.ret (.inl ⟨rfl,mz,by omega,_,_,_,_,_,_,_,_,_,ahE,by omega,rfl⟩)
   ·refine Ev.call (TU UG (λH o a=>a.sp.r) (by omega) op) ?_
    rintro v H5 ⟨r,s',rfl,sT,hs'⟩;have adE: ∃a m c,s'= .slice a m c:=by
     rcases hs' with⟨rfl,_⟩|⟨rfl,_⟩
     ·obtain⟨_,o,_,hx⟩:=Dg;obtain⟨a,c,e⟩:=hx.sp.r.isSlice;exact⟨a,_,c,e⟩
     ·exact⟨_,_,_,rfl⟩
    have vP:J (λH o=>KQ H o∧ee H o (t-1) s' r.list) p mz H5:=sT.mono (TV.and (cW.lZ (by simp;omega))) λo a=>⟨a.k,by
     rcases hs' with⟨rfl,e⟩|⟨rfl,e⟩
     ·rw[e];exact a.sp.r
     ·rw[e];exact .nil⟩
    obtain⟨H6,g5,g6,YI⟩:=fin r s' adE vP;simp -implicitDefEqProofs only[g5,sS,Nat.reduceAdd];refine Ev.ret (.inr ⟨by simp,_,_,_,_,_,_,_,_,_,_,(show mz≤m by omega),rfl,.inr ⟨rfl,r,s',YI,?_⟩⟩)
    rcases hs' with⟨_,e⟩|⟨_,e⟩
    ·rw[e];omega
    ·rw[e];simp
  ·exact Ev.ret (.inr ⟨by simp,_,_,_,_,_,_,_,_,_,_,hkm,rfl,.inl ⟨rfl,hj⟩⟩)
 ·rintro e vs Hx ⟨m2,aR,x8,bJ,x7,x9,dL,aK,dQ,fG,hm,rfl,he⟩;rcases he with⟨he,hj⟩|⟨he,rr,s,hj,hl⟩
  ·simp only at he;subst he;obtain⟨H6,g5,g6,sT⟩:=NU (eJ 9) rfl hj;simp -implicitDefEqProofs only[Od,Ao,nV,g5,g6,sS,Nat.reduceAdd];exact Ev.ret ⟨_,_,rfl,by simp[eJ],_,out sT,hm⟩
  ·simp only at he;subst he;obtain⟨_,o1,_,_,hc,_⟩:=id hj;have hl6:=jR i1 rr (s:=s) Hx hc.1;show Ev (λ_=>af (pS (ke Tryz.prog 45 (pv i1) Hx) Hx) λv _=>some (v,Hx)) _
   simp -implicitDefEqProofs only[ac3,hl6,sS,Nat.reduceAdd];exact Ev.ret ⟨_,_,rfl,hl,_,out hj,hm⟩
end
end Go.Proofs.YtjgmnoaalbbonaaGreat.Fun
end
