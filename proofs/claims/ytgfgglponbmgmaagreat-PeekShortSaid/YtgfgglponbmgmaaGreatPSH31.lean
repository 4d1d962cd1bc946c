/- Texts of the proof of peekShort_holds, put together by a small program of ours (names shortened, spaces taken out). No condition beyond the given statement. -/
import Derived.Test.YtgfgglponbmgmaaGreatPSH11
import Derived.Test.YtgfgglponbmgmaaGreatPSH12
import Derived.Test.YtgfgglponbmgmaaGreatPSH18
import Derived.Test.YtgfgglponbmgmaaGreatPSH14
import Derived.Test.YtgfgglponbmgmaaGreatPSH30
import Derived.Test.YtgfgglponbmgmaaGreatPSH16
set_option linter.unusedVariables false
set_option linter.unusedSimpArgs false
set_option linter.unnecessarySimpa false
noncomputable section
section
namespace Go.Proofs.YtgfgglponbmgmaaGreat.Fun.R
open Go Go.RowKit Go.Proofs.YtgfgglponbmgmaaGreatA.Am
set_option maxRecDepth 10000
section
variable {G:ae} {H H':aa} {o o':aj} {p m c:Nat} {K K':aa→aj→Prop} {t t1 t2 q:Int} {x:Value} {l lp ls:PL} {n i:Nat} {cs:List Value} {T:TypeId}
structure WS where
 lo:Int
 hi:Int
 back:Bool
 OO:Int
 values:Bool
abbrev Lz (s:WS)(xp xs:Value):List Value:=[cv s.lo,cv s.hi,.bool s.back,cv s.OO,.bool s.values,xp,xs]
def KW (K:aa→aj→Prop)(t t1 t2:Int)(w:Nat)(s:WS)(lp ls:PL)(H:aa)(o:aj):Prop:=
 K H o∧∃xp xs ty,H.get w=some ⟨Lz s xp xs,ty,1,false⟩∧o w=t∧gS H o t1 xp lp∧gS H o t2 xs ls
structure EI (p:Nat) (t t1 t2:Int):Prop where
 a:oS t p
 a1:oS t1 p
 a2:oS t2 p
 d1:t≠t1
 d2:t≠t2
 d3:t1≠t2
theorem gS.isSlice {s:Value}(h:gS H o q s l): ∃a c,s= .slice a l.length c:=h.r.isSlice
section
variable {w:Nat} {s:WS}
theorem KW.eU (ht:EI p t t1 t2)(hK:bJ [(p:Int),t,t1,t2] K):bJ [(p:Int)] (KW K t t1 t2 w s lp ls):=λH o H' o' h f=>by
 obtain⟨hk,xp,xs,ty,g,ho,h1,h2⟩:=h;exact⟨hK _ _ _ _ hk (f.wk (by simp)),xp,xs,ty,by rw[f.same w (ar g) (by rw[ho];simpa using ht.a.ne)];exact g,by rw[f.own w (ar g)];exact ho,gS.fr h1 f (by simpa using ht.a1.ne),gS.fr h2 f (by simpa using ht.a2.ne)⟩
theorem KW.oa (h:J (KW K t t1 t2 w s lp ls) p m H):aq (pv w) H=some (cv s.lo)∧aq (.pointer (some ⟨w,1,none⟩)) H=some (cv s.hi)∧aq (.pointer (some ⟨w,2,none⟩)) H=some (.bool s.back)∧aq (.pointer (some ⟨w,3,none⟩)) H=some (cv s.OO)∧aq (.pointer (some ⟨w,4,none⟩)) H=some (.bool s.values):=by
 obtain⟨_,o,_,_,xp,xs,ty,g,_⟩:=h;exact⟨ao w 0 _ g,ao w 1 _ g,ao w 2 _ g,ao w 3 _ g,ao w 4 _ g⟩
theorem KW.len (h:J (KW K t t1 t2 w s lp ls) p m H): ∃xp,aq (.pointer (some ⟨w,5,none⟩)) H=some xp∧cG xp=some (cv lp.length):=by
 obtain⟨_,o,_,_,xp,xs,ty,g,ho,h1,h2⟩:=h;exact⟨xp,ao w 5 _ g,h1.r.len⟩
theorem KW.acC (ht:EI p t t1 t2)(hK:bJ [(p:Int),t,t1,t2] K)(h:J (KW K t t1 t2 w s lp ls) p m H)(hb:lp.length+1≤4294967296): ∃xp,aq (.pointer (some ⟨w,5,none⟩)) H=some xp∧∀(T ty:TypeId) (a b:Int),∃x' l' H1 H2,
  de T 2 16 xp (.slice (some ⟨H.length,0,none⟩) 1 1) (H.new ⟨[cv a,cv b],ty,2,false⟩)=some (x',H1)∧bD 1 (.pointer (some ⟨w,5,none⟩)) x' H1=some (undef,H2)∧J (KW K t t1 t2 w s l' ls) p m H2∧l'.length=lp.length+1:=by
 obtain⟨_,o,hr,hk,xp,xs,ty,g,ho,h1,h2⟩:=h;refine⟨xp,ao w 5 _ g,λT nE a b=>?_⟩
 have f1:Fr H o (H.new ⟨[cv a,cv b],nE,2,false⟩) (o.up H.length (-9)) [t1]:=(Fr.refl H o [t1]).new _ _;have Xd:Fr H o (H.new ⟨[cv a,cv b],nE,2,false⟩) (o.up H.length (-9)) []:=(Fr.refl H o []).new _ _;obtain⟨x',H2,o2,e,s2,f2,_⟩:=gS.app (y:=.slice (some ⟨H.length,0,none⟩) 1 1) (m:=[(a,b)]) T (gS.fr h1 Xd (by simp)) (Src.one aL) (by simpa using hb)
 have f3:=f1.tr f2;have g2:H2.get w=some ⟨Lz s xp xs,ty,1,false⟩:=by rw[f3.same w (ar g) (by rw[ho];simpa using ht.d1)];exact g
 have CY:o2 w=t:=by rw[f3.own w (ar g)];exact ho
 obtain⟨ba,bc,ex⟩:=gS.isSlice s2;obtain⟨H3,e3⟩: ∃z,z=H2.put w ⟨Lz s x' xs,ty,1,false⟩:=⟨_,rfl⟩;have f4:Fr H2 o2 H3 o2 [t]:=by rw[e3];exact(Fr.refl H2 o2 [t]).put λ_=>by simp[CY]
 have f5:Fr H o H3 o2 [t,t1]:=f3.trans f4 (by simp) (by simp)
 refine⟨x',lp++[(a,b)],H2,H3,e,?_,⟨KW.eU ht hK,o2,hr.fr f5 ?_ ?_ ?_,hK _ _ _ _ hk (f5.wk (by simp)),x',xs,ty,by rw[e3];exact aG g2,CY,gS.fr s2 f4 ?_,gS.fr h2 f5 ?_⟩,by simp⟩
 ·rw[ex,FL w 5 ba _ bc H2 g2 rfl (by simp),e3,ex];rfl
 ·have:=ht.a.ne;have:=ht.a1.ne;simp;omega
 ·have:=ht.a.n0;have:=ht.a1.n0;simp;omega
 ·have:=ht.a.n1;have:=ht.a1.n1;simp;omega
 ·have:=ht.d1;have:=ht.d2;have:=ht.d3;simp;omega
 ·have:=ht.d1;have:=ht.d2;have:=ht.d3;simp;omega
theorem KW.acD (ht:EI p t t1 t2)(hK:bJ [(p:Int),t,t1,t2] K)(h:J (KW K t t1 t2 w s lp ls) p m H)(hb:ls.length+1≤4294967296): ∃xp,aq (.pointer (some ⟨w,6,none⟩)) H=some xp∧∀(T ty:TypeId) (a b:Int),∃x' l' H1 H2,
  de T 2 16 xp (.slice (some ⟨H.length,0,none⟩) 1 1) (H.new ⟨[cv a,cv b],ty,2,false⟩)=some (x',H1)∧bD 1 (.pointer (some ⟨w,6,none⟩)) x' H1=some (undef,H2)∧J (KW K t t1 t2 w s lp l') p m H2∧l'.length=ls.length+1:=by
 obtain⟨_,o,hr,hk,xp,xs,ty,g,ho,h1,h2⟩:=h;refine⟨xs,ao w 6 _ g,λT nE a b=>?_⟩
 have f1:Fr H o (H.new ⟨[cv a,cv b],nE,2,false⟩) (o.up H.length (-9)) [t2]:=(Fr.refl H o [t2]).new _ _;have Xd:Fr H o (H.new ⟨[cv a,cv b],nE,2,false⟩) (o.up H.length (-9)) []:=(Fr.refl H o []).new _ _;obtain⟨x',H2,o2,e,s2,f2,_⟩:=gS.app (y:=.slice (some ⟨H.length,0,none⟩) 1 1) (m:=[(a,b)]) T (gS.fr h2 Xd (by simp)) (Src.one aL) (by simpa using hb)
 have f3:=f1.tr f2;have g2:H2.get w=some ⟨Lz s xp xs,ty,1,false⟩:=by rw[f3.same w (ar g) (by rw[ho];simpa using ht.d2)];exact g
 have CY:o2 w=t:=by rw[f3.own w (ar g)];exact ho
 obtain⟨ba,bc,ex⟩:=gS.isSlice s2;obtain⟨H3,e3⟩: ∃z,z=H2.put w ⟨Lz s xp x',ty,1,false⟩:=⟨_,rfl⟩;have f4:Fr H2 o2 H3 o2 [t]:=by rw[e3];exact(Fr.refl H2 o2 [t]).put λ_=>by simp[CY]
 have f5:Fr H o H3 o2 [t,t2]:=f3.trans f4 (by simp) (by simp)
 refine⟨x',ls++[(a,b)],H2,H3,e,?_,⟨KW.eU ht hK,o2,hr.fr f5 ?_ ?_ ?_,hK _ _ _ _ hk (f5.wk (by simp)),xp,x',ty,by rw[e3];exact aG g2,CY,gS.fr h1 f5 ?_,gS.fr s2 f4 ?_⟩,by simp⟩
 ·rw[ex,FL w 6 ba _ bc H2 g2 rfl (by simp),e3,ex];rfl
 ·have:=ht.a.ne;have:=ht.a2.ne;simp;omega
 ·have:=ht.a.n0;have:=ht.a2.n0;simp;omega
 ·have:=ht.a.n1;have:=ht.a2.n1;simp;omega
 ·have:=ht.d1;have:=ht.d2;have:=ht.d3;simp;omega
 ·have:=ht.d1;have:=ht.d2;have:=ht.d3;simp;omega
theorem KW.aap (ht:EI p t t1 t2)(hK:bJ [(p:Int),t,t1,t2] K)(h:J (KW K t t1 t2 w s lp ls) p m H)(v:Int): ∃H2,bD 1 (pv w) (cv v) H=some (undef,H2)∧J (KW K t t1 t2 w {s with lo:=v} lp ls) p m H2:=by
 obtain⟨_,o,hr,hk,xp,xs,ty,g,ho,h1,h2⟩:=h;have f:Fr H o (H.put w ⟨Lz {s with lo:=v} xp xs,ty,1,false⟩) o [t]:=(Fr.refl H o [t]).put λ_=>by simp[ho]
 refine⟨_,r9 w 0 (cv v) H g rfl (by simp) rfl rfl rfl,KW.eU ht hK,o,hr.fr f ?_ ?_ ?_,hK _ _ _ _ hk (f.wk (by simp)),xp,xs,ty,aG g,ho,gS.fr h1 f ?_,gS.fr h2 f ?_⟩
 ·have:=ht.a.ne;simp;omega
 ·have:=ht.a.n0;simp;omega
 ·have:=ht.a.n1;simp;omega
 ·have:=ht.d1;simp;omega
 ·have:=ht.d2;simp;omega
theorem KW.aaq (ht:EI p t t1 t2)(hK:bJ [(p:Int),t,t1,t2] K)(h:J (KW K t t1 t2 w s lp ls) p m H)(v:Int): ∃H2,bD 1 (.pointer (some ⟨w,1,none⟩)) (cv v) H=some (undef,H2)∧J (KW K t t1 t2 w {s with hi:=v} lp ls) p m H2:=by
 obtain⟨_,o,hr,hk,xp,xs,ty,g,ho,h1,h2⟩:=h;have f:Fr H o (H.put w ⟨Lz {s with hi:=v} xp xs,ty,1,false⟩) o [t]:=(Fr.refl H o [t]).put λ_=>by simp[ho]
 refine⟨_,r9 w 1 (cv v) H g rfl (by simp) rfl rfl rfl,KW.eU ht hK,o,hr.fr f ?_ ?_ ?_,hK _ _ _ _ hk (f.wk (by simp)),xp,xs,ty,aG g,ho,gS.fr h1 f ?_,gS.fr h2 f ?_⟩
 ·have:=ht.a.ne;simp;omega
 ·have:=ht.a.n0;simp;omega
 ·have:=ht.a.n1;simp;omega
 ·have:=ht.d1;simp;omega
 ·have:=ht.d2;simp;omega
theorem KW.aar (ht:EI p t t1 t2)(hK:bJ [(p:Int),t,t1,t2] K)(h:J (KW K t t1 t2 w s lp ls) p m H)(v:Bool): ∃H2,bD 1 (.pointer (some ⟨w,2,none⟩)) (.bool v) H=some (undef,H2)∧J (KW K t t1 t2 w {s with back:=v} lp ls) p m H2:=by
 obtain⟨_,o,hr,hk,xp,xs,ty,g,ho,h1,h2⟩:=h;have f:Fr H o (H.put w ⟨Lz {s with back:=v} xp xs,ty,1,false⟩) o [t]:=(Fr.refl H o [t]).put λ_=>by simp[ho]
 refine⟨_,r9 w 2 (.bool v) H g rfl (by simp) rfl rfl rfl,KW.eU ht hK,o,hr.fr f ?_ ?_ ?_,hK _ _ _ _ hk (f.wk (by simp)),xp,xs,ty,aG g,ho,gS.fr h1 f ?_,gS.fr h2 f ?_⟩
 ·have:=ht.a.ne;simp;omega
 ·have:=ht.a.n0;simp;omega
 ·have:=ht.a.n1;simp;omega
 ·have:=ht.d1;simp;omega
 ·have:=ht.d2;simp;omega
theorem KW.acE (ht:EI p t t1 t2)(hK:bJ [(p:Int),t,t1,t2] K)(h:J (KW K t t1 t2 w s lp ls) p m H)(v:Int): ∃H2,bD 1 (.pointer (some ⟨w,3,none⟩)) (cv v) H=some (undef,H2)∧J (KW K t t1 t2 w {s with OO:=v} lp ls) p m H2:=by
 obtain⟨_,o,hr,hk,xp,xs,ty,g,ho,h1,h2⟩:=h;have f:Fr H o (H.put w ⟨Lz {s with OO:=v} xp xs,ty,1,false⟩) o [t]:=(Fr.refl H o [t]).put λ_=>by simp[ho]
 refine⟨_,r9 w 3 (cv v) H g rfl (by simp) rfl rfl rfl,KW.eU ht hK,o,hr.fr f ?_ ?_ ?_,hK _ _ _ _ hk (f.wk (by simp)),xp,xs,ty,aG g,ho,gS.fr h1 f ?_,gS.fr h2 f ?_⟩
 ·have:=ht.a.ne;simp;omega
 ·have:=ht.a.n0;simp;omega
 ·have:=ht.a.n1;simp;omega
 ·have:=ht.d1;simp;omega
 ·have:=ht.d2;simp;omega
theorem KW.aas (ht:EI p t t1 t2)(hK:bJ [(p:Int),t,t1,t2] K)(h:J (KW K t t1 t2 w s lp ls) p m H)(v:Bool): ∃H2,bD 1 (.pointer (some ⟨w,4,none⟩)) (.bool v) H=some (undef,H2)∧J (KW K t t1 t2 w {s with values:=v} lp ls) p m H2:=by
 obtain⟨_,o,hr,hk,xp,xs,ty,g,ho,h1,h2⟩:=h;have f:Fr H o (H.put w ⟨Lz {s with values:=v} xp xs,ty,1,false⟩) o [t]:=(Fr.refl H o [t]).put λ_=>by simp[ho]
 refine⟨_,r9 w 4 (.bool v) H g rfl (by simp) rfl rfl rfl,KW.eU ht hK,o,hr.fr f ?_ ?_ ?_,hK _ _ _ _ hk (f.wk (by simp)),xp,xs,ty,aG g,ho,gS.fr h1 f ?_,gS.fr h2 f ?_⟩
 ·have:=ht.a.ne;simp;omega
 ·have:=ht.a.n0;simp;omega
 ·have:=ht.a.n1;simp;omega
 ·have:=ht.d1;simp;omega
 ·have:=ht.d2;simp;omega
end
abbrev GW (K:aa→aj→Prop)(t t1 t2:Int)(w:Nat)(s:WS)(c p mm:Nat):Value→aa→Prop:=λv H'=>∃z lp' ls' m',v= .bool z∧J (KW K t t1 t2 w s lp' ls') p m' H'∧m'≤mm∧lp'.length+m'≤c∧ls'.length+m'≤c
section
variable {w:Nat} {s:WS}
theorem R9 (ht:EI p t t1 t2)(hK:bJ [(p:Int),t,t1,t2] K)(hc:c≤2147483648)(h:J (KW K t t1 t2 w s lp ls) p m H)(h1:lp.length+m≤c)(h2:ls.length+m≤c)(h3:m≠0)(a:Int):
  aE (run G) 163 [pv w,pv p,cv a] H (GW K t t1 t2 w s c p (m-1)):=by
 refine Ev.up (t:=λk=>Vg (run G k) k (pv w) (pv p) (cv a) H) ?_ λk=>Qx ..
 simp -implicitDefEqProofs only[Vg,sS,Nat.reduceAdd];refine Ev.num (ki h _) λzq Hz mz hj hm=>?_
 obtain⟨a0,a1,a2,a3,a4⟩:=KW.oa hj;have J0: ∀{m1:Nat} {H1:aa} (v:Int) (x6 bU bS:Value),J (KW K t t1 t2 w s lp ls) p m1 H1→m1≤m-1→Ev (λk=>ve (run G k) k [pv w,pv p,cv a,x6,cv zq,bU,bS,cv v] H1) λr=>GW K t t1 t2 w s c p (m-1) r.1 r.2:=by
  intro m1 H1 v x6 bU bS hj hm;obtain⟨xp,b0,b1⟩:=KW.acC ht hK hj (by omega)
  obtain⟨x',l',H2,H3,b2,b3,gA,hl⟩:=b1 45 45 zq v;obtain⟨a0,a1,a2,a3,a4⟩:=KW.oa gA;obtain⟨xq,b4,b5⟩:=KW.len gA;simp -implicitDefEqProofs only[JB,w9,b0,yS,F2,b2,b3,a3,sS,Nat.reduceAdd];refine Ev.gtr (λhq=>?_) (λhq=>?_)<;>try simp -implicitDefEqProofs only[b4,b5,a3,sS,Nat.reduceAdd]
  ·refine Ev.geq (λhq=>?_) (λhq=>?_)<;>try simp -implicitDefEqProofs only[sS,Nat.reduceAdd]
   ·exact Ev.ret ⟨_,_,_,_,rfl,gA,by omega,by omega,by omega⟩
   ·exact Ev.ret ⟨_,_,_,_,rfl,gA,by omega,by omega,by omega⟩
  ·exact Ev.ret ⟨_,_,_,_,rfl,gA,by omega,by omega,by omega⟩
 simp -implicitDefEqProofs only[a0,sS,Nat.reduceAdd];refine Ev.lss (λhq=>?_) (λhq=>?_)<;>try simp -implicitDefEqProofs only[a1,sS,Nat.reduceAdd]
 ·exact Ev.ret ⟨_,_,_,_,rfl,hj,by omega,by omega,by omega⟩
 refine Ev.gtr (λhq=>?_) (λhq=>?_)<;>try simp -implicitDefEqProofs only[a4,sS,Nat.reduceAdd]
 ·exact Ev.ret ⟨_,_,_,_,rfl,hj,by omega,by omega,by omega⟩
 cases hv:s.values<;>try simp -implicitDefEqProofs only[sS,Nat.reduceAdd]
 ·exact J0 _ _ _ _ hj hm
 ·refine Ev.num (ki hj _) λzv Hz mz hj hm=>?_
  exact J0 _ _ _ _ hj (by omega)
theorem Ev.gw {α:Type}{k:Nat→Value→aa→Option α}{Q:α→Prop}{C:Nat→ae}{f:Nat}{args:List Value}{mm:Nat}(h:aE C f args H (GW K t t1 t2 w s c p mm))(hk: ∀z lp ls m' H',J (KW K t t1 t2 w s lp ls) p m' H'→m'≤mm→lp.length+m'≤c→ls.length+m'≤c→Ev (λn=>k n (.bool z) H') Q):Ev (λn=>af (C n f args H) (k n)) Q:=
 Ev.call h λv H' hq=>by obtain⟨z,lp,ls,m',rfl,h1,h2,h3,h4⟩:=hq;exact hk z lp ls m' H' h1 h2 h3 h4
theorem Sa (ht:EI p t t1 t2)(hK:bJ [(p:Int),t,t1,t2] K)(hc:c≤2147483648){M:Nat}(ih: ∀{m:Nat} {lp ls:PL} {H:aa},J (KW K t t1 t2 w s lp ls) p m H→m<M→lp.length+m≤c→ls.length+m≤c→∀a,aE (run G) 119 [pv w,pv p,cv a] H (GW K t t1 t2 w s c p (m-1)))(h:J (KW K t t1 t2 w s lp ls) p m H)(hM:m<M)(h1:lp.length+m≤c)(h2:ls.length+m≤c)(h3:m≠0)(a:Int):
  aE (run G) 145 [pv w,pv p,cv a] H (GW K t t1 t2 w s c p m):=by
 refine Ev.up (t:=λk=>WV (run G k) k (pv w) (pv p) (cv a) H) ?_ λk=>Rx ..
 simp -implicitDefEqProofs only[WV,sS,Nat.reduceAdd];refine Ev.ke (RH _) λza=>?_
 refine Ev.ke (FN _) λzk=>?_
 try simp -implicitDefEqProofs only[sS,Nat.reduceAdd]
 refine Ev.eql (λhq=>?_) (λhq=>?_)<;>try simp -implicitDefEqProofs only[sS,Nat.reduceAdd]
 ·refine Ev.gw (R9 ht hK hc h h1 h2 h3 _) λz lp ls m' H' hj hm g1 g2=>?_
  try simp -implicitDefEqProofs only[sS,Nat.reduceAdd]
  exact Ev.ret ⟨_,_,_,_,rfl,hj,by omega,g1,g2⟩
 refine Ev.eql (λhq=>?_) (λhq=>?_)<;>try simp -implicitDefEqProofs only[sS,Nat.reduceAdd]
 ·refine Ev.gw (ih h hM h1 h2 _) λz lp ls m' H' hj hm g1 g2=>?_
  try simp -implicitDefEqProofs only[sS,Nat.reduceAdd]
  exact Ev.ret ⟨_,_,_,_,rfl,hj,by omega,g1,g2⟩
 refine Ev.eql (λhq=>?_) (λhq=>?_)<;>try simp -implicitDefEqProofs only[sS,Nat.reduceAdd]
 ·refine Ev.num (ki h _) λzr Hz mz hj hm=>?_
  refine Ev.ke (RH _) λza2=>?_
  refine Ev.gw (ih hj (by omega) (by omega) (by omega) _) λz lp ls m' H' hj hm g1 g2=>?_
  try simp -implicitDefEqProofs only[sS,Nat.reduceAdd]
  exact Ev.ret ⟨_,_,_,_,rfl,hj,by omega,g1,g2⟩
 ·exact Ev.ret ⟨_,_,_,_,rfl,h,by omega,h1,h2⟩
theorem Xp (a b:Int):aF Tryz.prog 189 [(0,cv a),(1,cv b)]=some (.agg #[cv a,cv b]):=by kernel_rfl
theorem Xq (a b:Int)(H:aa):ay Tryz.prog 32 1 [(0,.agg #[cv a,cv b])] H=some (.slice (some ⟨H.length,0,none⟩) 1 1,H.new ⟨[cv a,cv b],189,2,false⟩):=by kernel_rfl
theorem LD (ht:EI p t t1 t2)(hK:bJ [(p:Int),t,t1,t2] K)(hc:c≤2147483648): ∀(M:Nat) {m:Nat} {lp ls:PL} {H:aa},J (KW K t t1 t2 w s lp ls) p m H→m<M→lp.length+m≤c→ls.length+m≤c→∀a,aE (run G) 119 [pv w,pv p,cv a] H (GW K t t1 t2 w s c p (m-1)):=by
 intro M;induction M with
 |zero=>intro m lp ls H h hM;omega
 |succ M ih=>
 intro m lp ls H h hM h1 h2 a;refine Ev.up (t:=λk=>VW (run G k) k (pv w) (pv p) (cv a) H) ?_ λk=>QS ..
 obtain⟨a0,a1,a2,a3,a4⟩:=KW.oa h;have J0: ∀(x6 bz bP x8 x9 aC dp aO eJ eQ ln C0:Value) (f:Int),Ev (λk=>vi (run G k) k [pv w,pv p,cv a,x6,bz,cv f,bP,x8,x9,aC,dp,aO,eJ,eQ,ln,C0] H) λr=>GW K t t1 t2 w s c p (m-1) r.1 r.2:=by
  intro x6 bz bP x8 x9 aC dp aO eJ eQ ln C0 f;simp -implicitDefEqProofs only[JZ,xA,sS,Nat.reduceAdd];refine Ev.aao (Iu h _ _) λd i Hz mz hj hm=>?_
  simp -implicitDefEqProofs only[sS,Nat.reduceAdd];refine Ev.loop (k:=mz) (λk vs Hx=>∃(lp ls:PL) (i:Int) (x6 bz x7 bP aC dp aO eJ eQ ln C0:Value),J (KW K t t1 t2 w s lp ls) p k Hx∧k≤mz∧lp.length+k≤c∧ls.length+k≤c∧vs=[pv w,pv p,cv a,x6,bz,x7,bP,cv d,cv i,aC,dp,aO,eJ,eQ,ln,C0])
   (λr=>∃(lp ls:PL) (m2:Nat) (x9 x6 bz x7 bP aC dp aO eJ eQ ln C0:Value),J (KW K t t1 t2 w s lp ls) p m2 r.2.2∧m2≤m-1∧lp.length+m2≤c∧ls.length+m2≤c∧r.2.1=[pv w,pv p,cv a,x6,bz,x7,bP,cv d,x9,aC,dp,aO,eJ,eQ,ln,C0]∧(r.1= .exit 0∨(r.1= .ret∧∃z,x6= .bool z))) ⟨_,_,_,_,_,_,_,_,_,_,_,_,_,_,hj,Nat.le_refl _,by omega,by omega,rfl⟩ ?_ ?_
  ·rintro k vs Hx ⟨lp,ls,i,x6,bz,x7,bP,aC,dp,aO,eJ,eQ,ln,C0,hj,hk,g1,g2,rfl⟩;simp -implicitDefEqProofs only[JY,xz,sS,Nat.reduceAdd];refine Ev.off hj (λhq=>?_) (λhq=>?_)<;>try simp -implicitDefEqProofs only[sS,Nat.reduceAdd]
   ·exact Ev.ret (.inr ⟨by simp,_,_,_,_,_,_,_,_,_,_,_,_,_,_,_,hj,by omega,g1,g2,rfl,.inl rfl⟩)
   refine Ev.ke (AK _ _ _) λzc=>?_
   refine Ev.num (Gd hj _) λzw Hz mz2 hj I2=>?_
   try simp -implicitDefEqProofs only[sS,Nat.reduceAdd]
   refine Ev.off hj (λhq=>?_) (λhq=>?_)<;>try simp -implicitDefEqProofs only[sS,Nat.reduceAdd]
   ·exact Ev.ret (.inr ⟨by simp,_,_,_,_,_,_,_,_,_,_,_,_,_,_,_,hj,by omega,by omega,by omega,rfl,.inl rfl⟩)
   obtain⟨xp,b0,b1⟩:=KW.acD ht hK hj (by omega)
   obtain⟨x',l',H2,H3,b2,b3,gA,hl⟩:=b1 189 189 zc zw;simp -implicitDefEqProofs only[b0,Xp,Xq,b2,b3,sS,Nat.reduceAdd];refine Ev.gw (Sa ht hK hc (M:=M) (λ{m lp ls H} hj hM g1 g2 a=>ih hj hM g1 g2 a) gA (by omega) (by omega) (by omega) (by omega) _) λz lp ls m' H' hj PA g1 g2=>?_
   obtain⟨a0,a1,a2,a3,a4⟩:=KW.oa hj;cases z<;>simp -implicitDefEqProofs only[a2,sS,Nat.reduceAdd]
   ·cases hb:s.back<;>simp -implicitDefEqProofs only[sS,Nat.reduceAdd]
    ·refine Ev.eql (λhq=>?_) (λhq=>?_)<;>try simp -implicitDefEqProofs only[sS,Nat.reduceAdd]
     ·exact Ev.ret (.inr ⟨by simp,_,_,_,_,_,_,_,_,_,_,_,_,_,_,_,hj,by omega,g1,g2,rfl,.inr ⟨rfl,_,rfl⟩⟩)
     ·refine Ev.ke (nq _ _) λzk=>?_
      refine Ev.num (ki hj _) λzr Hz mz3 iW hm4=>?_
      obtain⟨c0,c1,c2,c3,c4⟩:=KW.oa iW;simp -implicitDefEqProofs only[a1,c1,sS,Nat.reduceAdd];refine Ev.gtr (λhq=>?_) (λhq=>?_)<;>try simp -implicitDefEqProofs only[a1,c1,sS,Nat.reduceAdd]
      ·exact Ev.ret (.inr ⟨by simp,_,_,_,_,_,_,_,_,_,_,_,_,_,_,_,iW,by omega,by omega,by omega,rfl,.inr ⟨rfl,_,rfl⟩⟩)
      ·exact Ev.ret (.inl ⟨rfl,_,by omega,_,_,_,_,_,_,_,_,_,_,_,_,_,_,iW,by omega,by omega,by omega,rfl⟩)
    ·refine Ev.eql (λhq=>?_) (λhq=>?_)<;>try simp -implicitDefEqProofs only[sS,Nat.reduceAdd]
     ·exact Ev.ret (.inr ⟨by simp,_,_,_,_,_,_,_,_,_,_,_,_,_,_,_,hj,by omega,g1,g2,rfl,.inr ⟨rfl,_,rfl⟩⟩)
     ·refine Ev.ke (nq _ _) λzk=>?_
      refine Ev.num (ki hj _) λzr Hz mz3 iW hm4=>?_
      obtain⟨c0,c1,c2,c3,c4⟩:=KW.oa iW;simp -implicitDefEqProofs only[a0,c0,sS,Nat.reduceAdd];refine Ev.leq (λhq=>?_) (λhq=>?_)<;>try simp -implicitDefEqProofs only[a0,c0,sS,Nat.reduceAdd]
      ·exact Ev.ret (.inr ⟨by simp,_,_,_,_,_,_,_,_,_,_,_,_,_,_,_,iW,by omega,by omega,by omega,rfl,.inr ⟨rfl,_,rfl⟩⟩)
      ·exact Ev.ret (.inl ⟨rfl,_,by omega,_,_,_,_,_,_,_,_,_,_,_,_,_,_,iW,by omega,by omega,by omega,rfl⟩)
   ·exact Ev.ret (.inr ⟨by simp,_,_,_,_,_,_,_,_,_,_,_,_,_,_,_,hj,by omega,g1,g2,rfl,.inr ⟨rfl,_,rfl⟩⟩)
  ·rintro e vs Hx ⟨lp,ls,m2,x9,x6,bz,x7,bP,aC,dp,aO,eJ,eQ,ln,C0,hj,I2,g1,g2,rfl,he⟩;rcases he with he|⟨he,z,rfl⟩
   ·simp only at he;subst he;simp -implicitDefEqProofs only[JV,xx,sS,Nat.reduceAdd];exact Ev.ret ⟨_,_,_,_,rfl,hj,by omega,g1,g2⟩
   ·simp only at he;subst he;show Ev (λ_=>some (Value.bool z,Hx)) _
    exact Ev.ret ⟨_,_,_,_,rfl,hj,by omega,g1,g2⟩
 simp -implicitDefEqProofs only[VW,a0,a2,sS,Nat.reduceAdd];cases hb:s.back<;>simp -implicitDefEqProofs only[a1,sS,Nat.reduceAdd]
 ·exact J0 ..
 ·exact J0 ..
end
theorem Sb (h:J K p m H)(hx: ∀H o,K H o→gN H o q x l)(hq:q≠(p:Int))(hl:l.length≤2147483648):aE (run G) 120 [pv p,x] H (Boo K p m):=by
 refine Ev.up (t:=λk=>U1 (run G k) k (pv p) x H) ?_ λk=>Qm ..
 simp -implicitDefEqProofs only[U1,sS,Nat.reduceAdd];refine Ev.loop (k:=l.length) (λk vs Hx=>∃(i m2:Nat) (x4 aW cM:Value),J K p m2 Hx∧m2≤m∧i+k=l.length∧vs=[pv p,x,x4,cv i,aW,cM])
  (λr=>(∃m2,J K p m2 r.2.2∧m2≤m)∧∃(x4 x5 aW cM:Value),r.2.1=[pv p,x,x4,x5,aW,cM]∧(r.1= .exit 0∨(r.1= .ret∧∃z,x4= .bool z))) ⟨0,m,_,_,_,h,Nat.le_refl _,by omega,rfl⟩ ?_ ?_
 ·rintro k vs Hx ⟨i,m2,x4,aW,cM,hj,hm,hik,rfl⟩;obtain⟨_,o1,uD,Dh⟩:=id hj;have hs:=hx _ _ Dh;simp -implicitDefEqProofs only[Jo,wO,hs.len,sS,Nat.reduceAdd];refine Ev.lss (λqv=>?_) (λqv=>?_)<;>try simp -implicitDefEqProofs only[sS,Nat.reduceAdd]
  ·obtain⟨ib,off,b,e1,e2,e3,e4⟩:=hs.idx (j:=i) (by omega)
   obtain⟨e5,e6,_⟩:=e4 _ e2;refine Ev.off hj (λkt=>?_) (λkt=>?_)<;>try simp -implicitDefEqProofs only[e1,gQ,Nat.add_zero,e5,sS,Nat.reduceAdd]
   ·exact Ev.ret (.inr ⟨by simp,⟨_,hj,hm⟩,_,_,_,_,rfl,.inl rfl⟩)
   have hjB:J (λH o=>K H o∧H.get ib=some b∧o ib=q) p m2 Hx:=⟨hj.1.and λH o H' o' a f=>⟨by rw[f.same ib (ar a.1) (by rw[a.2];simpa using hq)];exact a.1,by rw[f.own ib (ar a.1)];exact a.2⟩,o1,uD,Dh,e2,e3⟩
   refine Ev.num (Gd hjB _) λzw Hz mz fH I2=>?_
   have gA:=fH.mono hj.1 λo a=>a.1
   obtain⟨_,o2,sC,hk2,g2,_⟩:=id fH;obtain⟨e7,e8,_⟩:=e4 _ g2;simp -implicitDefEqProofs only[e1,gQ,e6,e8,sS,Nat.reduceAdd];have hw:IntKind.i64.wrap ((i:Int)+1)=((i+1:Nat):Int):=by rw[fL (by omega)];omega
   refine Ev.neq (λhq=>?_) (λhq=>?_)<;>try simp -implicitDefEqProofs only[e6,e8,hw,sS,Nat.reduceAdd]
   ·exact Ev.ret (.inr ⟨by simp,⟨_,gA,by omega⟩,_,_,_,_,rfl,.inr ⟨rfl,_,rfl⟩⟩)
   ·exact Ev.ret (.inl ⟨rfl,k-1,by omega,i+1,mz,_,_,_,gA,by omega,by omega,rfl⟩)
  ·exact Ev.ret (.inr ⟨by simp,⟨_,hj,hm⟩,_,_,_,_,rfl,.inl rfl⟩)
 ·rintro e vs Hx ⟨⟨m2,hj,hm⟩,x4,x5,aW,cM,rfl,he⟩;rcases he with he|⟨he,z,rfl⟩
  ·simp only at he;subst he;simp -implicitDefEqProofs only[Jp,wR,sS,Nat.reduceAdd];exact Ev.ret ⟨_,rfl,_,hj,hm⟩
  ·simp only at he;subst he;show Ev (λ_=>some (Value.bool z,Hx)) _
   exact Ev.ret ⟨_,rfl,_,hj,hm⟩
end
section
variable {G:ae} {H H':aa} {o o':aj} {p m c:Nat} {K K':aa→aj→Prop} {t t1 t2 q:Int} {x:Value} {l lp ls:PL} {n i:Nat} {cs:List Value} {T:TypeId}
theorem KW.mono {w:Nat}{s:WS}(h:J (KW K t t1 t2 w s lp ls) p m H)(ht:EI p t t1 t2)(R3:bJ [(p:Int),t,t1,t2] K')(k: ∀H o,K H o→K' H o):J (KW K' t t1 t2 w s lp ls) p m H:=h.mono (KW.eU ht R3) λo a=>⟨k _ _ a.1,a.2⟩
structure KWx (K:aa→aj→Prop) (t t1 t2:Int) (w:Nat) (s:WS) (xp xs:Value) (lp ls:PL) (H:aa) (o:aj):Prop where
 k:K H o
 g: ∃ty,H.get w=some ⟨Lz s xp xs,ty,1,false⟩
 ow:o w=t
 sp:gS H o t1 xp lp
 ss:gS H o t2 xs ls
theorem KWx.eU {w:Nat}{s:WS}{xp xs:Value}(ht:EI p t t1 t2)(hK:bJ [(p:Int),t,t1,t2] K):bJ [(p:Int)] (KWx K t t1 t2 w s xp xs lp ls):=λH o H' o' h f=>by
 obtain⟨ty,g⟩:=h.g;exact⟨hK _ _ _ _ h.k (f.wk (by simp)),⟨ty,by rw[f.same w (ar g) (by rw[h.ow];simpa using ht.a.ne)];exact g⟩,by rw[f.own w (ar g)];exact h.ow,gS.fr h.sp f (by simpa using ht.a1.ne),gS.fr h.ss f (by simpa using ht.a2.ne)⟩
theorem KW.ex {w:Nat}{s:WS}(h:J (KW K t t1 t2 w s lp ls) p m H)(ht:EI p t t1 t2)(hK:bJ [(p:Int),t,t1,t2] K): ∃xp xs,J (KWx K t t1 t2 w s xp xs lp ls) p m H:=by
 obtain⟨_,o,hr,hk,xp,xs,ty,g,ho,h1,h2⟩:=h;exact⟨xp,xs,KWx.eU ht hK,o,hr,hk,⟨ty,g⟩,ho,h1,h2⟩
theorem Xr:aF Tryz.prog 34 [(0,cv (-9223372036854775808)),(1,cv 9223372036854775807),(3,cv 1),(4,.bool true)]=some (.agg #[cv (-9223372036854775808),cv 9223372036854775807,.bool false,cv 1,.bool true,aA,aA]):=by kernel_rfl
theorem Sc (s:WS)(H:aa):dH 34 (.agg #[cv s.lo,cv s.hi,.bool s.back,cv s.OO,.bool s.values,aA,aA]) H=some (pv H.length,H.new ⟨Lz s aA aA,34,1,false⟩):=by
 simp[dH,Value.cells,aD,aS]
theorem Sd (ht:EI p t t1 t2)(h9:t≠ -9∧t1≠ -9∧t2≠ -9)(hK:bJ [(p:Int),t,t1,t2] K)(h:J K p m H)(op:jY):aE (run G) 157 [jj op] H λv H'=>∃w s,v=pv w∧J (KW K t t1 t2 w s [] []) p m H':=by
 refine Ev.up (t:=λk=>Wt (run G k) k (jj op) H) ?_ λk=>Rk ..
 obtain⟨i0,e0⟩: ∃i,i=H.length:=⟨_,rfl⟩;obtain⟨w,e1⟩: ∃i,i=H.length+1:=⟨_,rfl⟩;obtain⟨H1,fV⟩: ∃z,z=H.new ⟨n5 op,39,1,false⟩:=⟨_,rfl⟩;have l1:H1.length=H.length+1:=by rw[fV,cA]
 have LZ:bJ [(p:Int),t,t1,t2] λH o=>K H o∧Cl i0 (n5 op) 39 H o:=hK.and λH o H' o' a f=>a.fr f (by simp;omega)
 have fv:J (λH o=>K H o∧Cl i0 (n5 op) 39 H o) p m H1:=by
  rw[fV];refine h.nB _ _ 1 (LZ.of (by simp)) λo hk f=>⟨hK _ _ _ _ hk (f.wk (by simp)),?_⟩
  rw[e0];exact Cl.made
 let s0:WS:=⟨-9223372036854775808,9223372036854775807,false,1,true⟩
 obtain⟨H2,im⟩: ∃z,z=H1.new ⟨Lz s0 aA aA,34,1,false⟩:=⟨_,rfl⟩;have fH:J (KW (λH o=>K H o∧Cl i0 (n5 op) 39 H o) t t1 t2 w s0 [] []) p m H2:=by
  obtain⟨_,o,hr,hk⟩:=fv;have f:Fr H1 o H2 (o.up H1.length t) []:=by rw[im];exact(Fr.refl H1 o []).new _ _
  refine⟨KW.eU ht LZ,_,hr.fr f (by simp) (by simp) (by simp),LZ _ _ _ _ hk (f.wk (by simp)),aA,aA,34,?_,?_,.inl ⟨rfl,rfl⟩,.inl ⟨rfl,rfl⟩⟩
  ·rw[im,e1, ←l1];exact aL
  ·rw[e1, ←l1];exact aP
 have bx:=CH op H;rw[←e0, ←fV] at bx;have bw:=Sc s0 H1;rw[←im,l1, ←e1] at bw;have L0: ∀{s:WS} {m':Nat} {H':aa},J (KW (λH o=>K H o∧Cl i0 (n5 op) 39 H o) t t1 t2 w s [] []) p m' H'→aq (pv i0) H'=some (cv op.kind)∧aq (.pointer (some ⟨i0,1,none⟩)) H'=some (cv op.key)∧aq (.pointer (some ⟨i0,2,none⟩)) H'=some (cv op.value):=λhj=>by
  obtain⟨_,o,_,⟨_,g,_⟩,_⟩:=hj;exact⟨ao i0 0 _ g,ao i0 1 _ g,ao i0 2 _ g⟩
 have J0: ∀{s:WS} {H':aa} (x2 x7 x8 aU bU cr:Value),J (KW (λH o=>K H o∧Cl i0 (n5 op) 39 H o) t t1 t2 w s [] []) p m H'→Ev (λk=>ng (run G k) k [jj op,x2,pv i0,x7,x8,pv w,aU,bU,cr] H') λr=>∃w s,r.1=pv w∧J (KW K t t1 t2 w s [] []) p m r.2:=by
  intro s H' x2 x7 x8 aU bU cr hj;simp -implicitDefEqProofs only[Kw,ye,sS,Nat.reduceAdd];exact Ev.ret ⟨w,s,rfl,KW.mono hj ht hK λH o a=>a.1⟩
 have J1: ∀{s:WS} {H':aa} (b:Bool) (x2 x7 x8 aU bU:Value),J (KW (λH o=>K H o∧Cl i0 (n5 op) 39 H o) t t1 t2 w s [] []) p m H'→Ev (λk=>vw (run G k) k [jj op,x2,pv i0,x7,x8,pv w,aU,bU,.bool b] H') λr=>∃w s,r.1=pv w∧J (KW K t t1 t2 w s [] []) p m r.2:=by
  intro s H' b x2 x7 x8 aU bU hj;simp -implicitDefEqProofs only[Kx,yf,sS,Nat.reduceAdd];cases b<;>simp -implicitDefEqProofs only[sS,Nat.reduceAdd]
  ·exact J0 _ _ _ _ _ _ hj
  ·obtain⟨a0,a1,a2⟩:=L0 hj;obtain⟨H3,g3,gA⟩:=KW.aap ht LZ hj op.key;obtain⟨b0,b1,b2⟩:=L0 gA;obtain⟨H4,g4,iW⟩:=KW.aaq ht LZ gA op.value;obtain⟨H5,g5,kh⟩:=KW.acE ht LZ iW 0;obtain⟨c0,c1,c2⟩:=L0 kh;simp -implicitDefEqProofs only[a1,Nat.add_zero,g3,b2,g4,g5,c0,sS,Nat.reduceAdd];refine Ev.eql (λhq=>?_) (λhq=>?_)<;>try simp -implicitDefEqProofs only[sS,Nat.reduceAdd]
   ·obtain⟨H6,g6,n8⟩:=KW.aas ht LZ kh true;simp -implicitDefEqProofs only[g6,sS,Nat.reduceAdd];exact J0 _ _ _ _ _ _ n8
   ·obtain⟨H6,g6,n8⟩:=KW.aas ht LZ kh false;simp -implicitDefEqProofs only[g6,sS,Nat.reduceAdd];exact J0 _ _ _ _ _ _ n8
 obtain⟨a0,a1,a2⟩:=L0 fH;simp -implicitDefEqProofs only[Wt,bx,Xr,Nat.add_zero,sS,Nat.reduceAdd];have bw':dH 34 (.agg #[cv (-9223372036854775808),cv 9223372036854775807,.bool false,cv 1,.bool true,aA,aA]) H1=some (pv w,H2):=bw;simp -implicitDefEqProofs only[bw',a0,Nat.add_zero,sS,Nat.reduceAdd];refine Ev.eql (λhq=>?_) (λhq=>?_)<;>try simp -implicitDefEqProofs only[a1,sS,Nat.reduceAdd]
 ·obtain⟨H3,g3,gA⟩:=KW.aaq ht LZ fH op.key;obtain⟨H4,g4,iW⟩:=KW.aar ht LZ gA true;simp -implicitDefEqProofs only[g3,g4,sS,Nat.reduceAdd];exact J0 _ _ _ _ _ _ iW
 refine Ev.eql (λhq=>?_) (λhq=>?_)<;>try simp -implicitDefEqProofs only[a1,sS,Nat.reduceAdd]
 ·obtain⟨H3,g3,gA⟩:=KW.aap ht LZ fH op.key;simp -implicitDefEqProofs only[Nat.add_zero,g3,sS,Nat.reduceAdd];exact J0 _ _ _ _ _ _ gA
 refine Ev.eql (λhq=>?_) (λhq=>?_)<;>try simp -implicitDefEqProofs only[a1,sS,Nat.reduceAdd]
 ·obtain⟨H3,g3,gA⟩:=KW.aar ht LZ fH true;simp -implicitDefEqProofs only[g3,sS,Nat.reduceAdd];exact J0 _ _ _ _ _ _ gA
 refine Ev.eql (λhq=>?_) (λhq=>?_)<;>try simp -implicitDefEqProofs only[a1,sS,Nat.reduceAdd]
 ·exact J1 true _ _ _ _ _ fH
 refine Ev.eql (λhq=>?_) (λhq=>?_)<;>try simp -implicitDefEqProofs only[a1,sS,Nat.reduceAdd]
 ·exact J1 true _ _ _ _ _ fH
 ·exact J1 false _ _ _ _ _ fH
theorem OP (h:J K p m H)(hs: ∀H o,K H o→gN H o q x l)(hl:l.length≤2147483648)(op:jY):aE (run G) 158 [jj op,x] H λv H'=>∃r s,v=gj r s∧J K p m H'∧((s=x∧r.list=l)∨(s=aA∧r.list=[])):=by
 refine Ev.up (t:=λk=>WW (run G k) k (jj op) x H) ?_ λk=>Ry ..
 obtain⟨i0,e0⟩: ∃i,i=H.length:=⟨_,rfl⟩;obtain⟨i1,e1⟩: ∃i,i=H.length+1:=⟨_,rfl⟩;obtain⟨H1,fV⟩: ∃z,z=H.new ⟨n5 op,39,1,false⟩:=⟨_,rfl⟩;have l1:H1.length=H.length+1:=by rw[fV,cA]
 obtain⟨H2,im⟩: ∃z,z=H1.new ⟨rc bQ,47,1,false⟩:=⟨_,rfl⟩;have fH:J K p m H2:=by rw[im,fV];exact(h.new _).new _
 have bx:=CH op H;rw[←e0, ←fV] at bx;have n1:aS H1 47 1 [cv 0,.bool false,cv 0,cv 0,cv 0,aA]=(pv i1,H2):=by rw[im,e1, ←l1];rfl
 have g0:H2.get i0=some ⟨n5 op,39,1,false⟩:=by rw[im,df (by omega),fV,e0];exact aL
 have g1:H2.get i1=some ⟨rc bQ,47,1,false⟩:=by rw[im,e1, ←l1];exact aL
 have a0:aq (pv i0) H2=some (cv op.kind):=ao i0 0 _ g0;obtain⟨_,o2,_,hk2⟩:=id fH;have Uh:=hs _ _ hk2;obtain⟨xa,xc,ex⟩:=Uh.isSlice;have fin: ∀(r:eI) (s:Value),(∃a m c,s= .slice a m c)→∃H3,bD 6 (pv i1) (gj r s) H2=some (undef,H3)∧cZ 6 (pv i1) H3=some (gj r s)∧J K p m H3:=λr s uV=>by
  obtain⟨a,mm,cc,es⟩:=uV;refine⟨_,tD i1 r es H2 g1 rfl,pQ _ _ _ (aG g1),h.ue λo=>⟨(o.up H.length (-9)).up H1.length (-9),?_⟩⟩
  rw[im,fV];have f1:Fr H o (H.new ⟨n5 op,39,1,false⟩) (o.up H.length (-9)) []:=(Fr.refl H o []).new _ _;have f2:=f1.new ⟨rc bQ,47,1,false⟩ (-9);exact f2.put λhh=>by omega
 simp -implicitDefEqProofs only[WW,bx,n1,a0,Nat.add_zero,sS,Nat.reduceAdd];refine Ev.eql (λhq=>?_) (λhq=>?_)<;>try simp -implicitDefEqProofs only[sS,Nat.reduceAdd]
 ·obtain⟨H3,b1,b2,gA⟩:=fin ⟨0,false,0,0,0,l⟩ x ⟨_,_,_,ex⟩;have ab:aF Tryz.prog 47 [(4,x)]=some (gj ⟨0,false,0,0,0,l⟩ x):=by rw[ex];exact aai _ _ _
  simp -implicitDefEqProofs only[ab,b1,b2,sS,Nat.reduceAdd];exact Ev.ret ⟨_,_,rfl,gA,.inl ⟨rfl,rfl⟩⟩
 try simp -implicitDefEqProofs only[a0,sS,Nat.reduceAdd]
 refine Ev.eql (λhq=>?_) (λhq=>?_)<;>try simp -implicitDefEqProofs only[Uh.len,sS,Nat.reduceAdd]
 ·obtain⟨H3,b1,b2,gA⟩:=fin ⟨0,false,0,0,l.length,[]⟩ aA ⟨_,_,_,rfl⟩;simp -implicitDefEqProofs only[acx,b1,b2,sS,Nat.reduceAdd];exact Ev.ret ⟨_,_,rfl,gA,.inr ⟨rfl,rfl⟩⟩
 refine Ev.eql (λhq=>?_) (λhq=>?_)<;>try simp -implicitDefEqProofs only[sS,Nat.reduceAdd]
 ·obtain⟨H3,b1,b2,gA⟩:=fin bQ aA ⟨_,_,_,rfl⟩;simp -implicitDefEqProofs only[CI,b1,b2,sS,Nat.reduceAdd];exact Ev.ret ⟨_,_,rfl,gA,.inr ⟨rfl,rfl⟩⟩
 ·obtain⟨i,off,b,e1,e2,e3,e4⟩:=Uh.idx (j:=0) (by omega)
  obtain⟨e5,e6,e7⟩:=e4 H2 e2;simp only[Int.natCast_zero] at e1;obtain⟨H3,b1,b2,gA⟩:=fin (Li ((l.getD 0 (0,0)).1,(l.getD 0 (0,0)).2,true)) aA ⟨_,_,_,rfl⟩;simp -implicitDefEqProofs only[e1,e7,Xh,b1,b2,sS,Nat.reduceAdd];exact Ev.ret ⟨_,_,rfl,gA,.inr ⟨rfl,tF _⟩⟩
abbrev acF (K:aa→aj→Prop)(p c:Nat):Value→aa→Prop:=λv H'=>∃r s,v=gj r s∧r.list.length≤c∧∃m',J (λH o=>K H o∧gN H o (-41) s r.list) p m' H'∧m'≤c
theorem dV.relabel {x:Value}{l:List Int}(h:dV H o q x l)(k: ∀i,i<H.length→o i=q→o' i=q):dV H o' q x l:=⟨h.1,λb n c e dy=>⟨(h.2 b n c e dy).1,k _ (h.2 b n c e dy).1 (h.2 b n c e dy).2⟩⟩
theorem zT.relabel (h:zT H o p m)(k: ∀i,i<H.length→(o i=(p:Int)∨o i= -50∨o i= -51)→o' i=o i):zT H o' p m:=by
 obtain⟨tape,w,T,W,i,nk,na,nx,ny,rec,laid,ty,g,ho,ht,hT,hw,hi⟩:=h;exact⟨tape,w,T,W,i,nk,na,nx,ny,rec,laid,ty,g,by rw[k p (ar g) (.inl ho)];exact ho,dV.relabel ht λi hi hh=>by rw[k i hi (.inr (.inl hh))];exact hh,hT,dV.relabel hw λi hi hh=>by rw[k i hi (.inr (.inr hh))];exact hh,hi⟩
abbrev LF (r:eI)(s:Value):List Value:=[cv r.D5,.bool r.found,cv r.key,cv r.value,cv r.n,s]
theorem Se (h:J K p m H)(hM:m≤2147483648)(op:jY)(bud:Int):aE (run G) 128 [pv p,jj op,cv bud] H (acF K p m):=by
 refine Ev.up (t:=λk=>Wq (run G k) k (pv p) (jj op) (cv bud) H) ?_ λk=>Rh ..
 obtain⟨hK,b,hr,hk⟩:=id h;obtain⟨i0,e0⟩: ∃i,i=H.length:=⟨_,rfl⟩;obtain⟨i1,e1⟩: ∃i,i=H.length+1:=⟨_,rfl⟩;obtain⟨t,Xk,htf⟩:=gC b H.length;have ht:EI p t (t-1) (t-2):=⟨⟨by omega,by omega,by omega⟩,⟨by omega,by omega,by omega⟩,⟨by omega,by omega,by omega⟩,by omega,by omega,by omega⟩
 let KQ:aa→aj→Prop:=λH' o=>Fr H b H' o [t,t-1,t-2,(p:Int)]∧Cl i0 (n5 op) 39 H' o∧Cl i1 (rc bQ) 47 H' o
 have hKQ:bJ [(p:Int),t,t-1,t-2] KQ:=(bJ.base (by simp)).and ((show bJ _ _ from λH o H' o' a f=>a.fr f (by simp;omega)).and λH o H' o' a f=>a.fr f (by simp;omega))
 have OQ:bJ [(p:Int)] KQ:=hKQ.of (by simp)
 obtain⟨H1,fV⟩: ∃z,z=H.new ⟨n5 op,39,1,false⟩:=⟨_,rfl⟩;have l1:H1.length=H.length+1:=by rw[fV,cA]
 obtain⟨H2,im⟩: ∃z,z=H1.new ⟨rc bQ,47,1,false⟩:=⟨_,rfl⟩;have fv:J (λH' o=>Fr H b H' o [t,t-1,t-2,(p:Int)]∧Cl i0 (n5 op) 39 H' o) p m H1:=by
  rw[fV];have OH:J (λH' o=>Fr H b H' o [t,t-1,t-2,(p:Int)]) p m H:=⟨bJ.base (by simp),b,hr,Fr.refl _ _ _⟩
  refine OH.nB _ _ 1 ((bJ.base (by simp)).and λH o H' o' a f=>a.fr f (by simp)) λo hk f=>⟨hk.new _ _,?_⟩
  rw[e0];exact Cl.made
 have fH:J KQ p m H2:=by
  rw[im];refine fv.nB _ _ 1 OQ λo hk f=>⟨hk.1.new _ _,hk.2.new,?_⟩
  rw[e1, ←l1];exact Cl.made
 have bx:=CH op H;rw[←e0, ←fV] at bx;have n1:aS H1 47 1 [cv 0,.bool false,cv 0,cv 0,cv 0,aA]=(pv i1,H2):=by rw[im,e1, ←l1];rfl
 have oa: ∀{m':Nat} {H':aa},J KQ p m' H'→aq (pv i0) H'=some (cv op.kind)∧aq (.pointer (some ⟨i0,1,none⟩)) H'=some (cv op.key)∧cZ 3 (pv i0) H'=some (jj op):=λhj=>by
  obtain⟨_,o,_,_,g,_⟩:=hj;exact⟨ao i0 0 _ g.1,ao i0 1 _ g.1,PO g.1⟩
 let KE:eI→Value→aa→aj→Prop:=λr s H' o=>Fr H b H' o [t,t-1,t-2,(p:Int)]∧Cl i1 (LF r s) 47 H' o∧gN H' o (t-1) s r.list
 have hKE: ∀r s,bJ [(p:Int)] (KE r s):=λr s=>(bJ.base (by simp)).and ((show bJ _ _ from λH o H' o' a f=>a.fr f (by simp)).and λH o H' o' a f=>a.fr f (by simp;omega))
 have fin: ∀{m':Nat} {H':aa} (r:eI) (s:Value),(∃a m c,s= .slice a m c)→J (λH o=>KQ H o∧gN H o (t-1) s r.list) p m' H'→∃H3,bD 6 (pv i1) (gj r s) H'=some (undef,H3)∧cZ 6 (pv i1) H3=some (gj r s)∧J (KE r s) p m' H3:=λ{m' H'} r s uV hj=>by
  obtain⟨a,mm,cc,es⟩:=uV;obtain⟨_,o',sC,kt,Uh⟩:=hj;have f:Fr H' o' (H'.put i1 ⟨LF r s,47,1,false⟩) o' [-9]:=(Fr.refl _ o' [-9]).put λ_=>by simp[kt.2.2.2]
  exact⟨_,tD i1 r es _ kt.2.2.1 rfl,pQ _ _ _ (aG kt.2.2.1),hKE r s,o',sC.fr f (by simp) (by simp) (by simp),kt.1.put λhh=>by omega,kt.2.2.self,Uh.fr f (by simp;omega)⟩
 have out: ∀{m':Nat} {H':aa} {r:eI} {s:Value},J (KE r s) p m' H'→J (λH o=>K H o∧gN H o (-41) s r.list) p m' H':=λ{m' H' r s} hj=>by
  obtain⟨_,o,uD,hf,hc,hs⟩:=hj;have f3:Fr H b H' o [(p:Int)]:=iD (iD (iD hf λi hi=>by have:=htf i hi;omega) λi hi=>by have:=htf i hi;omega) λi hi=>by have:=htf i hi;omega
  let o':aj:=λi=>if o i=t-1 then -41 else o i
  refine⟨hK.and (bJ.kq (by simp)),o',uD.relabel λi hi hh=>?_,hK _ _ _ _ hk ⟨f3.slot,λi hi=>?_,f3.size⟩,hs.relabel λi hi hh=>?_⟩
  ·show(if o i=t-1 then(-41:Int) else o i)=o i
   rw[if_neg (by omega)]
  ·show(if o i=t-1 then(-41:Int) else o i)=b i
   have:=f3.own i hi
   have:=htf i hi
   rw[if_neg (by omega)];exact f3.own i hi
  ·show(if o i=t-1 then(-41:Int) else o i)= -41
   rw[if_pos hh]
 have Xs: ∀{m':Nat} {H':aa} (r:eI),r.list=[]→J KQ p m' H'→∃H3,bD 6 (pv i1) (gj r aA) H'=some (undef,H3)∧cZ 6 (pv i1) H3=some (gj r aA)∧J (KE r aA) p m' H3:=λr hl hj=>fin r aA ⟨_,_,_,rfl⟩ (hj.mono (OQ.and (bJ.kq (by simp;omega))) λo a=>⟨a,by rw[hl];exact .nil⟩)
 obtain⟨a0,a1,a2⟩:=oa fH;simp -implicitDefEqProofs only[Wq,bx,n1,a0,Nat.add_zero,sS,Nat.reduceAdd];refine Ev.eql (λhq=>?_) (λhq=>?_)<;>try simp -implicitDefEqProofs only[a1,sS,Nat.reduceAdd]
 ·refine Ev.acB (Xo fH _) λz zb Hz mz hj hm=>?_
  obtain⟨b0,b1,b2⟩:=oa hj;cases zb<;>simp -implicitDefEqProofs only[b1,sS,Nat.reduceAdd]
  ·obtain⟨H3,c1,c2,gA⟩:=Xs bQ rfl hj;simp -implicitDefEqProofs only[CI,c1,c2,sS,Nat.reduceAdd];exact Ev.ret ⟨_,_,rfl,by simp[bQ],_,out gA,by omega⟩
  ·obtain⟨H3,c1,c2,gA⟩:=Xs (Li (op.key,z,true)) (tF _) hj;simp -implicitDefEqProofs only[yS,Xh,c1,c2,sS,Nat.reduceAdd];exact Ev.ret ⟨_,_,rfl,by rw[tF];simp,_,out gA,by omega⟩
 refine Ev.loop (k:=m) (λk vs Hx=>∃(i:Int) (aI x8 bA x7 dr aC cx eO:Value),J KQ p k Hx∧k≤m∧vs=[pv p,jj op,cv bud,pv i1,pv i0,aI,x8,bA,x7,cv i,dr,aC,cx,eO])
  (λr=>∃(m2:Nat) (aI x8 bA x7 x9 dr aC cx eO:Value),m2≤m∧r.2.1=[pv p,jj op,cv bud,pv i1,pv i0,aI,x8,bA,x7,x9,dr,aC,cx,eO]∧((r.1= .exit 0∧J KQ p m2 r.2.2)∨(r.1= .ret∧∃rr s,J (KE rr s) p m2 r.2.2∧rr.list.length≤m))) ⟨_,_,_,_,_,_,_,_,_,fH,Nat.le_refl _,rfl⟩ ?_ ?_
 ·rintro k vs Hx ⟨i,aI,x8,bA,x7,dr,aC,cx,eO,hj,hkm,rfl⟩;obtain⟨b0,b1,b2⟩:=oa hj;simp -implicitDefEqProofs only[Kt,yb,sS,Nat.reduceAdd];refine Ev.lss (λhq=>?_) (λhq=>?_)<;>try simp -implicitDefEqProofs only[sS,Nat.reduceAdd]
  ·refine Ev.off hj (λhq0=>?_) (λhq0=>?_)<;>try simp -implicitDefEqProofs only[b2,sS,Nat.reduceAdd]
   ·exact Ev.ret (.inr ⟨by simp,_,_,_,_,_,_,_,_,_,_,hkm,rfl,.inl ⟨rfl,hj⟩⟩)
   refine Ev.call (Sd ht ⟨by omega,by omega,by omega⟩ hKQ hj op) ?_
   rintro v H3 ⟨w,s,rfl,hj⟩
   try simp -implicitDefEqProofs only[sS,Nat.reduceAdd]
   refine Ev.gw (LD ht hKQ (c:=m) hM (k+1) hj (by omega) (by simp;omega) (by simp;omega) _) λz lp ls m2 H4 hj I2 g1 g2=>?_
   have hjq:=hj.mono OQ λo a=>a.1
   try simp -implicitDefEqProofs only[sS,Nat.reduceAdd]
   refine Ev.off hj (λkt=>?_) (λkt=>?_)<;>try simp -implicitDefEqProofs only[sS,Nat.reduceAdd]
   ·exact Ev.ret (.inr ⟨by simp,_,_,_,_,_,_,_,_,_,_,(show m2≤m by omega),rfl,.inl ⟨rfl,hjq⟩⟩)
   obtain⟨xp,xs,Sf⟩:=KW.ex hj ht hKQ;have ldx: ∀{m':Nat} {H':aa},J (KWx KQ t (t-1) (t-2) w s xp xs lp ls) p m' H'→aq (.pointer (some ⟨w,6,none⟩)) H'=some xs∧aq (.pointer (some ⟨w,5,none⟩)) H'=some xp∧cZ 3 (pv i0) H'=some (jj op):=λhj=>by
    obtain⟨_,o,_,hx⟩:=hj;obtain⟨ty,g⟩:=hx.g;exact⟨ao w 6 _ g,ao w 5 _ g,PO hx.k.2.1.1⟩
   obtain⟨c0,c1,c2⟩:=ldx Sf;simp -implicitDefEqProofs only[c0,sS,Nat.reduceAdd];refine Ev.bool (Sb Sf (λH o a=>a.ss.r) (by omega) (by omega)) λz Hz mz LY hmz=>?_
   have acG:=LY.mono OQ λo a=>a.k
   obtain⟨d0,d1,d2⟩:=ldx LY;cases z<;>simp -implicitDefEqProofs only[d1,d2,sS,Nat.reduceAdd]
   ·exact Ev.ret (.inl ⟨rfl,mz,by omega,_,_,_,_,_,_,_,_,_,acG,by omega,rfl⟩)
   ·refine Ev.call (OP LY (λH o a=>a.sp.r) (by omega) op) ?_
    rintro v H5 ⟨r,s',rfl,kh,PB⟩;have YV: ∃a m c,s'= .slice a m c:=by
     rcases PB with⟨rfl,_⟩|⟨rfl,_⟩
     ·obtain⟨_,o,_,hx⟩:=Sf;obtain⟨a,c,e⟩:=hx.sp.r.isSlice;exact⟨a,_,c,e⟩
     ·exact⟨_,_,_,rfl⟩
    have n8:J (λH o=>KQ H o∧gN H o (t-1) s' r.list) p mz H5:=kh.mono (OQ.and (bJ.kq (by simp;omega))) λo a=>⟨a.k,by
     rcases PB with⟨rfl,e⟩|⟨rfl,e⟩
     ·rw[e];exact a.sp.r
     ·rw[e];exact .nil⟩
    obtain⟨H6,g5,g6,CE⟩:=fin r s' YV n8;simp -implicitDefEqProofs only[g5,sS,Nat.reduceAdd];refine Ev.ret (.inr ⟨by simp,_,_,_,_,_,_,_,_,_,_,(show mz≤m by omega),rfl,.inr ⟨rfl,r,s',CE,?_⟩⟩)
    rcases PB with⟨_,e⟩|⟨_,e⟩
    ·rw[e];omega
    ·rw[e];simp
  ·exact Ev.ret (.inr ⟨by simp,_,_,_,_,_,_,_,_,_,_,hkm,rfl,.inl ⟨rfl,hj⟩⟩)
 ·rintro e vs Hx ⟨m2,aI,x8,bA,x7,x9,dr,aC,cx,eO,hm,rfl,he⟩;rcases he with⟨he,hj⟩|⟨he,rr,s,hj,hl⟩
  ·simp only at he;subst he;obtain⟨H6,g5,g6,kh⟩:=Xs (lE 9) rfl hj;simp -implicitDefEqProofs only[Ks,ya,Lj,g5,g6,sS,Nat.reduceAdd];exact Ev.ret ⟨_,_,rfl,by simp[lE],_,out kh,hm⟩
  ·simp only at he;subst he;obtain⟨_,o1,_,_,hc,_⟩:=id hj;have TF:=pQ i1 rr (s:=s) Hx hc.1;show Ev (λ_=>af (pS (iY Tryz.prog 47 (pv i1) Hx) Hx) λv _=>some (v,Hx)) _
   simp -implicitDefEqProofs only[Xm,TF,sS,Nat.reduceAdd];exact Ev.ret ⟨_,_,rfl,hl,_,out hj,hm⟩
end
end Go.Proofs.YtgfgglponbmgmaaGreat.Fun.R
end
