/- Texts of the proof of helpLogic_holds, put together by a small program of ours (names shortened, spaces taken out). No condition beyond the given statement. -/
import Derived.Test.YtgfgglponbmgmaaGreatHLG12
import Derived.Test.YtgfgglponbmgmaaGreatHLG13
import Derived.Test.YtgfgglponbmgmaaGreatHLG10
import Derived.Test.YtgfgglponbmgmaaGreatHLG14
import Derived.Test.YtgfgglponbmgmaaGreatHLG11
import Derived.Test.YtgfgglponbmgmaaGreatHLG15
import Derived.Test.YtgfgglponbmgmaaGreatHLG38
import Derived.Test.YtgfgglponbmgmaaGreatHLG16
import Derived.Test.YtgfgglponbmgmaaGreatHLG17
import Derived.Test.YtgfgglponbmgmaaGreatHLG27
set_option linter.unusedVariables false
set_option linter.unusedSimpArgs false
set_option linter.unnecessarySimpa false
noncomputable section
section
namespace Go.Proofs.YtgfgglponbmgmaaGreat.Fun
open Go Go.RowKit Go.Proofs.YtgfgglponbmgmaaGreatA.Am
set_option maxRecDepth 10000
section
open Go.Proofs.YtgfgglponbmgmaaGreatA
variable {G:ae} {H H':aa} {o o':aj} {p c pp mp xp yp f i:Nat} {K:aa→aj→Prop} {x:Value} {m m' mP:Y.Mm} {cm:Int} {th:kl} {L:List ku} {N M:Nat} {Ga:Y.Ga}
def SL (Ga:Y.Ga)(m:Y.Mm)(l:PL):Prop:=l≠[]∧l.length≤m.cs.length∧∀e∈l,∃q,Y.aQ Ga e.2 e.1 q∧Ga.nz e.2
theorem SM (hm:qj H mp m)(i:Y.bs Ga m)(r:Ew Ga)(o:aj):aE (run G) 50 [pv mp] H λv H'=>∃t o' l,Fr H o H' o' []∧gS H' o' t v l∧SL Ga m l:=by
 refine Ev.up (t:=λk=>F50 (run G k) k (pv mp) H) ?_ λk=>Ww ..
 have hl:m.cs.length≤65536:=by have:=i.top;omega
 obtain⟨l,hb,hlen,Ya⟩:=Y.Gc i r.1 r.2;obtain⟨t,PN,Cw⟩:=gC o H.length;simp -implicitDefEqProofs only[F50,sS,Nat.reduceAdd];refine Ev.is (vJ hm hl 6) ?_;obtain⟨H1,e1⟩: ∃z,z=H.new ⟨[cv 1,cv 6],69,2,false⟩:=⟨_,rfl⟩;have b1:=TR 1 6 H;rw[←e1] at b1;simp -implicitDefEqProofs only[TQ,b1,sS,Nat.reduceAdd];have f1:Fr H o H1 (o.up H.length t) []:=by rw[e1];exact(Fr.refl _ _ _).new _ _
 have s1:gS H1 (o.up H.length t) t (.slice (some ⟨H.length,0,none⟩) 1 1) [(1,6)]:=.inr ⟨H.length,1,[],69,rfl,by rw[e1];exact aL,by simp,aP⟩
 have Mr:=hm.fr f1;refine Ev.call (R6 (t:=t) (B:=H) (b:=o) hm hl (λi hi=>by have:=Cw i hi;omega) _ rfl hb f1 s1 (by simp at hlen ⊢;omega)) ?_
 rintro v H2 ⟨o2,f2,s2⟩
 try simp -implicitDefEqProofs only[sS,Nat.reduceAdd]
 exact Ev.ret ⟨t,o2,(1,6)::l,f2,s2,by simp,hlen,Ya⟩
theorem Px (hm:qj H mp m)(i:Y.bs Ga m)(r:Ew Ga)(o:aj)(n:Int):aE (run G) 23 [pv mp,cv n] H λv H'=>∃o' node slot q,Fr H o H' o' []∧v= .agg #[cv node,cv slot]∧Y.aQ Ga slot node q∧Ga.nz slot:=by
 refine Ev.up (t:=λk=>F23 (run G k) k (pv mp) (cv n) H) ?_ λk=>UP ..
 have hl:m.cs.length≤65536:=by have:=i.top;omega
 obtain⟨H1,e1⟩: ∃z,z=H.new ⟨[cv 0,cv 0],69,1,false⟩:=⟨_,rfl⟩;have n0:aS H 69 1 [cv 0,cv 0]=(pv H.length,H1):=by rw[e1];rfl
 have f1:Fr H o H1 (o.up H.length (-9)) []:=by rw[e1];exact(Fr.refl _ _ _).new _ _
 have g1:H1.get H.length=some ⟨[cv 0,cv 0],69,1,false⟩:=by rw[e1];exact aL
 have Mr:=hm.fr f1;simp -implicitDefEqProofs only[F23,n0,sS,Nat.reduceAdd];refine Ev.call (SM Mr i r (o.up H.length (-9))) ?_;rintro v H2 ⟨t,o2,l,f2,s2,dy,hlen,Ya⟩;simp -implicitDefEqProofs only[s2.len,sS,Nat.reduceAdd];have EU:0<l.length:=List.length_pos_iff.2 dy;refine Ev.call (mi n l.length (by omega)) ?_
 rintro v' H3 ⟨z,rfl,Ue,Yi,rfl⟩;obtain⟨j,rfl⟩: ∃k:Nat,z=k:=⟨z.toNat,by omega⟩
 have hj:j<l.length:=by omega
 obtain⟨qi,b,k1,k2,k3,k4⟩:=s2.idx hj;obtain⟨_,_,k5⟩:=k4 H3 k2;have eg:l.getD j (0,0)=l[j]:=by simp[List.getD_eq_getElem?_getD,hj]
 rw[eg] at k5;have g3:H3.get H.length=some ⟨[cv 0,cv 0],69,1,false⟩:=by rw[f2.same _ (ar g1) (by simp)];exact g1
 have S:bD 2 (pv H.length) (.agg #[cv l[j].1,cv l[j].2]) H3=some (undef,H3.put H.length ⟨[cv l[j].1,cv l[j].2],69,1,false⟩):=by
  simp[bD,bW,g3,Value.cells,known,aD,dt]
 have D:cZ 2 (pv H.length) (H3.put H.length ⟨[cv l[j].1,cv l[j].2],69,1,false⟩)=some (.agg #[cv l[j].1,cv l[j].2]):=by
  simp[cZ,aR,aG g3]
 simp -implicitDefEqProofs only[k1,k5,S,D,sS,Nat.reduceAdd];obtain⟨q,hq,hz⟩:=Ya l[j] (List.getElem_mem hj);have CY:o2 H.length= -9:=by rw[f2.own _ (ar g1)];exact aP
 exact Ev.ret ⟨o2,l[j].1,l[j].2,q,(f1.tr f2).put λhh=>by omega,rfl,hq,hz⟩
def jl (m:Y.Mm)(node slot:Int)(shut:Bool):Int×Y.Mm:=
 if Y.kd (m.at slot)=5∨Y.kd (m.at slot)=3∨Y.kd (m.at slot)=4 then(0,m) else
 let e:=Y.eB m (.mk [0])
 let a:=Y.eB e.2 (.mk (Y.fj (node+2) slot (m.at slot) (Y.fI 1 e.1)))
 if ¬e.1>0∨¬a.1>0 then(0,a.2) else
 let c:=(Y.eB a.2 (.cs slot (m.at slot) (Y.fI 5 a.1))).2
 (a.1,if shut=true∧node≠1 then c.set (node+2) 1 else c)
theorem Ez (a b c d:Int):aE (run G) 58 [cv a,cv b,cv c,cv d] H λw H'=>Gj H H' w (Y.fj a b c d):=by
 refine Ev.up (t:=λn=>Zy (run G n) n (cv a) (cv b) (cv c) (cv d) H) ?_ λn=>NH ..
 simp -implicitDefEqProofs only[Zy,Og,sS,Nat.reduceAdd];exact Ev.ret ⟨(Ext.refl _).new _,kZ [a,b,c,d,0] _,λa n c e=>by cases e;exact Nat.le_refl _⟩
theorem aa8 (h:YR H o yp xp pp mp m m cm th L)(i:Y.bs Ga m)(r:Ew Ga)(n:Int)(shut:Bool):aE (run G) 13 [pv yp,cv n,.bool shut] H λv H'=>∃o' node slot q iA,Fr H o H' o' yt∧Y.aQ Ga slot node q∧Ga.nz slot∧v=cv (jl m node slot shut).1∧YR H' o' yp xp pp mp (jl m node slot shut).2 (jl m node slot shut).2 iA th L:=by
 refine Ev.up (t:=λk=>F13 (run G k) k (pv yp) (cv n) (.bool shut) H) ?_ λk=>V3 ..
 obtain⟨a0,a1,a2⟩:=h.ld;simp -implicitDefEqProofs only[F13,a1,a2,sS,Nat.reduceAdd];refine Ev.call (Px h.CT.look i r o n) ?_;rintro v H1 ⟨o1,node,slot,q,f1,rfl,so,hz⟩;obtain⟨H2,e2⟩: ∃z,z=H1.new ⟨[cv 0,cv 0],69,1,false⟩:=⟨_,rfl⟩;have n0:aS H1 69 1 [cv 0,cv 0]=(pv H1.length,H2):=by rw[e2];rfl
 have g2:H2.get H1.length=some ⟨[cv 0,cv 0],69,1,false⟩:=by rw[e2];exact aL
 have S:bD 2 (pv H1.length) (.agg #[cv node,cv slot]) H2=some (undef,H2.put H1.length ⟨[cv node,cv slot],69,1,false⟩):=by
  simp[bD,bW,g2,Value.cells,known,aD,dt]
 obtain⟨H3,e3⟩: ∃z,z=H2.put H1.length ⟨[cv node,cv slot],69,1,false⟩:=⟨_,rfl⟩;rw[←e3] at S;obtain⟨o3,eo3⟩: ∃z,z=o1.up H1.length (-9):=⟨_,rfl⟩;have f13:Fr H1 o1 H3 o3 []:=by
  rw[e3,e2,eo3];exact((Fr.refl H1 o1 []).new _ _).put λhh=>by omega
 have f03:Fr H o H3 o3 []:=f1.tr f13;have c3:Cl H1.length [cv node,cv slot] 69 H3 o3:=⟨by rw[e3];exact aG g2,by rw[eo3];exact aP⟩
 have h3:=h.fr f03 (by simp)
 have L1:aq (.pointer (some ⟨H1.length,1,none⟩)) H3=some (cv slot):=ao _ 1 _ c3.1;simp -implicitDefEqProofs only[n0,S,L1,sS,Nat.reduceAdd];have hlm:=h.CT.zU;refine Ev.is (CN h3.CT.look hlm.1 slot) ?_
 try simp -implicitDefEqProofs only[sS,Nat.reduceAdd]
 obtain⟨w,ew⟩: ∃w,w=m.at slot:=⟨_,rfl⟩;rw[←ew];refine Ev.is (gV _) ?_
 try simp -implicitDefEqProofs only[sS,Nat.reduceAdd]
 have no:Y.kd w=5∨Y.kd w=3∨Y.kd w=4→Ev (λ_=>some (cv 0,H3)) λr=>∃o' node slot q iA,Fr H o r.2 o' yt∧Y.aQ Ga slot node q∧Ga.nz slot∧r.1=cv (jl m node slot shut).1∧YR r.2 o' yp xp pp mp (jl m node slot shut).2 (jl m node slot shut).2 iA th L:=λhk=>by
  have e:jl m node slot shut=(0,m):=by unfold jl;rw[←ew,if_pos hk]
  exact Ev.ret ⟨o3,node,slot,q,cm,f03.wk (by simp),so,hz,by rw[e],by rw[e];exact h3⟩
 refine Ev.eql (λk5=>?_) (λk5=>?_)<;>try simp -implicitDefEqProofs only[sS,Nat.reduceAdd]
 ·exact no (.inl k5)
 refine Ev.is (gV _) ?_
 try simp -implicitDefEqProofs only[sS,Nat.reduceAdd]
 refine Ev.eql (λk3=>?_) (λk3=>?_)<;>try simp -implicitDefEqProofs only[sS,Nat.reduceAdd]
 ·exact no (.inr (.inl k3))
 refine Ev.is (gV _) ?_
 try simp -implicitDefEqProofs only[sS,Nat.reduceAdd]
 refine Ev.eql (λk4=>?_) (λk4=>?_)<;>try simp -implicitDefEqProofs only[sS,Nat.reduceAdd]
 ·exact no (.inr (.inr k4))
 have el:jl m node slot shut=(let e:=Y.eB m (.mk [0])
   let a:=Y.eB e.2 (.mk (Y.fj (node+2) slot w (Y.fI 1 e.1)))
   if ¬e.1>0∨¬a.1>0 then(0,a.2) else
   let c:=(Y.eB a.2 (.cs slot w (Y.fI 5 a.1))).2
   (a.1,if shut=true∧node≠1 then c.set (node+2) 1 else c)):=by unfold jl;rw[←ew,if_neg (by omega)]
 obtain⟨d,pq,tn⟩:=so.ty;have adn:1≤node∧node≤65536:=i.RR tn;have wn:IntKind.i64.wrap (node+2)=node+2:=fL (by omega)
 have zp:JM (λH' o'=>Fr H3 o3 H' o' [-70, -71]) mp m H3:=h3.jm
 have box: ∀{Hx:aa} {mx:Y.Mm},JM (λH' o'=>Fr H3 o3 H' o' [-70, -71]) mp mx Hx→aq (pv H1.length) Hx=some (cv node)∧aq (.pointer (some ⟨H1.length,1,none⟩)) Hx=some (cv slot):=λhj=>by
  obtain⟨_,ox,_,fx⟩:=hj;have:=c3.fr fx (by simp)
  exact⟨ao _ 0 _ this.1,ao _ 1 _ this.1⟩
 refine Ev.call nD ?_;intro w0 H4 RJ;refine Ev.call (lk zp RJ) ?_;rintro v H5 ⟨rfl,kh⟩;obtain⟨b0,b1⟩:=box kh;obtain⟨e,ee⟩: ∃e,e=Y.eB m (.mk [0]):=⟨_,rfl⟩;rw[←ee] at kh el ⊢;simp -implicitDefEqProofs only[b0,b1,wn,Nat.add_zero,sS,Nat.reduceAdd];refine Ev.is (nY 1 _) ?_
 try simp -implicitDefEqProofs only[sS,Nat.reduceAdd]
 refine Ev.call (Ez _ _ _ _) ?_;intro w1 H6 Br;refine Ev.call (lk kh Br) ?_;rintro v H7 ⟨rfl,CE⟩;obtain⟨a,ea⟩: ∃a,a=Y.eB e.2 (.mk (Y.fj (node+2) slot w (Y.fI 1 e.1))):=⟨_,rfl⟩;simp only at el;rw[←ea] at CE el ⊢;obtain⟨d0,d1⟩:=box CE;simp -implicitDefEqProofs only[b0,b1,d0,d1,mS,Nat.add_zero,sS,Nat.reduceAdd];have toY: ∀{Hx:aa} {mx:Y.Mm},JM (λH' o'=>Fr H3 o3 H' o' [-70, -71]) mp mx Hx→∃ox,Fr H3 o3 Hx ox [-70, -71]∧YR Hx ox yp xp pp mp m mx cm th L:=λhj=>by
  obtain⟨_,ox,hm,fx⟩:=hj;exact⟨ox,fx,h3.ac7 fx hm⟩
 have e1l:m.cs.length≤e.2.cs.length∧e.2.max=m.max:=by rw[ee];exact CU _ _
 have a1l:e.2.cs.length≤a.2.cs.length∧a.2.max=e.2.max:=by rw[ea];exact CU _ _
 have fol: ∀{Hx:aa} {mx:Y.Mm},JM (λH' o'=>Fr H3 o3 H' o' [-70, -71]) mp mx Hx→m.cs.length≤mx.cs.length→mx.max=m.max→aE (run G) 37 [pv yp] Hx λv H'=>∃o' iA,Fr H o H' o' yt∧YR H' o' yp xp pp mp mx mx iA th L:=λhj h1 h2=>by
  obtain⟨ox,fx,hy⟩:=toY hj;refine(Pu hy h1 h2.symm).mono ?_;rintro v H' ⟨o',iA,f',h'⟩;exact⟨o',iA,(f03.trans fx (rs:=yt) (by simp) (by simp)).trans f' (λ_ h=>h) (by simp),h'⟩
 have fail:(¬e.1>0∨¬a.1>0)→Ev (λk=>af (run G k 37 [pv yp] H7) λ_ H=>some (cv 0,H)) λr=>∃o' node slot q iA,Fr H o r.2 o' yt∧Y.aQ Ga slot node q∧Ga.nz slot∧r.1=cv (jl m node slot shut).1∧YR r.2 o' yp xp pp mp (jl m node slot shut).2 (jl m node slot shut).2 iA th L:=λhk=>by
  rw[if_pos hk] at el;refine Ev.call (fol CE (by omega) (by omega)) ?_
  rintro v H8 ⟨o8,ac9,f8,h8⟩;exact Ev.ret ⟨o8,node,slot,q,ac9,f8,so,hz,by rw[el],by rw[el];exact h8⟩
 by_cases he:e.1>0
 rotate_left
 ·simp -implicitDefEqProofs only[decide_eq_false he,sS,Nat.reduceAdd];exact fail (.inl he)
 by_cases ha:a.1>0
 rotate_left
 ·simp -implicitDefEqProofs only[decide_eq_true he,decide_eq_false ha,sS,Nat.reduceAdd];exact fail (.inr ha)
 rw[if_neg (by omega)] at el
 simp -implicitDefEqProofs only[decide_eq_true he,decide_eq_true ha,d1,sS,Nat.reduceAdd];refine Ev.is (nY 5 _) ?_
 try simp -implicitDefEqProofs only[sS,Nat.reduceAdd]
 refine Ev.call (OU CE _ _ _) ?_;rintro v H8 ⟨_,TN⟩;obtain⟨c,ec⟩: ∃c,c=Y.eB a.2 (.cs slot w (Y.fI 5 a.1)):=⟨_,rfl⟩;rw[←ec] at TN el;have c1l:a.2.cs.length≤c.2.cs.length∧c.2.max=a.2.max:=by rw[ec];exact CU _ _
 obtain⟨b0',b1'⟩:=box TN;have J0: ∀{Hx:aa} {mx:Y.Mm} (x6 x7 x8 x9 cw aC aO aI eQ sE:Value),JM (λH' o'=>Fr H3 o3 H' o' [-70, -71]) mp mx Hx→m.cs.length≤mx.cs.length→mx.max=m.max→jl m node slot shut=(a.1,mx)→Ev (λk=>B9 (run G k) k [pv yp,cv n,.bool shut,x6,x7,x8,x9,cw,aC,aO,aI,eQ,cv a.1,sE] Hx) λr=>∃o' node slot q iA,Fr H o r.2 o' yt∧Y.aQ Ga slot node q∧Ga.nz slot∧r.1=cv (jl m node slot shut).1∧YR r.2 o' yp xp pp mp (jl m node slot shut).2 (jl m node slot shut).2 iA th L:=by
  intro Hx mx x6 x7 x8 x9 cw aC aO aI eQ sE hj h1 h2 e1;simp -implicitDefEqProofs only[Ny,B8,sS,Nat.reduceAdd];refine Ev.call (fol hj h1 h2) ?_;rintro v H9 ⟨o9,ada,f9,h9⟩
  try simp -implicitDefEqProofs only[sS,Nat.reduceAdd]
  exact Ev.ret ⟨o9,node,slot,q,ada,f9,so,hz,by rw[e1],by rw[e1];exact h9⟩
 cases shut<;>simp -implicitDefEqProofs only[d1,b0',mS,Nat.add_zero,sS,Nat.reduceAdd]
 ·rw[if_neg (by simp)] at el
  exact J0 _ _ _ _ _ _ _ _ _ _ TN (by omega) (by omega) el
 refine Ev.neq (λhq=>?_) (λhq=>?_)<;>try simp -implicitDefEqProofs only[b0',wn,Nat.add_zero,sS,Nat.reduceAdd]
 ·rw[if_pos ⟨rfl,hq⟩] at el;refine Ev.call (yZ TN (node+2) 1) ?_;intro v H9 hj9;exact J0 _ _ _ _ _ _ _ _ _ _ hj9 (by rw[Y.vF];omega) (by rw[Y.Il];omega) el
 ·rw[if_neg (by rintro⟨_,h⟩;exact h hq)] at el
  exact J0 _ _ _ _ _ _ _ _ _ _ TN (by omega) (by omega) el
end
section
open Go.Proofs.YtgfgglponbmgmaaGreatA
variable {G:ae} {H H' H0:aa} {b o o':aj} {p c pp mp xp yp fp i:Nat} {x:Value} {m m' mP:Y.Mm} {cm:Int} {tag:Int} {cs:List Value}
def pF (H0:aa)(b:aj)(fp:Nat)(tag:Int)(pp:Nat)(cs:List Value)(m:Y.Mm)(cm:Int)(H:aa):Prop:=
 tag< -95∧∃(o:aj) (ty:TypeId),y6 H o pp m cm∧H.get fp=some ⟨cs,ty,1,false⟩∧o fp=tag∧Fr H0 b H o [-90, -91,tag]
theorem pF.ld (h:pF H0 b fp tag pp cs m cm H): ∀k,aq (.pointer (some ⟨fp,k,none⟩)) H=cs[k]? :=λk=>by
 obtain⟨_,o,ty,_,g,_⟩:=h;exact ao fp k H g
theorem pF.ld0 (h:pF H0 b fp tag pp cs m cm H):aq (pv fp) H=cs[0]? :=h.ld 0
theorem pF.st (h:pF H0 b fp tag pp cs m cm H){k:Nat}(hk:k<cs.length){v:Value}(h1:v.cells= #[v])(h2:known v=true)(h3:aD v=true): ∃H',bD 1 (.pointer (some ⟨fp,k,none⟩)) v H=some (undef,H')∧pF H0 b fp tag pp (cs.set k v) m cm H':=by
 obtain⟨ht,o,ty,hm,g,ho,f⟩:=h;have f1:Fr H o (H.put fp ⟨cs.set k v,ty,1,false⟩) o [tag]:=(Fr.refl _ _ _).put λ_=>by simp[ho]
 exact⟨_,r9 fp k v H g rfl hk h1 h2 h3,ht,o,ty,hm.fr f1 (by simp;omega) (by simp;omega),aG g,ho,f.trans f1 (λ_ h=>h) (by simp)⟩
theorem pF.jp (h:pF H0 b fp tag pp cs m cm H):JP (λH' o'=>∃ty,H'.get fp=some ⟨cs,ty,1,false⟩∧o' fp=tag∧Fr H0 b H' o' [-90, -91,tag]) pp m cm H:=by
 obtain⟨ht,o,ty,hm,g,ho,f⟩:=h;exact⟨λH o H' o' ⟨ty,a1,a2,a3⟩ f=>⟨ty,by rw[f.same fp (ar a1) (by rw[a2];simp;omega)];exact a1,by rw[f.own fp (ar a1)];exact a2,a3.trans f (λ_ h=>h) (by simp)⟩,o,hm,ty,g,ho,f⟩
theorem pF.of {m':Y.Mm}{iA:Int}(h:pF H0 b fp tag pp cs m cm H)(k:JP (λH' o'=>∃ty,H'.get fp=some ⟨cs,ty,1,false⟩∧o' fp=tag∧Fr H0 b H' o' [-90, -91,tag]) pp m' iA H'):pF H0 b fp tag pp cs m' iA H':=by
 obtain⟨_,o,hm,ty,g,ho,f⟩:=k;exact⟨h.1,o,ty,hm,g,ho,f⟩
section
variable {α:Type} {kk:Nat→Value→aa→Option α} {Q:α→Prop} {k:Nat} {v:Int}
theorem Ev.YE (h:pF H0 b fp tag pp cs m cm H)(hl:k<cs.length)(hk: ∀H',pF H0 b fp tag pp (cs.set k (cv v)) m cm H'→Ev (λn=>kk n undef H') Q):Ev (λn=>af (bD 1 (.pointer (some ⟨fp,k,none⟩)) (cv v) H) (kk n)) Q:=by
 obtain⟨H',e,h'⟩:=h.st hl (v:=cv v) rfl rfl rfl;rw[e];exact hk H' h'
theorem Ev.Yb (h:pF H0 b fp tag pp cs m cm H)(hl:0<cs.length)(hk: ∀H',pF H0 b fp tag pp (cs.set 0 (cv v)) m cm H'→Ev (λn=>kk n undef H') Q):Ev (λn=>af (bD 1 (pv fp) (cv v) H) (kk n)) Q:=Ev.YE h hl hk
theorem Ev.rdF {a:Int}(h:pF H0 b fp tag pp cs m cm H)(hk: ∀H',pF H0 b fp tag pp cs m (c1 cm) H'→Ev (λn=>kk n (cv (m.at a)) H') Q):Ev (λn=>af (run G n 67 [pv pp,cv a] H) (kk n)) Q:=
 Ev.call (SH h.jp a) λv H' hq=>by obtain⟨rfl,hj⟩:=hq;exact hk H' (h.of hj)
theorem Ev.csF {a y z:Int}(h:pF H0 b fp tag pp cs m cm H)(hk: ∀H',pF H0 b fp tag pp cs (Y.eB m (.cs a y z)).2 (c1 cm) H'→Ev (λn=>kk n (.bool (decide ((Y.eB m (.cs a y z)).1=1))) H') Q):Ev (λn=>af (run G n 66 [pv pp,cv a,cv y,cv z] H) (kk n)) Q:=
 Ev.call (aeO h.jp a y z) λv H' hq=>by obtain⟨rfl,hj⟩:=hq;exact hk H' (h.of hj)
end
def km (m:Y.Mm)(s:Int):Int:=if pk (m.at s)≠5 then m.at s else if m.at (pa (m.at s)+4)=1 then m.at (pa (m.at s)+3) else m.at (pa (m.at s)+2)
theorem EC {K:aa→aj→Prop}(h:JP K pp m cm H)(a:Int):aE (run G) 29 [pv pp,cv a] H (Is H (cv (km m a))):=by
 refine Ev.up (t:=λk=>F29 (run G k) k (pv pp) (cv a) H) ?_ λk=>UQ ..
 have hpa:=Pq (m.at a);have w4:IntKind.i64.wrap (pa (m.at a)+4)=pa (m.at a)+4:=fL (by omega)
 have w3:IntKind.i64.wrap (pa (m.at a)+3)=pa (m.at a)+3:=fL (by omega)
 have w2:IntKind.i64.wrap (pa (m.at a)+2)=pa (m.at a)+2:=fL (by omega)
 simp -implicitDefEqProofs only[F29,sS,Nat.reduceAdd];refine Ev.is (tM h a) ?_
 try simp -implicitDefEqProofs only[sS,Nat.reduceAdd]
 refine Ev.is (CR _) ?_
 try simp -implicitDefEqProofs only[sS,Nat.reduceAdd]
 refine Ev.neq (λh1=>?_) (λh1=>?_)<;>try simp -implicitDefEqProofs only[sS,Nat.reduceAdd]
 ·exact Ev.ret ⟨by unfold km;rw[if_pos h1],rfl⟩
 refine Ev.is (IG _) ?_;simp -implicitDefEqProofs only[w4,sS,Nat.reduceAdd];refine Ev.is (tM h _) ?_
 try simp -implicitDefEqProofs only[sS,Nat.reduceAdd]
 refine Ev.eql (λh2=>?_) (λh2=>?_)<;>try simp -implicitDefEqProofs only[sS,Nat.reduceAdd]
 ·refine Ev.is (IG _) ?_;simp -implicitDefEqProofs only[w3,sS,Nat.reduceAdd];refine Ev.is (tM h _) ?_
  try simp -implicitDefEqProofs only[sS,Nat.reduceAdd]
  exact Ev.ret ⟨by unfold km;rw[if_neg (by simp[h1]),if_pos h2],rfl⟩
 ·refine Ev.is (IG _) ?_;simp -implicitDefEqProofs only[w2,sS,Nat.reduceAdd];refine Ev.is (tM h _) ?_
  try simp -implicitDefEqProofs only[sS,Nat.reduceAdd]
  exact Ev.ret ⟨by unfold km;rw[if_neg (by simp[h1]),if_neg h2],rfl⟩
end
section
open Go.Proofs.YtgfgglponbmgmaaGreatA
variable {m m':Y.Mm} {th jz:kl} {Ga G':Y.Ga} {slot node:Int} {q:List Nat}
theorem TG.own {t:Nat}(h:TG Ga th m)(i:Y.bs G' m')(w:Y.Own t Ga G')(ht:3≤t):TG G' th m':=
 ⟨i,h.root.mono w.le,λj hj hb=>(h.safe j hj hb).mono (w.let' (by omega))⟩
structure Laid (G':Y.Ga) (m m':Y.Mm) (slot node:Int) (q:List Nat) (a:Int):Prop where
 so:Y.aQ G' slot node q
 nz:G'.nz slot
 ty: ∃x,(Y.kd x=1∧x≠m.at slot)∧G'.ty a=some (.ek slot (m.at slot) x 3)
 inst:G'.inst a
 out:m'.at (a+4)=0
 fit:Y.da G' q (m.at slot)
theorem LN (h:TG Ga th m)(so:Y.aQ Ga slot node q)(hz:Ga.nz slot)(shut:Bool): ∃G',TG G' th (jl m node slot shut).2∧Y.Own 3 Ga G'∧((jl m node slot shut).1≠0→Laid G' m (jl m node slot shut).2 slot node q (jl m node slot shut).1):=by
 obtain⟨w,ew⟩: ∃w,w=m.at slot:=⟨_,rfl⟩;by_cases hk:Y.kd w=5∨Y.kd w=3∨Y.kd w=4
 ·have e:jl m node slot shut=(0,m):=by unfold jl;rw[←ew,if_pos hk]
  rw[e];exact⟨Ga,h,Y.Own.refl _ _,λh=>absurd rfl h⟩
 have i:=h.inv;have fw:Y.da Ga q w:=by
  have:=i.slot so
  rw[←ew] at this;rcases this with⟨_,a⟩|⟨_,a|⟨a,_⟩⟩
  ·exact absurd hz a
  ·exact a
  ·omega
 have adH:=i.top;have uV:=so.in' i;obtain⟨d,qq,tn⟩:=so.ty;have el:jl m node slot shut=(let e:=Y.eB m (.mk [0])
   let a:=Y.eB e.2 (.mk (Y.fj (node+2) slot w (Y.fI 1 e.1)))
   if ¬e.1>0∨¬a.1>0 then(0,a.2) else
   let c:=(Y.eB a.2 (.cs slot w (Y.fI 5 a.1))).2
   (a.1,if shut=true∧node≠1 then c.set (node+2) 1 else c)):=by unfold jl;rw[←ew,if_neg hk]
 by_cases hr:m.cs.length+1>m.max
 ·have e1:Y.eB m (.mk [0])=(0,m):=by simp only[Y.eB];rw[if_pos (.inr (by simp;omega))]
  have e2:Y.eB m (.mk (Y.fj (node+2) slot w (Y.fI 1 0)))=(0,m):=by simp only[Y.eB];rw[if_pos (.inr (by simp[Y.fj];omega))]
  have e:jl m node slot shut=(0,m):=by rw[el];simp only[e1,e2];rw[if_pos (.inl (by simp))]
  rw[e];exact⟨Ga,h,Y.Own.refl _ _,λh=>absurd rfl h⟩
 have e1:Y.eB m (.mk [0])=((m.cs.length:Int)+1,⟨m.cs++[0],m.max⟩):=by simp only[Y.eB];rw[if_neg (by rintro(a|a)<;>simp at a;omega)]
 have i1:=i.make (r:=.empty) (ws:=[0]) rfl (by simp;omega)
 obtain⟨G1,eG1⟩: ∃G1,G1=Ga.make (m.cs.length+1) .empty [0]:=⟨_,rfl⟩;rw[←eG1] at i1;have g1:Ga.le G1:=by rw[eG1];exact Y.Ga.nv i.Ea
 have n1: ∀e,G1.inst e→Ga.inst e:=λe k=>by rw[eG1] at k;exact k
 obtain⟨x,ex⟩: ∃x,x=Y.fI 1 ((m.cs.length:Int)+1):=⟨_,rfl⟩;have kx:Y.kd x=1:=by rw[ex];exact Y.ik (by omega) (by omega)
 have nx:x≠w:=λe=>by
  obtain⟨_,r,tr⟩:=fw.1;have:=(i.room _ _ tr).2
  rw[←e,ex,Y.iO (by omega) (by omega)] at this
  cases r<;>simp[Y.Rec.size] at this<;>omega
 obtain⟨m1,em1⟩: ∃m1,m1=Y.Mm.mk (m.cs++[0]) m.max:=⟨_,rfl⟩;have l1:m1.cs.length=m.cs.length+1:=by rw[em1];simp
 have x1:m1.max=m.max:=by rw[em1]
 rw[←em1] at i1 e1;by_cases sC:m1.cs.length+5>m1.max
 ·have e2:Y.eB m1 (.mk (Y.fj (node+2) slot w x))=(0,m1):=by simp only[Y.eB];rw[if_pos (.inr (by simp[Y.fj];omega))]
  have e:jl m node slot shut=(0,m1):=by rw[el];simp only[e1, ←ex,e2];rw[if_pos (.inr (by simp))]
  rw[e];exact⟨G1,h.own i1 (Y.Own.of (t:=3) g1 n1) (by omega),Y.Own.of g1 n1,λh=>absurd rfl h⟩
 have e2:Y.eB m1 (.mk (Y.fj (node+2) slot w x))=((m1.cs.length:Int)+1,⟨m1.cs++Y.fj (node+2) slot w x,m1.max⟩):=by
  simp only[Y.eB];rw[if_neg (by rintro(a|a)<;>simp[Y.fj] at a;omega)]
 have TB:=so.mono g1;have fw1:=fw.mono g1;have i2:=i1.make (r:=.ek slot w x 3) (ws:=Y.fj (node+2) slot w x) ⟨node,q,TB,fw1,⟨by rw[ex];exact Y.nZ.fI (r:=.empty) (by omega) (by omega) (by rw[eG1];simp[Y.Ga.make]),.inl kx⟩,rfl⟩ (by simp[Y.fj];omega)
 obtain⟨a,ea⟩: ∃a:Int,a=(m1.cs.length:Int)+1:=⟨_,rfl⟩;obtain⟨G2,eG2⟩: ∃G2,G2=G1.make (m1.cs.length+1) (.ek slot w x 3) (Y.fj (node+2) slot w x):=⟨_,rfl⟩;rw[←eG2] at i2;have g2:G1.le G2:=by rw[eG2];exact Y.Ga.nv i1.Ea
 have n2: ∀e,G2.inst e→G1.inst e:=λe k=>by rw[eG2] at k;exact k
 have ta:G2.ty a=some (.ek slot w x 3):=by rw[eG2,ea];simp[Y.Ga.make]
 obtain⟨m2,em2⟩: ∃m2,m2=Y.Mm.mk (m1.cs++Y.fj (node+2) slot w x) m1.max:=⟨_,rfl⟩;rw[←em2, ←ea] at e2;rw[←em2] at i2;have l2:m2.cs.length=m1.cs.length+5:=by rw[em2];simp[Y.fj]
 have w1:m1.at slot=w:=by rw[em1,Y.FW (by omega),ew]
 have w2:m2.at slot=w:=by
  have e:(Y.Mm.mk m1.cs m1.max).at slot=m1.at slot:=rfl;rw[em2,Y.FW (by omega),e,w1]
 have o2:m2.at (a+4)=0:=by
  have h4:=Y.Ol (cs:=m1.cs) (w:=Y.fj (node+2) slot w x) (mx:=m1.max) (j:=4) (by simp[Y.fj])
  rw[em2,ea];exact h4
 have hi: ¬G2.inst a:=λk=>by
  obtain⟨s,old,new,b,t⟩:=i.inst _ (n1 _ (n2 _ k));have:=i.room _ _ t
  simp[Y.Rec.size] at this;omega
 have ec:(Y.eB m2 (.cs slot w (Y.fI 5 a))).2=m2.set slot (Y.fI 5 a):=by
  simp only[Y.eB];rw[if_pos ⟨by unfold Y.Mm.used;omega,w2⟩]
 have i3:=i2.inst1 ta w2 hi;have e:jl m node slot shut=(a,if shut=true∧node≠1 then(m2.set slot (Y.fI 5 a)).set (node+2) 1 else m2.set slot (Y.fI 5 a)):=by
  rw[el];simp only[e1, ←ex,e2];rw[if_neg (by omega),ec]
 have Yc:Y.Own 3 Ga (G2.install a):=⟨(g1.trans g2).trans (Y.Ga.gW _ _),λe s old new u hu t k=>by
  rcases k with k|rfl
  ·exact n1 _ (n2 _ k)
  ·have:=i.room _ _ t
   simp[Y.Rec.size] at this;omega⟩
 have so3:=(TB.mono g2).mono (Y.Ga.gW G2 a);have laid: ∀{G4:Y.Ga} {m4:Y.Mm},(G2.install a).le G4→m4.at (a+4)=0→Laid G4 m m4 slot node q a:=λ{G4 m4} g4 ho=>by
  refine⟨so3.mono g4,g4.nz _ ((Y.Ga.gW G2 a).nz _ (g2.nz _ (g1.nz _ hz))),⟨x,⟨kx,by rw[←ew];exact nx⟩,?_⟩,g4.inst _ (.inr rfl),ho,?_⟩
  ·rw[←ew];exact g4.ty _ _ ((Y.Ga.gW G2 a).ty _ _ ta)
  ·rw[←ew];exact((fw1.mono g2).mono (Y.Ga.gW G2 a)).mono g4
 have o3:(m2.set slot (Y.fI 5 a)).at (a+4)=0:=by rw[Y.aH (by omega)];exact o2
 rw[e];by_cases hs:shut=true∧node≠1
 ·rw[if_pos hs];have tn3:(G2.install a).ty node=some (.inner d qq):=(Y.Ga.gW G2 a).ty _ _ (g2.ty _ _ (g1.ty _ _ tn));have i4:=i3.guard tn3;have g4:=Y.Ga.vG (G2.install a) node;have aba:Y.Own 3 Ga ((G2.install a).Cz node):=Yc.trans (Y.Own.of g4 λ_ k=>k)
  refine⟨_,h.own i4 aba (by omega),aba,λ_=>laid g4 ?_⟩
  have:=i.room _ _ tn
  simp[Y.Rec.size] at this;rw[Y.aH (by omega)];exact o3
 ·rw[if_neg hs];exact⟨_,h.own i3 Yc (by omega),Yc,λ_=>laid (Y.Ga.le.refl _) o3⟩
end
section
variable {H:aa} {P:Program} {e t:TypeId} {f:Nat}
theorem lR.abb (ht:P.underlying t=some (.slice e))(he:P.underlying e=some (.int .i64))(hc:P.cellsOf e=1){v:Value}(h:lR P H (f+2) t v):
  ∃l,sA H v l∧dV H o0 (-1) v l∧l.length≤maxLen:=by
 obtain⟨l,h1,_,h3⟩:=h.ints ht he hc;refine⟨l,⟨h1.1,λa n c ev=>?_⟩,h1,h3⟩
 obtain⟨a',c',e'⟩:=h1.1.isSlice;rcases In.slice ht (h.one (by simp[ht])) with k|⟨i,es,k,_⟩
 ·cases k;cases ev;injection e' with _ e2 _;omega
 ·cases k;cases ev;injection e' with _ e2 _;omega
theorem ade (k:FuncId)(hk:kk.contains k=true)(H:aa):aE (run KG) k [] H (Is H (.bool true)):=by
 refine aE.is (λn=>?_) ⟨rfl,rfl⟩
 have hb:(ks++oj Tryz.prog).contains k=true:=by
  simp only[List.contains_eq_mem,decide_eq_true_eq,List.mem_append] at hk ⊢;exact .inl hk
 unfold run;simp only[gr,hb,if_true];show(if kk.contains k=true∧([]:List Value).isEmpty=true then some (Value.bool true,H) else none)=_
 rw[if_pos ⟨hk,rfl⟩]
end
section
open Go.Proofs.YtgfgglponbmgmaaGreatA
variable {G:ae} {H H' H0:aa} {b o o':aj} {p c pp mp xp yp fp gp i:Nat} {x:Value} {m m' mP:Y.Mm} {cm iA:Int} {tag:Int} {cs:List Value} {th:kl} {L:List ku} {N M:Nat} {T:List Int} {Ga:Y.Ga}
def PF (H:aa)(o:aj)(fp:Nat)(tag:Int)(cs:List Value):Prop:=∃ty,H.get fp=some ⟨cs,ty,1,false⟩∧o fp=tag
theorem PF.fr {ps:List Int}(h:PF H o fp tag cs)(f:Fr H o H' o' ps)(hp:tag ∉ ps):PF H' o' fp tag cs:=by
 obtain⟨ty,g,ho⟩:=h;exact⟨ty,by rw[f.same fp (ar g) (by rw[ho];exact hp)];exact g,by rw[f.own fp (ar g)];exact ho⟩
theorem PF.new (t:TypeId):PF (H.new ⟨cs,t,1,false⟩) (o.up H.length tag) H.length tag cs:=⟨t,aL,aP⟩
def CV (tag:Int):Bool:=decide (tag< -95)&& !(yt.contains tag)&&decide (-230<tag∨tag< -290)
theorem SO (h:CV tag=true):tag< -95∧∀z∈(-41:Int)::yt,z≠tag:=by
 simp only[CV,Bool.and_eq_true,decide_eq_true_eq,Bool.not_eq_true',List.contains_eq_mem,decide_eq_false_iff_not] at h;refine⟨h.1.1,λz hz e=>?_⟩
 subst e;rcases List.mem_cons.1 hz with e|hz
 ·omega
 ·exact h.1.2 hz
theorem pF.start (hy:YR H o yp xp pp mp mP m cm th L)(hf:PF H o fp tag cs)(ht:tag< -95):pF H o fp tag pp cs mP cm H:=by
 obtain⟨ty,g,ho⟩:=hf;exact⟨ht,o,ty,hy.2.2.2,g,ho,Fr.refl _ _ _⟩
theorem pF.back (h:pF H0 b fp tag pp cs m cm H): ∃o,y6 H o pp m cm∧PF H o fp tag cs∧Fr H0 b H o [-90, -91,tag]:=by
 obtain⟨_,o,ty,hm,g,ho,f⟩:=h;exact⟨o,hm,⟨ty,g,ho⟩,f⟩
theorem YR.abd (h:YR H o yp xp pp mp mP m cm th L)(f:Fr H o H' o' [-90, -91,tag])(ht:CV tag=true)(hm:y6 H' o' pp m' iA):YR H' o' yp xp pp mp m' m iA th L:=by
 obtain⟨⟨ty,g⟩,ho,hw,hp⟩:=h;obtain⟨h1,h2⟩:=SO ht;refine⟨⟨ty,by rw[f.same yp (ar g) (by rw[ho];simp;omega)];exact g⟩,by rw[f.own yp (ar g)];exact ho,hw.ue f λz hz hh=>?_,hm⟩
 simp only[List.mem_cons,List.not_mem_nil,or_false] at hz;rcases hz with rfl|rfl|rfl
 ·simp at hh
 ·simp at hh
 ·exact h2 z (by
   rcases List.mem_cons.1 hh with rfl|hh
   ·simp
   ·exact List.mem_cons_of_mem _ (List.mem_cons_of_mem _ (List.mem_cons_of_mem _ (List.mem_cons_of_mem _ hh)))) rfl
theorem adf (t:TypeId)(a:Int):ai Tryz.prog .rem t (cv a) (cv 2)=some (cv (a.tmod 2)):=vD _ a 2 (by decide)
end
section
open Go.Proofs.YtgfgglponbmgmaaGreatA
variable {G:ae} {H H' H0:aa} {b o o':aj} {p c pp mp xp yp fp gp i:Nat} {x:Value} {m m' mP:Y.Mm} {cm iA:Int} {tag:Int} {cs:List Value} {th:kl} {L:List ku} {N M:Nat} {T:List Int} {Ga:Y.Ga}
structure HpS where
 next:Int
 dS:Int
 guard:Int
 out:Int
 place:Int
 word:Int
abbrev hpc (s:HpS):List Value:=[cv s.next,cv s.dS,cv s.guard,cv s.out,cv s.place,cv s.word]
def cn (s:HpS)(m:Y.Mm):HpS×Y.Mm:=
 if s.next=0 then({s with next:=1,guard:=m.at s.dS},m) else
 if s.next=1 then({s with next:=2,out:=if m.at s.guard≠0 then 2 else 1},m) else
 if s.next=2 then({s with next:=3},(Y.eB m (.cs (s.dS+4) 0 s.out)).2) else
 if s.next=3 then({s with next:=4,out:=m.at (s.dS+4)},m) else
 if s.next=4 then({s with next:=5,place:=m.at (s.dS+1)},m) else
 if s.next=5 then({s with next:=6,word:=if s.out=1 then m.at (s.dS+3) else m.at (s.dS+2)},m) else
 if s.next=6 then({s with next:=7},(Y.eB m (.cs s.place (Y.fI 5 s.dS) s.word)).2) else
 (s,m)
def aea (s:HpS):Prop:=0≤s.next∧s.next≤7∧ -9223372036854775808≤s.dS∧s.dS≤65536
theorem ad2 {s:HpS}(h:aea s):s.next=0∨s.next=1∨s.next=2∨s.next=3∨s.next=4∨s.next=5∨s.next=6∨s.next=7:=by
 obtain⟨h1,h2,_⟩:=h;omega
theorem adX {s:HpS}(h:aea s)(m:Y.Mm):aea (cn s m).1∧(cn s m).1.dS=s.dS∧(s.next≠7→(cn s m).1.next=s.next+1)∧(s.next=7→cn s m=(s,m)):=by
 obtain⟨h1,h2,h3,h4⟩:=id h;rcases ad2 h with e|e|e|e|e|e|e|e<;>simp[cn,e,aea,h3,h4]
theorem ad3 {s:HpS}(h:pF H0 b fp tag pp (hpc s) m cm H):aE (run G) 21 [pv fp] H (Is H (.bool (decide (s.next=7)))):=by
 refine Ev.up (t:=λn=>F21 (run G n) n (pv fp) H) ?_ λn=>aeK ..
 have L:=h.ld0;simp -implicitDefEqProofs only[F21,Nat.add_zero,L,sS,Nat.reduceAdd];simp -implicitDefEqProofs only[vC,sS,Nat.reduceAdd];exact Ev.ret ⟨rfl,rfl⟩
theorem aev {s:HpS}(h:pF H0 b fp tag pp (hpc s) m cm H)(hi:aea s):aE (run G) 19 [pv fp,pv pp] H λv H'=>v= .bool (decide ((cn s m).1.next=7))∧∃iA,pF H0 b fp tag pp (hpc (cn s m).1) (cn s m).2 iA H':=by
 refine Ev.up (t:=λn=>F19 (run G n) n (pv fp) (pv pp) H) ?_ λn=>aeI ..
 have hc:=ad2 hi;obtain⟨n0,n7,b1,b2⟩:=id hi;have L:=h.ld;have L0:=h.ld0;have w: ∀{j:Int},0≤j∧j≤8→IntKind.i64.wrap (s.dS+j)=s.dS+j:=λhj=>fL (by omega)
 have w0:=w (j:=0) (by omega)
 have w1:=w (j:=1) (by omega)
 have w2:=w (j:=2) (by omega)
 have w3:=w (j:=3) (by omega)
 have w4:=w (j:=4) (by omega)
 simp only[Int.add_zero] at w0;have J0: ∀{H1:aa} {s1:HpS} {m1:Y.Mm} {cz:Int} (x4 x8 x9 bl bR cj cx fN mY iM BO:Value),pF H0 b fp tag pp (hpc s1) m1 cz H1→s1.next=s.next→s.next≠7→cn s m=({s1 with next:=s.next+1},m1)→Ev (λk=>adN (run G k) k [pv fp,pv pp,x4,x8,x9,bl,bR,cj,cx,fN,mY,iM,BO] H1) λr=>r.1= .bool (decide ((cn s m).1.next=7))∧∃iA,pF H0 b fp tag pp (hpc (cn s m).1) (cn s m).2 iA r.2:=by
  intro H1 s1 m1 cz x4 x8 x9 bl bR cj cx fN mY iM BO h1 e1 e7 e2;have L1:=h1.ld0;have hw:IntKind.i64.wrap (s1.next+1)=s.next+1:=by rw[e1,fL (by omega)]
  simp -implicitDefEqProofs only[aes,ad7,Nat.add_zero,L1,hw,sS,Nat.reduceAdd];refine Ev.Yb h1 (by simp) λH2 h2=>?_
  have YI:pF H0 b fp tag pp (hpc {s1 with next:=s.next+1}) m1 cz H2:=h2
  try simp -implicitDefEqProofs only[sS,Nat.reduceAdd]
  refine Ev.is (ad3 YI) ?_
  try simp -implicitDefEqProofs only[sS,Nat.reduceAdd]
  rw[e2];exact Ev.ret ⟨rfl,cz,YI⟩
 simp -implicitDefEqProofs only[F19,Nat.add_zero,L0,sS,Nat.reduceAdd];refine Ev.eql (λq0=>?_) (λq0=>?_)<;>try simp -implicitDefEqProofs only[L,Int.add_zero,w0,sS,Nat.reduceAdd]
 ·refine Ev.rdF h λH1 h1=>?_
  try simp -implicitDefEqProofs only[sS,Nat.reduceAdd]
  refine Ev.YE h1 (by simp) λH2 h2=>?_
  try simp -implicitDefEqProofs only[sS,Nat.reduceAdd]
  exact J0 _ _ _ _ _ _ _ _ _ _ _ (s1:={s with guard:=m.at s.dS}) h2 rfl (by omega) (by simp[cn,q0])
 refine Ev.eql (λq1=>?_) (λq1=>?_)<;>try simp -implicitDefEqProofs only[L,sS,Nat.reduceAdd]
 ·refine Ev.YE h (by simp) λH1 h1=>?_
  have L1:=h1.ld;simp only[List.set_cons_succ,List.set_cons_zero] at h1 L1;simp -implicitDefEqProofs only[L1,sS,Nat.reduceAdd];refine Ev.rdF h1 λH2 h2=>?_
  try simp -implicitDefEqProofs only[sS,Nat.reduceAdd]
  refine Ev.neq (λq2=>?_) (λq2=>?_)<;>try simp -implicitDefEqProofs only[sS,Nat.reduceAdd]
  ·refine Ev.YE h2 (by simp) λH3 h3=>?_
   try simp -implicitDefEqProofs only[sS,Nat.reduceAdd]
   exact J0 _ _ _ _ _ _ _ _ _ _ _ (s1:={s with out:=2}) h3 rfl (by omega) (by simp[cn,q1,q2])
  ·exact J0 _ _ _ _ _ _ _ _ _ _ _ (s1:={s with out:=1}) h2 rfl (by omega) (by simp[cn,q1,q2])
 refine Ev.eql (λq2=>?_) (λq2=>?_)<;>try simp -implicitDefEqProofs only[L,w4,sS,Nat.reduceAdd]
 ·refine Ev.csF h λH1 h1=>?_
  try simp -implicitDefEqProofs only[sS,Nat.reduceAdd]
  exact J0 _ _ _ _ _ _ _ _ _ _ _ (s1:=s) h1 rfl (by omega) (by simp[cn,q2])
 refine Ev.eql (λq3=>?_) (λq3=>?_)<;>try simp -implicitDefEqProofs only[L,w4,sS,Nat.reduceAdd]
 ·refine Ev.rdF h λH1 h1=>?_
  try simp -implicitDefEqProofs only[sS,Nat.reduceAdd]
  refine Ev.YE h1 (by simp) λH2 h2=>?_
  try simp -implicitDefEqProofs only[sS,Nat.reduceAdd]
  exact J0 _ _ _ _ _ _ _ _ _ _ _ (s1:={s with out:=m.at (s.dS+4)}) h2 rfl (by omega) (by simp[cn,q3])
 refine Ev.eql (λq4=>?_) (λq4=>?_)<;>try simp -implicitDefEqProofs only[L,w1,sS,Nat.reduceAdd]
 ·refine Ev.rdF h λH1 h1=>?_
  try simp -implicitDefEqProofs only[sS,Nat.reduceAdd]
  refine Ev.YE h1 (by simp) λH2 h2=>?_
  try simp -implicitDefEqProofs only[sS,Nat.reduceAdd]
  exact J0 _ _ _ _ _ _ _ _ _ _ _ (s1:={s with place:=m.at (s.dS+1)}) h2 rfl (by omega) (by simp[cn,q4])
 refine Ev.eql (λq5=>?_) (λq5=>?_)<;>try simp -implicitDefEqProofs only[L,sS,Nat.reduceAdd]
 ·refine Ev.eql (λq6=>?_) (λq6=>?_)<;>try simp -implicitDefEqProofs only[L,w3,w2,sS,Nat.reduceAdd]
  ·refine Ev.rdF h λH1 h1=>?_
   try simp -implicitDefEqProofs only[sS,Nat.reduceAdd]
   refine Ev.YE h1 (by simp) λH2 h2=>?_
   try simp -implicitDefEqProofs only[sS,Nat.reduceAdd]
   exact J0 _ _ _ _ _ _ _ _ _ _ _ (s1:={s with word:=m.at (s.dS+3)}) h2 rfl (by omega) (by simp[cn,q5,q6])
  ·refine Ev.rdF h λH1 h1=>?_
   try simp -implicitDefEqProofs only[sS,Nat.reduceAdd]
   refine Ev.YE h1 (by simp) λH2 h2=>?_
   try simp -implicitDefEqProofs only[sS,Nat.reduceAdd]
   exact J0 _ _ _ _ _ _ _ _ _ _ _ (s1:={s with word:=m.at (s.dS+2)}) h2 rfl (by omega) (by simp[cn,q5,q6])
 refine Ev.eql (λq6=>?_) (λq6=>?_)<;>try simp -implicitDefEqProofs only[L,sS,Nat.reduceAdd]
 ·refine Ev.is (ae2 5 _) ?_
  try simp -implicitDefEqProofs only[L,sS,Nat.reduceAdd]
  refine Ev.csF h λH1 h1=>?_
  have L1:=h1.ld
  try simp -implicitDefEqProofs only[L,L1,mS,sS,Nat.reduceAdd]
  exact J0 _ _ _ _ _ _ _ _ _ _ _ (s1:=s) h1 rfl (by omega) (by simp[cn,q6])
 ·have e7:s.next=7:=by omega
  have es:=(adX hi m).2.2.2 e7;rw[es];exact Ev.ret ⟨by rw[decide_eq_true e7],cm,h⟩
theorem afa (a:Int):aF Tryz.prog 106 [(1,cv a)]=some (.agg (hpc ⟨0,a,0,0,0,0⟩).toArray):=by kernel_rfl
theorem ae3 (a:Int)(H:aa):dH 106 (.agg (hpc ⟨0,a,0,0,0,0⟩).toArray) H=some (pv H.length,H.new ⟨hpc ⟨0,a,0,0,0,0⟩,106,1,false⟩):=by
 simp[dH,Value.cells,aD,aS]
theorem aen (a:Int):aE (run G) 16 [cv a] H λv H'=>v=pv H.length∧H'=H.new ⟨hpc ⟨0,a,0,0,0,0⟩,106,1,false⟩:=by
 refine Ev.up (t:=λn=>F16 (run G n) n (cv a) H) ?_ λn=>aeM ..
 simp -implicitDefEqProofs only[F16,afa,ae3,sS,Nat.reduceAdd];exact Ev.ret ⟨rfl,rfl⟩
theorem aew {s:HpS}(h:YR H o yp xp pp mp mP m cm th L)(hf:PF H o fp tag (hpc s))(ht:CV tag=true)(hi:aea s):aE (run G) 19 [pv fp,pv pp] H λv H'=>v= .bool (decide ((cn s mP).1.next=7))∧∃o' iA,Fr H o H' o' [-90, -91,tag]∧YR H' o' yp xp pp mp (cn s mP).2 m iA th L∧PF H' o' fp tag (hpc (cn s mP).1):=by
 refine(aev (pF.start h hf (SO ht).1) hi).mono ?_;rintro v H' ⟨rfl,iA,hj⟩;obtain⟨o',hm,Bk,f⟩:=hj.back;exact⟨rfl,o',iA,f,h.abd f ht hm,Bk⟩
end
end Go.Proofs.YtgfgglponbmgmaaGreat.Fun
end
