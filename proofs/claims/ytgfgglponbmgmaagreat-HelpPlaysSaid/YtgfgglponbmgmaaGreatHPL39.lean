/- Texts of the proof of helpPlays_holds, put together by a small program of ours (names shortened, spaces taken out). No condition beyond the given statement. -/
import Derived.Test.YtgfgglponbmgmaaGreatHPL11
import Derived.Test.YtgfgglponbmgmaaGreatHPL15
import Derived.Test.YtgfgglponbmgmaaGreatHPL14
import Derived.Test.YtgfgglponbmgmaaGreatHPL18
import Derived.Test.YtgfgglponbmgmaaGreatHPL38
import Derived.Test.YtgfgglponbmgmaaGreatHPL12
import Derived.Test.YtgfgglponbmgmaaGreatHPL16
import Derived.Test.YtgfgglponbmgmaaGreatHPL17
import Derived.Test.YtgfgglponbmgmaaGreatHPL27
import Derived.Test.YtgfgglponbmgmaaGreatHPL13
set_option linter.unusedVariables false
set_option linter.unusedSimpArgs false
set_option linter.unnecessarySimpa false
noncomputable section
section
namespace Go.Proofs.YtgfgglponbmgmaaGreat.Fun
open Go Go.RowKit Go.Proofs.YtgfgglponbmgmaaGreatA.Am
set_option maxRecDepth 10000
section
open Go.Proofs.YtgfgglponbmgmaaGreatA
variable {G:ae} {H H':aa} {o o':aj} {p c pp mp xp yp f i:Nat} {K:aa→aj→Prop} {x:Value} {m m' mP:Y.Mm} {cr:Int} {th:jz} {L:List kq} {N M:Nat} {Ga:Y.Ga}
def Uq (Ga:Y.Ga)(m:Y.Mm)(l:PL):Prop:=l≠[]∧l.length≤m.cs.length∧∀e∈l,∃q,Y.aQ Ga e.2 e.1 q∧Ga.nz e.2
theorem Ur (hm:qp H mp m)(i:Y.bs Ga m)(r:FB Ga)(o:aj):aF (run G) 50 [pv mp] H λv H'=>∃t o' l,Fr H o H' o' []∧gZ H' o' t v l∧Uq Ga m l:=by
 refine Ev.up (t:=λk=>F50 (run G k) k (pv mp) H) ?_ λk=>Xn ..
 have hl:m.cs.length≤65536:=by have:=i.top;omega
 obtain⟨l,hb,hlen,Zy⟩:=Y.Hu i r.1 r.2;obtain⟨t,P5,C8⟩:=gI o H.length;simp -implicitDefEqProofs only[F50,sS,Nat.reduceAdd];refine Ev.is (wj hm hl 6) ?_;obtain⟨H1,e1⟩: ∃z,z=H.new ⟨[cv 1,cv 6],69,2,false⟩:=⟨_,rfl⟩;have b1:=Vm 1 6 H;rw[←e1] at b1;simp -implicitDefEqProofs only[Vl,b1,sS,Nat.reduceAdd];have f1:Fr H o H1 (o.up H.length t) []:=by rw[e1];exact(Fr.refl _ _ _).new _ _
 have s1:gZ H1 (o.up H.length t) t (.slice (some ⟨H.length,0,none⟩) 1 1) [(1,6)]:=.inr ⟨H.length,1,[],69,rfl,by rw[e1];exact aL,by simp,aP⟩
 have NU:=hm.fr f1;refine Ev.call (TE (t:=t) (B:=H) (b:=o) hm hl (λi hi=>by have:=C8 i hi;omega) _ rfl hb f1 s1 (by simp at hlen ⊢;omega)) ?_
 rintro v H2 ⟨o2,f2,s2⟩
 try simp -implicitDefEqProofs only[sS,Nat.reduceAdd]
 exact Ev.ret ⟨t,o2,(1,6)::l,f2,s2,by simp,hlen,Zy⟩
theorem Zz (hm:qp H mp m)(i:Y.bs Ga m)(r:FB Ga)(o:aj)(n:Int):aF (run G) 23 [pv mp,cv n] H λv H'=>∃o' node slot q,Fr H o H' o' []∧v= .agg #[cv node,cv slot]∧Y.aQ Ga slot node q∧Ga.nz slot:=by
 refine Ev.up (t:=λk=>F23 (run G k) k (pv mp) (cv n) H) ?_ λk=>Xx ..
 have hl:m.cs.length≤65536:=by have:=i.top;omega
 obtain⟨H1,e1⟩: ∃z,z=H.new ⟨[cv 0,cv 0],69,1,false⟩:=⟨_,rfl⟩;have n0:aV H 69 1 [cv 0,cv 0]=(pv H.length,H1):=by rw[e1];rfl
 have f1:Fr H o H1 (o.up H.length (-9)) []:=by rw[e1];exact(Fr.refl _ _ _).new _ _
 have g1:H1.get H.length=some ⟨[cv 0,cv 0],69,1,false⟩:=by rw[e1];exact aL
 have NU:=hm.fr f1;simp -implicitDefEqProofs only[F23,n0,sS,Nat.reduceAdd];refine Ev.call (Ur NU i r (o.up H.length (-9))) ?_;rintro v H2 ⟨t,o2,l,f2,s2,dC,hlen,Zy⟩;simp -implicitDefEqProofs only[s2.len,sS,Nat.reduceAdd];have F1:0<l.length:=List.length_pos_iff.2 dC;refine Ev.call (kG n l.length (by omega)) ?_
 rintro v' H3 ⟨z,rfl,Uz,ZI,rfl⟩;obtain⟨j,rfl⟩: ∃k:Nat,z=k:=⟨z.toNat,by omega⟩
 have hj:j<l.length:=by omega
 obtain⟨qi,b,k1,k2,k3,k4⟩:=s2.idx hj;obtain⟨_,_,k5⟩:=k4 H3 k2;have eg:l.getD j (0,0)=l[j]:=by simp[List.getD_eq_getElem?_getD,hj]
 rw[eg] at k5;have g3:H3.get H.length=some ⟨[cv 0,cv 0],69,1,false⟩:=by rw[f2.same _ (ar g1) (by simp)];exact g1
 have S:bE 2 (pv H.length) (.agg #[cv l[j].1,cv l[j].2]) H3=some (undef,H3.put H.length ⟨[cv l[j].1,cv l[j].2],69,1,false⟩):=by
  simp[bE,bZ,g3,Value.cells,known,aD,dz]
 have D:dh 2 (pv H.length) (H3.put H.length ⟨[cv l[j].1,cv l[j].2],69,1,false⟩)=some (.agg #[cv l[j].1,cv l[j].2]):=by
  simp[dh,aR,aG g3]
 simp -implicitDefEqProofs only[k1,k5,S,D,sS,Nat.reduceAdd];obtain⟨q,hq,hz⟩:=Zy l[j] (List.getElem_mem hj);have DC:o2 H.length= -9:=by rw[f2.own _ (ar g1)];exact aP
 exact Ev.ret ⟨o2,l[j].1,l[j].2,q,(f1.tr f2).put λhh=>by omega,rfl,hq,hz⟩
def ji (m:Y.Mm)(node slot:Int)(shut:Bool):Int×Y.Mm:=
 if Y.kd (m.at slot)=5∨Y.kd (m.at slot)=3∨Y.kd (m.at slot)=4 then(0,m) else
 let e:=Y.db m (.mk [0])
 let a:=Y.db e.2 (.mk (Y.fG (node+2) slot (m.at slot) (Y.fm 1 e.1)))
 if ¬e.1>0∨¬a.1>0 then(0,a.2) else
 let c:=(Y.db a.2 (.cs slot (m.at slot) (Y.fm 5 a.1))).2
 (a.1,if shut=true∧node≠1 then c.set (node+2) 1 else c)
theorem FD (a b c d:Int):aF (run G) 58 [cv a,cv b,cv c,cv d] H λw H'=>HG H H' w (Y.fG a b c d):=by
 refine Ev.up (t:=λn=>F58 (run G n) n (cv a) (cv b) (cv c) (cv d) H) ?_ λn=>Oy ..
 simp -implicitDefEqProofs only[F58,PJ,sS,Nat.reduceAdd];exact Ev.ret ⟨(Ext.refl _).new _,lA [a,b,c,d,0] _,λa n c e=>by cases e;exact Nat.le_refl _⟩
theorem ace (h:YR H o yp xp pp mp m m cr th L)(i:Y.bs Ga m)(r:FB Ga)(n:Int)(shut:Bool):aF (run G) 13 [pv yp,cv n,.bool shut] H λv H'=>∃o' node slot q eS,Fr H o H' o' yt∧Y.aQ Ga slot node q∧Ga.nz slot∧v=cv (ji m node slot shut).1∧YR H' o' yp xp pp mp (ji m node slot shut).2 (ji m node slot shut).2 eS th L:=by
 refine Ev.up (t:=λk=>F13 (run G k) k (pv yp) (cv n) (.bool shut) H) ?_ λk=>Yg ..
 obtain⟨a0,a1,a2⟩:=h.ld;simp -implicitDefEqProofs only[F13,a1,a2,sS,Nat.reduceAdd];refine Ev.call (Zz h.Dw.look i r o n) ?_;rintro v H1 ⟨o1,node,slot,q,f1,rfl,so,hz⟩;obtain⟨H2,e2⟩: ∃z,z=H1.new ⟨[cv 0,cv 0],69,1,false⟩:=⟨_,rfl⟩;have n0:aV H1 69 1 [cv 0,cv 0]=(pv H1.length,H2):=by rw[e2];rfl
 have g2:H2.get H1.length=some ⟨[cv 0,cv 0],69,1,false⟩:=by rw[e2];exact aL
 have S:bE 2 (pv H1.length) (.agg #[cv node,cv slot]) H2=some (undef,H2.put H1.length ⟨[cv node,cv slot],69,1,false⟩):=by
  simp[bE,bZ,g2,Value.cells,known,aD,dz]
 obtain⟨H3,e3⟩: ∃z,z=H2.put H1.length ⟨[cv node,cv slot],69,1,false⟩:=⟨_,rfl⟩;rw[←e3] at S;obtain⟨o3,eo3⟩: ∃z,z=o1.up H1.length (-9):=⟨_,rfl⟩;have f13:Fr H1 o1 H3 o3 []:=by
  rw[e3,e2,eo3];exact((Fr.refl H1 o1 []).new _ _).put λhh=>by omega
 have f03:Fr H o H3 o3 []:=f1.tr f13;have c3:Cl H1.length [cv node,cv slot] 69 H3 o3:=⟨by rw[e3];exact aG g2,by rw[eo3];exact aP⟩
 have h3:=h.fr f03 (by simp)
 have L1:aq (.pointer (some ⟨H1.length,1,none⟩)) H3=some (cv slot):=an _ 1 _ c3.1;simp -implicitDefEqProofs only[n0,S,L1,sS,Nat.reduceAdd];have hlm:=h.Dw.Aw;refine Ev.is (Dq h3.Dw.look hlm.1 slot) ?_
 try simp -implicitDefEqProofs only[sS,Nat.reduceAdd]
 obtain⟨w,ew⟩: ∃w,w=m.at slot:=⟨_,rfl⟩;rw[←ew];refine Ev.is (hX _) ?_
 try simp -implicitDefEqProofs only[sS,Nat.reduceAdd]
 have no:Y.kd w=5∨Y.kd w=3∨Y.kd w=4→Ev (λ_=>some (cv 0,H3)) λr=>∃o' node slot q eS,Fr H o r.2 o' yt∧Y.aQ Ga slot node q∧Ga.nz slot∧r.1=cv (ji m node slot shut).1∧YR r.2 o' yp xp pp mp (ji m node slot shut).2 (ji m node slot shut).2 eS th L:=λhk=>by
  have e:ji m node slot shut=(0,m):=by unfold ji;rw[←ew,if_pos hk]
  exact Ev.ret ⟨o3,node,slot,q,cr,f03.wk (by simp),so,hz,by rw[e],by rw[e];exact h3⟩
 refine Ev.eql (λk5=>?_) (λk5=>?_)<;>try simp -implicitDefEqProofs only[sS,Nat.reduceAdd]
 ·exact no (.inl k5)
 refine Ev.is (hX _) ?_
 try simp -implicitDefEqProofs only[sS,Nat.reduceAdd]
 refine Ev.eql (λk3=>?_) (λk3=>?_)<;>try simp -implicitDefEqProofs only[sS,Nat.reduceAdd]
 ·exact no (.inr (.inl k3))
 refine Ev.is (hX _) ?_
 try simp -implicitDefEqProofs only[sS,Nat.reduceAdd]
 refine Ev.eql (λk4=>?_) (λk4=>?_)<;>try simp -implicitDefEqProofs only[sS,Nat.reduceAdd]
 ·exact no (.inr (.inr k4))
 have el:ji m node slot shut=(let e:=Y.db m (.mk [0])
   let a:=Y.db e.2 (.mk (Y.fG (node+2) slot w (Y.fm 1 e.1)))
   if ¬e.1>0∨¬a.1>0 then(0,a.2) else
   let c:=(Y.db a.2 (.cs slot w (Y.fm 5 a.1))).2
   (a.1,if shut=true∧node≠1 then c.set (node+2) 1 else c)):=by unfold ji;rw[←ew,if_neg (by omega)]
 obtain⟨d,pq,tn⟩:=so.ty;have aea:1≤node∧node≤65536:=i.Ra tn;have wn:IntKind.i64.wrap (node+2)=node+2:=ga (by omega)
 have z8:JM (λH' o'=>Fr H3 o3 H' o' [-70, -71]) mp m H3:=h3.jm
 have box: ∀{Hx:aa} {mx:Y.Mm},JM (λH' o'=>Fr H3 o3 H' o' [-70, -71]) mp mx Hx→aq (pv H1.length) Hx=some (cv node)∧aq (.pointer (some ⟨H1.length,1,none⟩)) Hx=some (cv slot):=λhj=>by
  obtain⟨_,ox,_,fx⟩:=hj;have:=c3.fr fx (by simp)
  exact⟨an _ 0 _ this.1,an _ 1 _ this.1⟩
 refine Ev.call nK ?_;intro w0 H4 Tf;refine Ev.call (lD z8 Tf) ?_;rintro v H5 ⟨rfl,lG⟩;obtain⟨b0,b1⟩:=box lG;obtain⟨e,ee⟩: ∃e,e=Y.db m (.mk [0]):=⟨_,rfl⟩;rw[←ee] at lG el ⊢;simp -implicitDefEqProofs only[b0,b1,wn,Nat.add_zero,sS,Nat.reduceAdd];refine Ev.is (n5 1 _) ?_
 try simp -implicitDefEqProofs only[sS,Nat.reduceAdd]
 refine Ev.call (FD _ _ _ _) ?_;intro w1 H6 BU;refine Ev.call (lD lG BU) ?_;rintro v H7 ⟨rfl,Dg⟩;obtain⟨a,ea⟩: ∃a,a=Y.db e.2 (.mk (Y.fG (node+2) slot w (Y.fm 1 e.1))):=⟨_,rfl⟩;simp only at el;rw[←ea] at Dg el ⊢;obtain⟨d0,d1⟩:=box Dg;simp -implicitDefEqProofs only[b0,b1,d0,d1,lW,Nat.add_zero,sS,Nat.reduceAdd];have toY: ∀{Hx:aa} {mx:Y.Mm},JM (λH' o'=>Fr H3 o3 H' o' [-70, -71]) mp mx Hx→∃ox,Fr H3 o3 Hx ox [-70, -71]∧YR Hx ox yp xp pp mp m mx cr th L:=λhj=>by
  obtain⟨_,ox,hm,fx⟩:=hj;exact⟨ox,fx,h3.adT fx hm⟩
 have e1l:m.cs.length≤e.2.cs.length∧e.2.max=m.max:=by rw[ee];exact wq _ _
 have a1l:e.2.cs.length≤a.2.cs.length∧a.2.max=e.2.max:=by rw[ea];exact wq _ _
 have fol: ∀{Hx:aa} {mx:Y.Mm},JM (λH' o'=>Fr H3 o3 H' o' [-70, -71]) mp mx Hx→m.cs.length≤mx.cs.length→mx.max=m.max→aF (run G) 37 [pv yp] Hx λv H'=>∃o' eS,Fr H o H' o' yt∧YR H' o' yp xp pp mp mx mx eS th L:=λhj h1 h2=>by
  obtain⟨ox,fx,hy⟩:=toY hj;refine(FC hy h1 h2.symm).mono ?_;rintro v H' ⟨o',eS,f',h'⟩;exact⟨o',eS,(f03.trans fx (rs:=yt) (by simp) (by simp)).trans f' (λ_ h=>h) (by simp),h'⟩
 have fail:(¬e.1>0∨¬a.1>0)→Ev (λk=>af (run G k 37 [pv yp] H7) λ_ H=>some (cv 0,H)) λr=>∃o' node slot q eS,Fr H o r.2 o' yt∧Y.aQ Ga slot node q∧Ga.nz slot∧r.1=cv (ji m node slot shut).1∧YR r.2 o' yp xp pp mp (ji m node slot shut).2 (ji m node slot shut).2 eS th L:=λhk=>by
  rw[if_pos hk] at el;refine Ev.call (fol Dg (by omega) (by omega)) ?_
  rintro v H8 ⟨o8,adV,f8,h8⟩;exact Ev.ret ⟨o8,node,slot,q,adV,f8,so,hz,by rw[el],by rw[el];exact h8⟩
 by_cases he:e.1>0
 rotate_left
 ·simp -implicitDefEqProofs only[decide_eq_false he,sS,Nat.reduceAdd];exact fail (.inl he)
 by_cases ha:a.1>0
 rotate_left
 ·simp -implicitDefEqProofs only[decide_eq_true he,decide_eq_false ha,sS,Nat.reduceAdd];exact fail (.inr ha)
 rw[if_neg (by omega)] at el
 simp -implicitDefEqProofs only[decide_eq_true he,decide_eq_true ha,d1,sS,Nat.reduceAdd];refine Ev.is (n5 5 _) ?_
 try simp -implicitDefEqProofs only[sS,Nat.reduceAdd]
 refine Ev.call (Qm Dg _ _ _) ?_;rintro v H8 ⟨_,Vi⟩;obtain⟨c,ec⟩: ∃c,c=Y.db a.2 (.cs slot w (Y.fm 5 a.1)):=⟨_,rfl⟩;rw[←ec] at Vi el;have c1l:a.2.cs.length≤c.2.cs.length∧c.2.max=a.2.max:=by rw[ec];exact wq _ _
 obtain⟨b0',b1'⟩:=box Vi;have J0: ∀{Hx:aa} {mx:Y.Mm} (x6 x7 x8 x9 cC aC aO aI fI sU:Value),JM (λH' o'=>Fr H3 o3 H' o' [-70, -71]) mp mx Hx→m.cs.length≤mx.cs.length→mx.max=m.max→ji m node slot shut=(a.1,mx)→Ev (λk=>CX (run G k) k [pv yp,cv n,.bool shut,x6,x7,x8,x9,cC,aC,aO,aI,fI,cv a.1,sU] Hx) λr=>∃o' node slot q eS,Fr H o r.2 o' yt∧Y.aQ Ga slot node q∧Ga.nz slot∧r.1=cv (ji m node slot shut).1∧YR r.2 o' yp xp pp mp (ji m node slot shut).2 (ji m node slot shut).2 eS th L:=by
  intro Hx mx x6 x7 x8 x9 cC aC aO aI fI sU hj h1 h2 e1;simp -implicitDefEqProofs only[Pq,CW,sS,Nat.reduceAdd];refine Ev.call (fol hj h1 h2) ?_;rintro v H9 ⟨o9,adW,f9,h9⟩
  try simp -implicitDefEqProofs only[sS,Nat.reduceAdd]
  exact Ev.ret ⟨o9,node,slot,q,adW,f9,so,hz,by rw[e1],by rw[e1];exact h9⟩
 cases shut<;>simp -implicitDefEqProofs only[d1,b0',lW,Nat.add_zero,sS,Nat.reduceAdd]
 ·rw[if_neg (by simp)] at el
  exact J0 _ _ _ _ _ _ _ _ _ _ Vi (by omega) (by omega) el
 refine Ev.neq (λhq=>?_) (λhq=>?_)<;>try simp -implicitDefEqProofs only[b0',wn,Nat.add_zero,sS,Nat.reduceAdd]
 ·rw[if_pos ⟨rfl,hq⟩] at el;refine Ev.call (zC Vi (node+2) 1) ?_;intro v H9 hj9;exact J0 _ _ _ _ _ _ _ _ _ _ hj9 (by rw[Y.wa];omega) (by rw[Y.JD];omega) el
 ·rw[if_neg (by rintro⟨_,h⟩;exact h hq)] at el
  exact J0 _ _ _ _ _ _ _ _ _ _ Vi (by omega) (by omega) el
end
section
open Go.Proofs.YtgfgglponbmgmaaGreatA
variable {G:ae} {H H' H0:aa} {b o o':aj} {p c pp mp xp yp fp i:Nat} {x:Value} {m m' mP:Y.Mm} {cr:Int} {tag:Int} {cs:List Value}
def pX (H0:aa)(b:aj)(fp:Nat)(tag:Int)(pp:Nat)(cs:List Value)(m:Y.Mm)(cr:Int)(H:aa):Prop:=
 tag< -95∧∃(o:aj) (ty:TypeId),zH H o pp m cr∧H.get fp=some ⟨cs,ty,1,false⟩∧o fp=tag∧Fr H0 b H o [-90, -91,tag]
theorem pX.ld (h:pX H0 b fp tag pp cs m cr H): ∀k,aq (.pointer (some ⟨fp,k,none⟩)) H=cs[k]? :=λk=>by
 obtain⟨_,o,ty,_,g,_⟩:=h;exact an fp k H g
theorem pX.ld0 (h:pX H0 b fp tag pp cs m cr H):aq (pv fp) H=cs[0]? :=h.ld 0
theorem pX.st (h:pX H0 b fp tag pp cs m cr H){k:Nat}(hk:k<cs.length){v:Value}(h1:v.cells= #[v])(h2:known v=true)(h3:aD v=true): ∃H',bE 1 (.pointer (some ⟨fp,k,none⟩)) v H=some (undef,H')∧pX H0 b fp tag pp (cs.set k v) m cr H':=by
 obtain⟨ht,o,ty,hm,g,ho,f⟩:=h;have f1:Fr H o (H.put fp ⟨cs.set k v,ty,1,false⟩) o [tag]:=(Fr.refl _ _ _).put λ_=>by simp[ho]
 exact⟨_,sA fp k v H g rfl hk h1 h2 h3,ht,o,ty,hm.fr f1 (by simp;omega) (by simp;omega),aG g,ho,f.trans f1 (λ_ h=>h) (by simp)⟩
theorem pX.jp (h:pX H0 b fp tag pp cs m cr H):JP (λH' o'=>∃ty,H'.get fp=some ⟨cs,ty,1,false⟩∧o' fp=tag∧Fr H0 b H' o' [-90, -91,tag]) pp m cr H:=by
 obtain⟨ht,o,ty,hm,g,ho,f⟩:=h;exact⟨λH o H' o' ⟨ty,a1,a2,a3⟩ f=>⟨ty,by rw[f.same fp (ar a1) (by rw[a2];simp;omega)];exact a1,by rw[f.own fp (ar a1)];exact a2,a3.trans f (λ_ h=>h) (by simp)⟩,o,hm,ty,g,ho,f⟩
theorem pX.of {m':Y.Mm}{eS:Int}(h:pX H0 b fp tag pp cs m cr H)(k:JP (λH' o'=>∃ty,H'.get fp=some ⟨cs,ty,1,false⟩∧o' fp=tag∧Fr H0 b H' o' [-90, -91,tag]) pp m' eS H'):pX H0 b fp tag pp cs m' eS H':=by
 obtain⟨_,o,hm,ty,g,ho,f⟩:=k;exact⟨h.1,o,ty,hm,g,ho,f⟩
section
variable {α:Type} {kk:Nat→Value→aa→Option α} {Q:α→Prop} {k:Nat} {v:Int}
theorem Ev.VC (h:pX H0 b fp tag pp cs m cr H)(hl:k<cs.length)(hk: ∀H',pX H0 b fp tag pp (cs.set k (cv v)) m cr H'→Ev (λn=>kk n undef H') Q):Ev (λn=>af (bE 1 (.pointer (some ⟨fp,k,none⟩)) (cv v) H) (kk n)) Q:=by
 obtain⟨H',e,h'⟩:=h.st hl (v:=cv v) rfl rfl rfl;rw[e];exact hk H' h'
theorem Ev.adX (h:pX H0 b fp tag pp cs m cr H)(hl:0<cs.length)(hk: ∀H',pX H0 b fp tag pp (cs.set 0 (cv v)) m cr H'→Ev (λn=>kk n undef H') Q):Ev (λn=>af (bE 1 (pv fp) (cv v) H) (kk n)) Q:=Ev.VC h hl hk
theorem Ev.Z5 {a:Int}(h:pX H0 b fp tag pp cs m cr H)(hk: ∀H',pX H0 b fp tag pp cs m (c1 cr) H'→Ev (λn=>kk n (cv (m.at a)) H') Q):Ev (λn=>af (run G n 67 [pv pp,cv a] H) (kk n)) Q:=
 Ev.call (Uk h.jp a) λv H' hq=>by obtain⟨rfl,hj⟩:=hq;exact hk H' (h.of hj)
theorem Ev.csF {a y z:Int}(h:pX H0 b fp tag pp cs m cr H)(hk: ∀H',pX H0 b fp tag pp cs (Y.db m (.cs a y z)).2 (c1 cr) H'→Ev (λn=>kk n (.bool (decide ((Y.db m (.cs a y z)).1=1))) H') Q):Ev (λn=>af (run G n 66 [pv pp,cv a,cv y,cv z] H) (kk n)) Q:=
 Ev.call (Zr h.jp a y z) λv H' hq=>by obtain⟨rfl,hj⟩:=hq;exact hk H' (h.of hj)
end
end
section
open Go.Proofs.YtgfgglponbmgmaaGreatA
variable {m m':Y.Mm} {th ir:jz} {Ga G':Y.Ga} {slot node:Int} {q:List Nat}
theorem TG.own {t:Nat}(h:TG Ga th m)(i:Y.bs G' m')(w:Y.Own t Ga G')(ht:3≤t):TG G' th m':=
 ⟨i,h.root.mono w.le,λj hj hb=>(h.safe j hj hb).mono (w.let' (by omega))⟩
structure Laid (G':Y.Ga) (m m':Y.Mm) (slot node:Int) (q:List Nat) (a:Int):Prop where
 so:Y.aQ G' slot node q
 nz:G'.nz slot
 ty: ∃x,(Y.kd x=1∧x≠m.at slot)∧G'.ty a=some (.eD slot (m.at slot) x 3)
 inst:G'.inst a
 out:m'.at (a+4)=0
 fit:Y.di G' q (m.at slot)
theorem Nr (h:TG Ga th m)(so:Y.aQ Ga slot node q)(hz:Ga.nz slot)(shut:Bool): ∃G',TG G' th (ji m node slot shut).2∧Y.Own 3 Ga G'∧((ji m node slot shut).1≠0→Laid G' m (ji m node slot shut).2 slot node q (ji m node slot shut).1):=by
 obtain⟨w,ew⟩: ∃w,w=m.at slot:=⟨_,rfl⟩;by_cases hk:Y.kd w=5∨Y.kd w=3∨Y.kd w=4
 ·have e:ji m node slot shut=(0,m):=by unfold ji;rw[←ew,if_pos hk]
  rw[e];exact⟨Ga,h,Y.Own.refl _ _,λh=>absurd rfl h⟩
 have i:=h.inv;have fw:Y.di Ga q w:=by
  have:=i.slot so
  rw[←ew] at this;rcases this with⟨_,a⟩|⟨_,a|⟨a,_⟩⟩
  ·exact absurd hz a
  ·exact a
  ·omega
 have aet:=i.top;have vn:=so.in' i;obtain⟨d,qq,tn⟩:=so.ty;have el:ji m node slot shut=(let e:=Y.db m (.mk [0])
   let a:=Y.db e.2 (.mk (Y.fG (node+2) slot w (Y.fm 1 e.1)))
   if ¬e.1>0∨¬a.1>0 then(0,a.2) else
   let c:=(Y.db a.2 (.cs slot w (Y.fm 5 a.1))).2
   (a.1,if shut=true∧node≠1 then c.set (node+2) 1 else c)):=by unfold ji;rw[←ew,if_neg hk]
 by_cases hr:m.cs.length+1>m.max
 ·have e1:Y.db m (.mk [0])=(0,m):=by simp only[Y.db];rw[if_pos (.inr (by simp;omega))]
  have e2:Y.db m (.mk (Y.fG (node+2) slot w (Y.fm 1 0)))=(0,m):=by simp only[Y.db];rw[if_pos (.inr (by simp[Y.fG];omega))]
  have e:ji m node slot shut=(0,m):=by rw[el];simp only[e1,e2];rw[if_pos (.inl (by simp))]
  rw[e];exact⟨Ga,h,Y.Own.refl _ _,λh=>absurd rfl h⟩
 have e1:Y.db m (.mk [0])=((m.cs.length:Int)+1,⟨m.cs++[0],m.max⟩):=by simp only[Y.db];rw[if_neg (by rintro(a|a)<;>simp at a;omega)]
 have i1:=i.make (r:=.empty) (ws:=[0]) rfl (by simp;omega)
 obtain⟨G1,eG1⟩: ∃G1,G1=Ga.make (m.cs.length+1) .empty [0]:=⟨_,rfl⟩;rw[←eG1] at i1;have g1:Ga.le G1:=by rw[eG1];exact Y.Ga.nF i.Fg
 have n1: ∀e,G1.inst e→Ga.inst e:=λe k=>by rw[eG1] at k;exact k
 obtain⟨x,ex⟩: ∃x,x=Y.fm 1 ((m.cs.length:Int)+1):=⟨_,rfl⟩;have kx:Y.kd x=1:=by rw[ex];exact Y.iE (by omega) (by omega)
 have nx:x≠w:=λe=>by
  obtain⟨_,r,tr⟩:=fw.1;have:=(i.room _ _ tr).2
  rw[←e,ex,Y.jb (by omega) (by omega)] at this
  cases r<;>simp[Y.Rec.size] at this<;>omega
 obtain⟨m1,em1⟩: ∃m1,m1=Y.Mm.mk (m.cs++[0]) m.max:=⟨_,rfl⟩;have l1:m1.cs.length=m.cs.length+1:=by rw[em1];simp
 have x1:m1.max=m.max:=by rw[em1]
 rw[←em1] at i1 e1;by_cases sT:m1.cs.length+5>m1.max
 ·have e2:Y.db m1 (.mk (Y.fG (node+2) slot w x))=(0,m1):=by simp only[Y.db];rw[if_pos (.inr (by simp[Y.fG];omega))]
  have e:ji m node slot shut=(0,m1):=by rw[el];simp only[e1, ←ex,e2];rw[if_pos (.inr (by simp))]
  rw[e];exact⟨G1,h.own i1 (Y.Own.of (t:=3) g1 n1) (by omega),Y.Own.of g1 n1,λh=>absurd rfl h⟩
 have e2:Y.db m1 (.mk (Y.fG (node+2) slot w x))=((m1.cs.length:Int)+1,⟨m1.cs++Y.fG (node+2) slot w x,m1.max⟩):=by
  simp only[Y.db];rw[if_neg (by rintro(a|a)<;>simp[Y.fG] at a;omega)]
 have U8:=so.mono g1;have fw1:=fw.mono g1;have i2:=i1.make (r:=.eD slot w x 3) (ws:=Y.fG (node+2) slot w x) ⟨node,q,U8,fw1,⟨by rw[ex];exact Y.n6.fm (r:=.empty) (by omega) (by omega) (by rw[eG1];simp[Y.Ga.make]),.inl kx⟩,rfl⟩ (by simp[Y.fG];omega)
 obtain⟨a,ea⟩: ∃a:Int,a=(m1.cs.length:Int)+1:=⟨_,rfl⟩;obtain⟨G2,eG2⟩: ∃G2,G2=G1.make (m1.cs.length+1) (.eD slot w x 3) (Y.fG (node+2) slot w x):=⟨_,rfl⟩;rw[←eG2] at i2;have g2:G1.le G2:=by rw[eG2];exact Y.Ga.nF i1.Fg
 have n2: ∀e,G2.inst e→G1.inst e:=λe k=>by rw[eG2] at k;exact k
 have ta:G2.ty a=some (.eD slot w x 3):=by rw[eG2,ea];simp[Y.Ga.make]
 obtain⟨m2,em2⟩: ∃m2,m2=Y.Mm.mk (m1.cs++Y.fG (node+2) slot w x) m1.max:=⟨_,rfl⟩;rw[←em2, ←ea] at e2;rw[←em2] at i2;have l2:m2.cs.length=m1.cs.length+5:=by rw[em2];simp[Y.fG]
 have w1:m1.at slot=w:=by rw[em1,Y.Hf (by omega),ew]
 have w2:m2.at slot=w:=by
  have e:(Y.Mm.mk m1.cs m1.max).at slot=m1.at slot:=rfl;rw[em2,Y.Hf (by omega),e,w1]
 have o2:m2.at (a+4)=0:=by
  have h4:=Y.PQ (cs:=m1.cs) (w:=Y.fG (node+2) slot w x) (mx:=m1.max) (j:=4) (by simp[Y.fG])
  rw[em2,ea];exact h4
 have hi: ¬G2.inst a:=λk=>by
  obtain⟨s,old,new,b,t⟩:=i.inst _ (n1 _ (n2 _ k));have:=i.room _ _ t
  simp[Y.Rec.size] at this;omega
 have ec:(Y.db m2 (.cs slot w (Y.fm 5 a))).2=m2.set slot (Y.fm 5 a):=by
  simp only[Y.db];rw[if_pos ⟨by unfold Y.Mm.used;omega,w2⟩]
 have i3:=i2.inst1 ta w2 hi;have e:ji m node slot shut=(a,if shut=true∧node≠1 then(m2.set slot (Y.fm 5 a)).set (node+2) 1 else m2.set slot (Y.fm 5 a)):=by
  rw[el];simp only[e1, ←ex,e2];rw[if_neg (by omega),ec]
 have ZA:Y.Own 3 Ga (G2.install a):=⟨(g1.trans g2).trans (Y.Ga.hY _ _),λe s old new u hu t k=>by
  rcases k with k|rfl
  ·exact n1 _ (n2 _ k)
  ·have:=i.room _ _ t
   simp[Y.Rec.size] at this;omega⟩
 have so3:=(U8.mono g2).mono (Y.Ga.hY G2 a);have laid: ∀{G4:Y.Ga} {m4:Y.Mm},(G2.install a).le G4→m4.at (a+4)=0→Laid G4 m m4 slot node q a:=λ{G4 m4} g4 ho=>by
  refine⟨so3.mono g4,g4.nz _ ((Y.Ga.hY G2 a).nz _ (g2.nz _ (g1.nz _ hz))),⟨x,⟨kx,by rw[←ew];exact nx⟩,?_⟩,g4.inst _ (.inr rfl),ho,?_⟩
  ·rw[←ew];exact g4.ty _ _ ((Y.Ga.hY G2 a).ty _ _ ta)
  ·rw[←ew];exact((fw1.mono g2).mono (Y.Ga.hY G2 a)).mono g4
 have o3:(m2.set slot (Y.fm 5 a)).at (a+4)=0:=by rw[Y.aH (by omega)];exact o2
 rw[e];by_cases hs:shut=true∧node≠1
 ·rw[if_pos hs];have tn3:(G2.install a).ty node=some (.inner d qq):=(Y.Ga.hY G2 a).ty _ _ (g2.ty _ _ (g1.ty _ _ tn));have i4:=i3.guard tn3;have g4:=Y.Ga.we (G2.install a) node;have acf:Y.Own 3 Ga ((G2.install a).Db node):=ZA.trans (Y.Own.of g4 λ_ k=>k)
  refine⟨_,h.own i4 acf (by omega),acf,λ_=>laid g4 ?_⟩
  have:=i.room _ _ tn
  simp[Y.Rec.size] at this;rw[Y.aH (by omega)];exact o3
 ·rw[if_neg hs];exact⟨_,h.own i3 ZA (by omega),ZA,λ_=>laid (Y.Ga.le.refl _) o3⟩
end
section
variable {H:aa} {P:Program} {e t:TypeId} {f:Nat}
theorem mh.acg (ht:P.underlying t=some (.slice e))(he:P.underlying e=some (.int .i64))(hc:P.cellsOf e=1){v:Value}(h:mh P H (f+2) t v):
  ∃l,sP H v l∧dH H o0 (-1) v l∧l.length≤maxLen:=by
 obtain⟨l,h1,_,h3⟩:=h.ints ht he hc;refine⟨l,⟨h1.1,λa n c ev=>?_⟩,h1,h3⟩
 obtain⟨a',c',e'⟩:=h1.1.isSlice;rcases In.slice ht (h.one (by simp[ht])) with k|⟨i,es,k,_⟩
 ·cases k;cases ev;injection e' with _ e2 _;omega
 ·cases k;cases ev;injection e' with _ e2 _;omega
theorem adY (k:FuncId)(hk:kk.contains k=true)(H:aa):aF (run KG) k [] H (Is H (.bool true)):=by
 refine aF.is (λn=>?_) ⟨rfl,rfl⟩
 have hb:(ks++ov Tryz.prog).contains k=true:=by
  simp only[List.contains_eq_mem,decide_eq_true_eq,List.mem_append] at hk ⊢;exact .inl hk
 unfold run;simp only[gC,hb,if_true];show(if kk.contains k=true∧([]:List Value).isEmpty=true then some (Value.bool true,H) else none)=_
 rw[if_pos ⟨hk,rfl⟩]
end
section
open Go.Proofs.YtgfgglponbmgmaaGreatA
variable {G:ae} {H H' H0:aa} {b o o':aj} {p c pp mp xp yp fp gp i:Nat} {x:Value} {m m' mP:Y.Mm} {cr eS:Int} {tag:Int} {cs:List Value} {th:jz} {L:List kq} {N M:Nat} {T:List Int} {Ga:Y.Ga}
def PF (H:aa)(o:aj)(fp:Nat)(tag:Int)(cs:List Value):Prop:=∃ty,H.get fp=some ⟨cs,ty,1,false⟩∧o fp=tag
theorem PF.fr {ps:List Int}(h:PF H o fp tag cs)(f:Fr H o H' o' ps)(hp:tag ∉ ps):PF H' o' fp tag cs:=by
 obtain⟨ty,g,ho⟩:=h;exact⟨ty,by rw[f.same fp (ar g) (by rw[ho];exact hp)];exact g,by rw[f.own fp (ar g)];exact ho⟩
theorem PF.new (t:TypeId):PF (H.new ⟨cs,t,1,false⟩) (o.up H.length tag) H.length tag cs:=⟨t,aL,aP⟩
def jX (tag:Int):Bool:=decide (tag< -95)&& !(yt.contains tag)&&decide (-230<tag∨tag< -290)
theorem wu (h:jX tag=true):tag< -95∧∀z∈(-41:Int)::yt,z≠tag:=by
 simp only[jX,Bool.and_eq_true,decide_eq_true_eq,Bool.not_eq_true',List.contains_eq_mem,decide_eq_false_iff_not] at h;refine⟨h.1.1,λz hz e=>?_⟩
 subst e;rcases List.mem_cons.1 hz with e|hz
 ·omega
 ·exact h.1.2 hz
theorem pX.start (hy:YR H o yp xp pp mp mP m cr th L)(hf:PF H o fp tag cs)(ht:tag< -95):pX H o fp tag pp cs mP cr H:=by
 obtain⟨ty,g,ho⟩:=hf;exact⟨ht,o,ty,hy.2.2.2,g,ho,Fr.refl _ _ _⟩
theorem pX.back (h:pX H0 b fp tag pp cs m cr H): ∃o,zH H o pp m cr∧PF H o fp tag cs∧Fr H0 b H o [-90, -91,tag]:=by
 obtain⟨_,o,ty,hm,g,ho,f⟩:=h;exact⟨o,hm,⟨ty,g,ho⟩,f⟩
theorem YR.adZ (h:YR H o yp xp pp mp mP m cr th L)(f:Fr H o H' o' [-90, -91,tag])(ht:jX tag=true)(hm:zH H' o' pp m' eS):YR H' o' yp xp pp mp m' m eS th L:=by
 obtain⟨⟨ty,g⟩,ho,hw,hp⟩:=h;obtain⟨h1,h2⟩:=wu ht;refine⟨⟨ty,by rw[f.same yp (ar g) (by rw[ho];simp;omega)];exact g⟩,by rw[f.own yp (ar g)];exact ho,hw.uL f λz hz hh=>?_,hm⟩
 simp only[List.mem_cons,List.not_mem_nil,or_false] at hz;rcases hz with rfl|rfl|rfl
 ·simp at hh
 ·simp at hh
 ·exact h2 z (by
   rcases List.mem_cons.1 hh with rfl|hh
   ·simp
   ·exact List.mem_cons_of_mem _ (List.mem_cons_of_mem _ (List.mem_cons_of_mem _ (List.mem_cons_of_mem _ hh)))) rfl
theorem YR.ad0 (h:YR H o yp xp pp mp mP m cr th L){tf tg:Int}(f:Fr H o H' o' [tf,tg, -70, -71])(h1:jX tf=true)(h2:jX tg=true)(hm:lP H' o' mp m'):YR H' o' yp xp pp mp mP m' cr th L:=by
 obtain⟨⟨ty,g⟩,ho,hw,hp⟩:=h;obtain⟨a1,a2⟩:=wu h1;obtain⟨b1,b2⟩:=wu h2;have f9: ∀z∈(-41:Int)::yt,z≠ -70→z≠ -71→z ∉ [tf,tg, -70, -71]:=λz hz n1 n2 hh=>by
  simp only[List.mem_cons,List.not_mem_nil,or_false] at hh;rcases hh with e|e|e|e
  ·exact a2 z hz e
  ·exact b2 z hz e
  ·exact n1 e
  ·exact n2 e
 refine⟨⟨ty,by rw[f.same yp (ar g) (by rw[ho];exact f9 _ (by simp) (by omega) (by omega))];exact g⟩,by rw[f.own yp (ar g)];exact ho,?_,hp.fr f (f9 _ (by simp) (by omega) (by omega)) (f9 _ (by simp) (by omega) (by omega))⟩
 obtain⟨c0,c1,c2,inv,dI,tb,cap,Lx,rest,ty,mV,g,ho,gt,kW,_,mT,hL⟩:=hw;refine⟨c0,c1,c2,inv,dI,tb,cap,Lx,rest,ty,mV,?_,?_,?_,?_,hm,λj hj=>?_,hL.fr f (f9 _ (by simp) (by omega) (by omega)) (f9 _ (by simp) (by omega) (by omega))⟩
 ·rw[f.same xp (ar g) (by rw[ho];exact f9 _ (by simp) (by omega) (by omega))];exact g
 ·rw[f.own xp (ar g)];exact ho
 ·rw[f.same tb (ar gt) (by rw[kW];exact f9 _ (by simp) (by omega) (by omega))];exact gt
 ·rw[f.own tb (ar gt)];exact kW
 ·have:j=0∨j=1∨j=2:=by omega
  rcases this with rfl|rfl|rfl
  ·exact(mT 0 hj).fr f (f9 _ (by simp) (by omega) (by omega)) (f9 _ (by simp) (by omega) (by omega)) (f9 _ (by simp) (by omega) (by omega)) (f9 _ (by simp) (by omega) (by omega))
  ·exact(mT 1 hj).fr f (f9 _ (by simp) (by omega) (by omega)) (f9 _ (by simp) (by omega) (by omega)) (f9 _ (by simp) (by omega) (by omega)) (f9 _ (by simp) (by omega) (by omega))
  ·exact(mT 2 hj).fr f (f9 _ (by simp) (by omega) (by omega)) (f9 _ (by simp) (by omega) (by omega)) (f9 _ (by simp) (by omega) (by omega)) (f9 _ (by simp) (by omega) (by omega))
end
section
open Go.Proofs.YtgfgglponbmgmaaGreatA
variable {G:ae} {H H' H0:aa} {b o o':aj} {p c pp mp xp yp fp gp i:Nat} {x:Value} {m m' mP:Y.Mm} {cr eS:Int} {tag:Int} {cs:List Value} {th:jz} {L:List kq} {N M:Nat} {T:List Int} {Ga:Y.Ga}
structure Dx where
 next:Int
 cI:Int
 guard:Int
 out:Int
 place:Int
 word:Int
abbrev HK (s:Dx):List Value:=[cv s.next,cv s.cI,cv s.guard,cv s.out,cv s.place,cv s.word]
def bP (s:Dx)(m:Y.Mm):Dx×Y.Mm:=
 if s.next=0 then({s with next:=1,guard:=m.at s.cI},m) else
 if s.next=1 then({s with next:=2,out:=if m.at s.guard≠0 then 2 else 1},m) else
 if s.next=2 then({s with next:=3},(Y.db m (.cs (s.cI+4) 0 s.out)).2) else
 if s.next=3 then({s with next:=4,out:=m.at (s.cI+4)},m) else
 if s.next=4 then({s with next:=5,place:=m.at (s.cI+1)},m) else
 if s.next=5 then({s with next:=6,word:=if s.out=1 then m.at (s.cI+3) else m.at (s.cI+2)},m) else
 if s.next=6 then({s with next:=7},(Y.db m (.cs s.place (Y.fm 5 s.cI) s.word)).2) else
 (s,m)
def zI (s:Dx):Prop:=0≤s.next∧s.next≤7∧ -9223372036854775808≤s.cI∧s.cI≤65536
theorem zJ {s:Dx}(h:zI s):s.next=0∨s.next=1∨s.next=2∨s.next=3∨s.next=4∨s.next=5∨s.next=6∨s.next=7:=by
 obtain⟨h1,h2,_⟩:=h;omega
theorem pJ {s:Dx}(h:zI s)(m:Y.Mm):zI (bP s m).1∧(bP s m).1.cI=s.cI∧(s.next≠7→(bP s m).1.next=s.next+1)∧(s.next=7→bP s m=(s,m)):=by
 obtain⟨h1,h2,h3,h4⟩:=id h;rcases zJ h with e|e|e|e|e|e|e|e<;>simp[bP,e,zI,h3,h4]
def t6 (a p v:Int):Y.Tr eE:=.ask (.cs p (Y.fm 5 a) v) λ_=>.ret fV
def t5 (a o p:Int):Y.Tr eE:=.ask (.rd (if o=1 then a+3 else a+2)) λv=>t6 a p v
def t4 (a o:Int):Y.Tr eE:=.ask (.rd (a+1)) λp=>t5 a o p
def t3 (a:Int):Y.Tr eE:=.ask (.rd (a+4)) λo=>t4 a o
def t2 (a out:Int):Y.Tr eE:=.ask (.cs (a+4) 0 out) λ_=>t3 a
def t1 (a g:Int):Y.Tr eE:=.ask (.rd g) λz=>t2 a (if z≠0 then 2 else 1)
def t0 (a:Int):Y.Tr eE:=.ask (.rd a) λp=>t1 a p
theorem QW (a:Int):nT a=t0 a:=by
 unfold nT Y.uH t0 t1 t2 t3 t4 t5 t6;simp only[Y.PE,Y.PD,Y.bind_pure];refine congrArg _ (funext λp=>congrArg _ (funext λz=>congrArg _ (funext λ_=>congrArg _ (funext λo=>congrArg _ (funext λs=>?_)))))
 split<;>rfl
def sR (s:Dx):Y.Tr eE:=
 if s.next=0 then t0 s.cI else
 if s.next=1 then t1 s.cI s.guard else
 if s.next=2 then t2 s.cI s.out else
 if s.next=3 then t3 s.cI else
 if s.next=4 then t4 s.cI s.out else
 if s.next=5 then t5 s.cI s.out s.place else
 if s.next=6 then t6 s.cI s.place s.word else .ret fV
theorem J9 {s:Dx}(h:zI s)(h7:s.next≠7)(m:Y.Mm): ∃q k,sR s= .ask q k∧(bP s m).2=(Y.db m q).2∧k (Y.db m q).1=sR (bP s m).1:=by
 rcases zJ h with e|e|e|e|e|e|e|e
 ·exact⟨_,_,by simp[sR,e,t0];exact⟨rfl,rfl⟩,by simp[bP,e,Y.db],by simp[bP,e,sR,Y.db]⟩
 ·exact⟨_,_,by simp[sR,e,t1];exact⟨rfl,rfl⟩,by simp[bP,e,Y.db],by simp[bP,e,sR,Y.db];congr⟩
 ·exact⟨_,_,by simp[sR,e,t2];exact⟨rfl,rfl⟩,by simp[bP,e],by simp[bP,e,sR]⟩
 ·exact⟨_,_,by simp[sR,e,t3];exact⟨rfl,rfl⟩,by simp[bP,e,Y.db],by simp[bP,e,sR,Y.db]⟩
 ·exact⟨_,_,by simp[sR,e,t4];exact⟨rfl,rfl⟩,by simp[bP,e,Y.db],by simp[bP,e,sR,Y.db]⟩
 ·exact⟨_,_,by simp[sR,e,t5];exact⟨rfl,rfl⟩,by simp[bP,e,Y.db],by simp[bP,e,sR,Y.db];split<;>rfl⟩
 ·exact⟨_,_,by simp[sR,e,t6];exact⟨rfl,rfl⟩,by simp[bP,e],by simp[bP,e,sR]⟩
 ·exact absurd e h7
theorem VD {s:Dx}(h:s.next=7):sR s= .ret fV:=by simp[sR,h]
theorem QX (s:Dx):Y.norm (sR s)=sR s:=by
 unfold sR;repeat' split
 all_goals rfl
theorem zK {s:Dx}(h:pX H0 b fp tag pp (HK s) m cr H):aF (run G) 21 [pv fp] H (Is H (.bool (decide (s.next=7)))):=by
 refine Ev.up (t:=λn=>F21 (run G n) n (pv fp) H) ?_ λn=>Wx ..
 have L:=h.ld0;simp -implicitDefEqProofs only[F21,Nat.add_zero,L,sS,Nat.reduceAdd];simp -implicitDefEqProofs only[C0,sS,Nat.reduceAdd];exact Ev.ret ⟨rfl,rfl⟩
theorem QY {s:Dx}(h:pX H0 b fp tag pp (HK s) m cr H)(hi:zI s):aF (run G) 19 [pv fp,pv pp] H λv H'=>v= .bool (decide ((bP s m).1.next=7))∧∃eS,pX H0 b fp tag pp (HK (bP s m).1) (bP s m).2 eS H':=by
 refine Ev.up (t:=λn=>F19 (run G n) n (pv fp) (pv pp) H) ?_ λn=>Xl ..
 have hc:=zJ hi;obtain⟨n0,n7,b1,b2⟩:=id hi;have L:=h.ld;have L0:=h.ld0;have w: ∀{j:Int},0≤j∧j≤8→IntKind.i64.wrap (s.cI+j)=s.cI+j:=λhj=>ga (by omega)
 have w0:=w (j:=0) (by omega)
 have w1:=w (j:=1) (by omega)
 have w2:=w (j:=2) (by omega)
 have w3:=w (j:=3) (by omega)
 have w4:=w (j:=4) (by omega)
 simp only[Int.add_zero] at w0;have J0: ∀{H1:aa} {s1:Dx} {m1:Y.Mm} {cz:Int} (x4 x8 x9 bl bN cm cH gD lE iI pN:Value),pX H0 b fp tag pp (HK s1) m1 cz H1→s1.next=s.next→s.next≠7→bP s m=({s1 with next:=s.next+1},m1)→Ev (λk=>lr (run G k) k [pv fp,pv pp,x4,x8,x9,bl,bN,cm,cH,gD,lE,iI,pN] H1) λr=>r.1= .bool (decide ((bP s m).1.next=7))∧∃eS,pX H0 b fp tag pp (HK (bP s m).1) (bP s m).2 eS r.2:=by
  intro H1 s1 m1 cz x4 x8 x9 bl bN cm cH gD lE iI pN h1 e1 e7 e2;have L1:=h1.ld0;have hw:IntKind.i64.wrap (s1.next+1)=s.next+1:=by rw[e1,ga (by omega)]
  simp -implicitDefEqProofs only[OT,CH,Nat.add_zero,L1,hw,sS,Nat.reduceAdd];refine Ev.adX h1 (by simp) λH2 h2=>?_
  have Ux:pX H0 b fp tag pp (HK {s1 with next:=s.next+1}) m1 cz H2:=h2
  try simp -implicitDefEqProofs only[sS,Nat.reduceAdd]
  refine Ev.is (zK Ux) ?_
  try simp -implicitDefEqProofs only[sS,Nat.reduceAdd]
  rw[e2];exact Ev.ret ⟨rfl,cz,Ux⟩
 simp -implicitDefEqProofs only[F19,Nat.add_zero,L0,sS,Nat.reduceAdd];refine Ev.eql (λq0=>?_) (λq0=>?_)<;>try simp -implicitDefEqProofs only[L,Int.add_zero,w0,sS,Nat.reduceAdd]
 ·refine Ev.Z5 h λH1 h1=>?_
  try simp -implicitDefEqProofs only[sS,Nat.reduceAdd]
  refine Ev.VC h1 (by simp) λH2 h2=>?_
  try simp -implicitDefEqProofs only[sS,Nat.reduceAdd]
  exact J0 _ _ _ _ _ _ _ _ _ _ _ (s1:={s with guard:=m.at s.cI}) h2 rfl (by omega) (by simp[bP,q0])
 refine Ev.eql (λq1=>?_) (λq1=>?_)<;>try simp -implicitDefEqProofs only[L,sS,Nat.reduceAdd]
 ·refine Ev.VC h (by simp) λH1 h1=>?_
  have L1:=h1.ld;simp only[List.set_cons_succ,List.set_cons_zero] at h1 L1;simp -implicitDefEqProofs only[L1,sS,Nat.reduceAdd];refine Ev.Z5 h1 λH2 h2=>?_
  try simp -implicitDefEqProofs only[sS,Nat.reduceAdd]
  refine Ev.neq (λq2=>?_) (λq2=>?_)<;>try simp -implicitDefEqProofs only[sS,Nat.reduceAdd]
  ·refine Ev.VC h2 (by simp) λH3 h3=>?_
   try simp -implicitDefEqProofs only[sS,Nat.reduceAdd]
   exact J0 _ _ _ _ _ _ _ _ _ _ _ (s1:={s with out:=2}) h3 rfl (by omega) (by simp[bP,q1,q2])
  ·exact J0 _ _ _ _ _ _ _ _ _ _ _ (s1:={s with out:=1}) h2 rfl (by omega) (by simp[bP,q1,q2])
 refine Ev.eql (λq2=>?_) (λq2=>?_)<;>try simp -implicitDefEqProofs only[L,w4,sS,Nat.reduceAdd]
 ·refine Ev.csF h λH1 h1=>?_
  try simp -implicitDefEqProofs only[sS,Nat.reduceAdd]
  exact J0 _ _ _ _ _ _ _ _ _ _ _ (s1:=s) h1 rfl (by omega) (by simp[bP,q2])
 refine Ev.eql (λq3=>?_) (λq3=>?_)<;>try simp -implicitDefEqProofs only[L,w4,sS,Nat.reduceAdd]
 ·refine Ev.Z5 h λH1 h1=>?_
  try simp -implicitDefEqProofs only[sS,Nat.reduceAdd]
  refine Ev.VC h1 (by simp) λH2 h2=>?_
  try simp -implicitDefEqProofs only[sS,Nat.reduceAdd]
  exact J0 _ _ _ _ _ _ _ _ _ _ _ (s1:={s with out:=m.at (s.cI+4)}) h2 rfl (by omega) (by simp[bP,q3])
 refine Ev.eql (λq4=>?_) (λq4=>?_)<;>try simp -implicitDefEqProofs only[L,w1,sS,Nat.reduceAdd]
 ·refine Ev.Z5 h λH1 h1=>?_
  try simp -implicitDefEqProofs only[sS,Nat.reduceAdd]
  refine Ev.VC h1 (by simp) λH2 h2=>?_
  try simp -implicitDefEqProofs only[sS,Nat.reduceAdd]
  exact J0 _ _ _ _ _ _ _ _ _ _ _ (s1:={s with place:=m.at (s.cI+1)}) h2 rfl (by omega) (by simp[bP,q4])
 refine Ev.eql (λq5=>?_) (λq5=>?_)<;>try simp -implicitDefEqProofs only[L,sS,Nat.reduceAdd]
 ·refine Ev.eql (λq6=>?_) (λq6=>?_)<;>try simp -implicitDefEqProofs only[L,w3,w2,sS,Nat.reduceAdd]
  ·refine Ev.Z5 h λH1 h1=>?_
   try simp -implicitDefEqProofs only[sS,Nat.reduceAdd]
   refine Ev.VC h1 (by simp) λH2 h2=>?_
   try simp -implicitDefEqProofs only[sS,Nat.reduceAdd]
   exact J0 _ _ _ _ _ _ _ _ _ _ _ (s1:={s with word:=m.at (s.cI+3)}) h2 rfl (by omega) (by simp[bP,q5,q6])
  ·refine Ev.Z5 h λH1 h1=>?_
   try simp -implicitDefEqProofs only[sS,Nat.reduceAdd]
   refine Ev.VC h1 (by simp) λH2 h2=>?_
   try simp -implicitDefEqProofs only[sS,Nat.reduceAdd]
   exact J0 _ _ _ _ _ _ _ _ _ _ _ (s1:={s with word:=m.at (s.cI+2)}) h2 rfl (by omega) (by simp[bP,q5,q6])
 refine Ev.eql (λq6=>?_) (λq6=>?_)<;>try simp -implicitDefEqProofs only[L,sS,Nat.reduceAdd]
 ·refine Ev.is (aca 5 _) ?_
  try simp -implicitDefEqProofs only[L,sS,Nat.reduceAdd]
  refine Ev.csF h λH1 h1=>?_
  have L1:=h1.ld
  try simp -implicitDefEqProofs only[L,L1,lW,sS,Nat.reduceAdd]
  exact J0 _ _ _ _ _ _ _ _ _ _ _ (s1:=s) h1 rfl (by omega) (by simp[bP,q6])
 ·have e7:s.next=7:=by omega
  have es:=(pJ hi m).2.2.2 e7;rw[es];exact Ev.ret ⟨by rw[decide_eq_true e7],cr,h⟩
theorem ad1 (a:Int):aE Tryz.prog 106 [(1,cv a)]=some (.agg (HK ⟨0,a,0,0,0,0⟩).toArray):=by kernel_rfl
theorem ach (a:Int)(H:aa):dL 106 (.agg (HK ⟨0,a,0,0,0,0⟩).toArray) H=some (pv H.length,H.new ⟨HK ⟨0,a,0,0,0,0⟩,106,1,false⟩):=by
 simp[dL,Value.cells,aD,aV]
theorem Ka (a:Int):aF (run G) 16 [cv a] H λv H'=>v=pv H.length∧H'=H.new ⟨HK ⟨0,a,0,0,0,0⟩,106,1,false⟩:=by
 refine Ev.up (t:=λn=>F16 (run G n) n (cv a) H) ?_ λn=>W0 ..
 simp -implicitDefEqProofs only[F16,ad1,ach,sS,Nat.reduceAdd];exact Ev.ret ⟨rfl,rfl⟩
theorem QZ {s:Dx}(h:YR H o yp xp pp mp mP m cr th L)(hf:PF H o fp tag (HK s))(ht:jX tag=true)(hi:zI s):aF (run G) 19 [pv fp,pv pp] H λv H'=>v= .bool (decide ((bP s mP).1.next=7))∧∃o' eS,Fr H o H' o' [-90, -91,tag]∧YR H' o' yp xp pp mp (bP s mP).2 m eS th L∧PF H' o' fp tag (HK (bP s mP).1):=by
 refine(QY (pX.start h hf (wu ht).1) hi).mono ?_;rintro v H' ⟨rfl,eS,hj⟩;obtain⟨o',hm,zX,f⟩:=hj.back;exact⟨rfl,o',eS,f,h.adZ f ht hm,zX⟩
theorem ZB {tf tg:Int}{pr:Pr}{done:Bool}{r0:eE}{rec:Int}(h:YR H o yp xp pp mp mP m cr th L)(hg:hZ H o gp tf tg pr T done r0 rec)(dR:FN pr T done r0 rec)(hT:T.length<1048576)(ht:FT tf tg)(h1:jX tf=true)(h2:jX tg=true):aF (run G) 20 [pv gp,pv mp] H λv H'=>∃o' T' m' d r' kF,v= .bool d∧Fr H o H' o' [tf,tg, -70, -71]∧YR H' o' yp xp pp mp mP m' cr th L∧hZ H' o' gp tf tg pr T' d r' kF∧FN pr T' d r' kF∧qR pr done T m T' m':=by
 refine(JU hg dR h.Dw hT ht).mono ?_;rintro v H' ⟨o',T',m',d,r',kF,rfl,f,hg',MG,Nt,hs⟩;exact⟨o',T',m',d,r',kF,rfl,f,h.ad0 f h1 h2 Nt,hg',MG,hs⟩
theorem FN.done {t:Y.Tr eE}{d:Bool}{r:eE}{rec:Int}(h:FN (.ex t) T d r rec){u:Y.Tr eE}(hu:Y.after t T=u):(∀a,u= .ret a→d=true∧r=a)∧(∀q k,u= .ask q k→d=false):=by
 obtain⟨h1,_,h3⟩:=h;have:=Y.sC t (BB T) rfl
 rw[show(BB T).rest=T from rfl,hu] at this
 refine⟨λa e=>?_,λq k e=>?_⟩
 ·subst e;obtain⟨a1,a2⟩:=this;rw[a2] at h1;exact⟨h1,(h3 h1).trans a1⟩
 ·subst e;rw[this.1] at h1;exact h1
theorem Kb {tf tg:Int}{t u u':Y.Tr eE}{d:Bool}{r:eE}{rec:Int}(h:YR H o yp xp pp mp mP m cr th L)(hg:hZ H o gp tf tg (.ex t) T d r rec)(dR:FN (.ex t) T d r rec)(hT:T.length<1048576)(ht:FT tf tg)(h1:jX tf=true)(h2:jX tg=true)(mA:Y.after t T=u)(hl:(∃a,u= .ret a∧u'=u∧m'=m)∨(∃q k,u= .ask q k∧Y.norm (k (Y.db m q).1)=u'∧m'=(Y.db m q).2)):
  aF (run G) 20 [pv gp,pv mp] H λv H'=>∃o' T' d' r' kF,v= .bool d'∧Fr H o H' o' [tf,tg, -70, -71]∧YR H' o' yp xp pp mp mP m' cr th L∧hZ H' o' gp tf tg (.ex t) T' d' r' kF∧FN (.ex t) T' d' r' kF∧Y.after t T'=u'∧T'.length≤T.length+1:=by
 refine(ZB h hg dR hT ht h1 h2).mono ?_;rintro v H' ⟨o',T',m1,d',r',kF,rfl,f,hy,hg',MG,hs⟩;have hlen:=hs.len;obtain⟨k1,k2⟩:=dR.done mA;rcases hl with⟨a,e1,e2,e3⟩|⟨q,k,e1,e2,e3⟩
 ·obtain⟨ed,_⟩:=k1 a e1;rcases hs with⟨_,rfl,rfl⟩|⟨h,_⟩
  ·subst e2 e3;exact⟨o',T',d',r',kF,rfl,f,hy,hg',MG,mA,hlen⟩
  ·rw[ed] at h;cases h
 ·have ed:=k2 q k e1;rcases hs with⟨h,_⟩|⟨_,q',k',ea,rfl,rfl⟩
  ·rw[ed] at h;cases h
  ·rw[mA,e1] at ea;cases ea;subst e3;refine⟨o',_,d',r',kF,rfl,f,hy,hg',MG,?_,hlen⟩;rw[Y.ze,mA,e1];exact e2
end
end Go.Proofs.YtgfgglponbmgmaaGreat.Fun
end
