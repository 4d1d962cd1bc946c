/- Texts of the proof of peekPlays_holds, put together by a small program of ours (names shortened, spaces taken out). No condition beyond the given statement. -/
import Derived.Test.YtgfgglponbmgmaaGreatPKP11
import Derived.Test.YtgfgglponbmgmaaGreatPKP12
import Derived.Test.YtgfgglponbmgmaaGreatPKP13
import Derived.Test.YtgfgglponbmgmaaGreatPKP14
import Derived.Test.YtgfgglponbmgmaaGreatPKP38
import Derived.Test.YtgfgglponbmgmaaGreatPKP10
import Derived.Test.YtgfgglponbmgmaaGreatPKP16
import Derived.Test.YtgfgglponbmgmaaGreatPKP17
import Derived.Test.YtgfgglponbmgmaaGreatPKP27
import Derived.Test.YtgfgglponbmgmaaGreatPKP15
set_option linter.unusedVariables false
set_option linter.unusedSimpArgs false
set_option linter.unnecessarySimpa false
noncomputable section
section
namespace Go.Proofs.YtgfgglponbmgmaaGreat.Fun
open Go Go.RowKit Go.Proofs.YtgfgglponbmgmaaGreatA.Am
set_option maxRecDepth 10000
section
open Go.Proofs.YtgfgglponbmgmaaGreatA
variable {G:ae} {H H':aa} {o o':aj} {p c pp mp xp yp f i:Nat} {K:aa→aj→Prop} {x:Value} {m m' mP:Y.Mm} {bY:Int} {th:jc} {L:List jE} {N M:Nat} {Ga:Y.Ga}
def TK (Ga:Y.Ga)(m:Y.Mm)(l:PL):Prop:=l≠[]∧l.length≤m.cs.length∧∀e∈l,∃q,Y.aQ Ga e.2 e.1 q∧Ga.nz e.2
theorem TL (hm:qk H mp m)(i:Y.bs Ga m)(r:EY Ga)(o:aj):aF (run G) 50 [pv mp] H λv H'=>∃t o' l,Fr H o H' o' []∧gY H' o' t v l∧TK Ga m l:=by
 refine Ev.up (t:=λk=>F50 (run G k) k (pv mp) H) ?_ λk=>WG ..
 have hl:m.cs.length≤65536:=by have:=i.top;omega
 obtain⟨l,hb,hlen,Y0⟩:=Y.GJ i r.1 r.2;obtain⟨t,Pg,CS⟩:=gI o H.length;simp -implicitDefEqProofs only[F50,sS,Nat.reduceAdd];refine Ev.is (vW hm hl 6) ?_;obtain⟨H1,e1⟩: ∃z,z=H.new ⟨[cv 1,cv 6],69,2,false⟩:=⟨_,rfl⟩;have b1:=UT 1 6 H;rw[←e1] at b1;simp -implicitDefEqProofs only[US,b1,sS,Nat.reduceAdd];have f1:Fr H o H1 (o.up H.length t) []:=by rw[e1];exact(Fr.refl _ _ _).new _ _
 have s1:gY H1 (o.up H.length t) t (.slice (some ⟨H.length,0,none⟩) 1 1) [(1,6)]:=.inr ⟨H.length,1,[],69,rfl,by rw[e1];exact aL,by simp,aP⟩
 have M8:=hm.fr f1;refine Ev.call (SQ (t:=t) (B:=H) (b:=o) hm hl (λi hi=>by have:=CS i hi;omega) _ rfl hb f1 s1 (by simp at hlen ⊢;omega)) ?_
 rintro v H2 ⟨o2,f2,s2⟩
 try simp -implicitDefEqProofs only[sS,Nat.reduceAdd]
 exact Ev.ret ⟨t,o2,(1,6)::l,f2,s2,by simp,hlen,Y0⟩
theorem Qf (hm:qk H mp m)(i:Y.bs Ga m)(r:EY Ga)(o:aj)(n:Int):aF (run G) 23 [pv mp,cv n] H λv H'=>∃o' node slot q,Fr H o H' o' []∧v= .agg #[cv node,cv slot]∧Y.aQ Ga slot node q∧Ga.nz slot:=by
 refine Ev.up (t:=λk=>F23 (run G k) k (pv mp) (cv n) H) ?_ λk=>Wm ..
 have hl:m.cs.length≤65536:=by have:=i.top;omega
 obtain⟨H1,e1⟩: ∃z,z=H.new ⟨[cv 0,cv 0],69,1,false⟩:=⟨_,rfl⟩;have n0:aS H 69 1 [cv 0,cv 0]=(pv H.length,H1):=by rw[e1];rfl
 have f1:Fr H o H1 (o.up H.length (-9)) []:=by rw[e1];exact(Fr.refl _ _ _).new _ _
 have g1:H1.get H.length=some ⟨[cv 0,cv 0],69,1,false⟩:=by rw[e1];exact aL
 have M8:=hm.fr f1;simp -implicitDefEqProofs only[F23,n0,sS,Nat.reduceAdd];refine Ev.call (TL M8 i r (o.up H.length (-9))) ?_;rintro v H2 ⟨t,o2,l,f2,s2,dz,hlen,Y0⟩;simp -implicitDefEqProofs only[s2.len,sS,Nat.reduceAdd];have Fq:0<l.length:=List.length_pos_iff.2 dz;refine Ev.call (lu n l.length (by omega)) ?_
 rintro v' H3 ⟨z,rfl,Vi,Y9,rfl⟩;obtain⟨j,rfl⟩: ∃k:Nat,z=k:=⟨z.toNat,by omega⟩
 have hj:j<l.length:=by omega
 obtain⟨qi,b,k1,k2,k3,k4⟩:=s2.idx hj;obtain⟨_,_,k5⟩:=k4 H3 k2;have eg:l.getD j (0,0)=l[j]:=by simp[List.getD_eq_getElem?_getD,hj]
 rw[eg] at k5;have g3:H3.get H.length=some ⟨[cv 0,cv 0],69,1,false⟩:=by rw[f2.same _ (ar g1) (by simp)];exact g1
 have S:bE 2 (pv H.length) (.agg #[cv l[j].1,cv l[j].2]) H3=some (undef,H3.put H.length ⟨[cv l[j].1,cv l[j].2],69,1,false⟩):=by
  simp[bE,bX,g3,Value.cells,known,aD,dv]
 have D:c8 2 (pv H.length) (H3.put H.length ⟨[cv l[j].1,cv l[j].2],69,1,false⟩)=some (.agg #[cv l[j].1,cv l[j].2]):=by
  simp[c8,aR,aG g3]
 simp -implicitDefEqProofs only[k1,k5,S,D,sS,Nat.reduceAdd];obtain⟨q,hq,hz⟩:=Y0 l[j] (List.getElem_mem hj);have Di:o2 H.length= -9:=by rw[f2.own _ (ar g1)];exact aP
 exact Ev.ret ⟨o2,l[j].1,l[j].2,q,(f1.tr f2).put λhh=>by omega,rfl,hq,hz⟩
def ju (m:Y.Mm)(node slot:Int)(shut:Bool):Int×Y.Mm:=
 if Y.kd (m.at slot)=5∨Y.kd (m.at slot)=3∨Y.kd (m.at slot)=4 then(0,m) else
 let e:=Y.dT m (.mk [0])
 let a:=Y.dT e.2 (.mk (Y.fC (node+2) slot (m.at slot) (Y.fO 1 e.1)))
 if ¬e.1>0∨¬a.1>0 then(0,a.2) else
 let c:=(Y.dT a.2 (.cs slot (m.at slot) (Y.fO 5 a.1))).2
 (a.1,if shut=true∧node≠1 then c.set (node+2) 1 else c)
theorem E6 (a b c d:Int):aF (run G) 58 [cv a,cv b,cv c,cv d] H λw H'=>GR H H' w (Y.fC a b c d):=by
 refine Ev.up (t:=λn=>F58 (run G n) n (cv a) (cv b) (cv c) (cv d) H) ?_ λn=>NQ ..
 simp -implicitDefEqProofs only[F58,OW,sS,Nat.reduceAdd];exact Ev.ret ⟨(Ext.refl _).new _,ln [a,b,c,d,0] _,λa n c e=>by cases e;exact Nat.le_refl _⟩
theorem abU (h:YR H o yp xp pp mp m m bY th L)(i:Y.bs Ga m)(r:EY Ga)(n:Int)(shut:Bool):aF (run G) 13 [pv yp,cv n,.bool shut] H λv H'=>∃o' node slot q fS,Fr H o H' o' yt∧Y.aQ Ga slot node q∧Ga.nz slot∧v=cv (ju m node slot shut).1∧YR H' o' yp xp pp mp (ju m node slot shut).2 (ju m node slot shut).2 fS th L:=by
 refine Ev.up (t:=λk=>F13 (run G k) k (pv yp) (cv n) (.bool shut) H) ?_ λk=>WT ..
 obtain⟨a0,a1,a2⟩:=h.ld;simp -implicitDefEqProofs only[F13,a1,a2,sS,Nat.reduceAdd];refine Ev.call (Qf h.An.look i r o n) ?_;rintro v H1 ⟨o1,node,slot,q,f1,rfl,so,hz⟩;obtain⟨H2,e2⟩: ∃z,z=H1.new ⟨[cv 0,cv 0],69,1,false⟩:=⟨_,rfl⟩;have n0:aS H1 69 1 [cv 0,cv 0]=(pv H1.length,H2):=by rw[e2];rfl
 have g2:H2.get H1.length=some ⟨[cv 0,cv 0],69,1,false⟩:=by rw[e2];exact aL
 have S:bE 2 (pv H1.length) (.agg #[cv node,cv slot]) H2=some (undef,H2.put H1.length ⟨[cv node,cv slot],69,1,false⟩):=by
  simp[bE,bX,g2,Value.cells,known,aD,dv]
 obtain⟨H3,e3⟩: ∃z,z=H2.put H1.length ⟨[cv node,cv slot],69,1,false⟩:=⟨_,rfl⟩;rw[←e3] at S;obtain⟨o3,eo3⟩: ∃z,z=o1.up H1.length (-9):=⟨_,rfl⟩;have f13:Fr H1 o1 H3 o3 []:=by
  rw[e3,e2,eo3];exact((Fr.refl H1 o1 []).new _ _).put λhh=>by omega
 have f03:Fr H o H3 o3 []:=f1.tr f13;have c3:Cl H1.length [cv node,cv slot] 69 H3 o3:=⟨by rw[e3];exact aG g2,by rw[eo3];exact aP⟩
 have h3:=h.fr f03 (by simp)
 have L1:aq (.pointer (some ⟨H1.length,1,none⟩)) H3=some (cv slot):=an _ 1 _ c3.1;simp -implicitDefEqProofs only[n0,S,L1,sS,Nat.reduceAdd];have hlm:=h.An.Al;refine Ev.is (C9 h3.An.look hlm.1 slot) ?_
 try simp -implicitDefEqProofs only[sS,Nat.reduceAdd]
 obtain⟨w,ew⟩: ∃w,w=m.at slot:=⟨_,rfl⟩;rw[←ew];refine Ev.is (hU _) ?_
 try simp -implicitDefEqProofs only[sS,Nat.reduceAdd]
 have no:Y.kd w=5∨Y.kd w=3∨Y.kd w=4→Ev (λ_=>some (cv 0,H3)) λr=>∃o' node slot q fS,Fr H o r.2 o' yt∧Y.aQ Ga slot node q∧Ga.nz slot∧r.1=cv (ju m node slot shut).1∧YR r.2 o' yp xp pp mp (ju m node slot shut).2 (ju m node slot shut).2 fS th L:=λhk=>by
  have e:ju m node slot shut=(0,m):=by unfold ju;rw[←ew,if_pos hk]
  exact Ev.ret ⟨o3,node,slot,q,bY,f03.wk (by simp),so,hz,by rw[e],by rw[e];exact h3⟩
 refine Ev.eql (λk5=>?_) (λk5=>?_)<;>try simp -implicitDefEqProofs only[sS,Nat.reduceAdd]
 ·exact no (.inl k5)
 refine Ev.is (hU _) ?_
 try simp -implicitDefEqProofs only[sS,Nat.reduceAdd]
 refine Ev.eql (λk3=>?_) (λk3=>?_)<;>try simp -implicitDefEqProofs only[sS,Nat.reduceAdd]
 ·exact no (.inr (.inl k3))
 refine Ev.is (hU _) ?_
 try simp -implicitDefEqProofs only[sS,Nat.reduceAdd]
 refine Ev.eql (λk4=>?_) (λk4=>?_)<;>try simp -implicitDefEqProofs only[sS,Nat.reduceAdd]
 ·exact no (.inr (.inr k4))
 have el:ju m node slot shut=(let e:=Y.dT m (.mk [0])
   let a:=Y.dT e.2 (.mk (Y.fC (node+2) slot w (Y.fO 1 e.1)))
   if ¬e.1>0∨¬a.1>0 then(0,a.2) else
   let c:=(Y.dT a.2 (.cs slot w (Y.fO 5 a.1))).2
   (a.1,if shut=true∧node≠1 then c.set (node+2) 1 else c)):=by unfold ju;rw[←ew,if_neg (by omega)]
 obtain⟨d,pq,tn⟩:=so.ty;have aeh:1≤node∧node≤65536:=i.SB tn;have wn:IntKind.i64.wrap (node+2)=node+2:=fZ (by omega)
 have zP:JM (λH' o'=>Fr H3 o3 H' o' [-70, -71]) mp m H3:=h3.jm
 have box: ∀{Hx:aa} {mx:Y.Mm},JM (λH' o'=>Fr H3 o3 H' o' [-70, -71]) mp mx Hx→aq (pv H1.length) Hx=some (cv node)∧aq (.pointer (some ⟨H1.length,1,none⟩)) Hx=some (cv slot):=λhj=>by
  obtain⟨_,ox,_,fx⟩:=hj;have:=c3.fr fx (by simp)
  exact⟨an _ 0 _ this.1,an _ 1 _ this.1⟩
 refine Ev.call nI ?_;intro w0 H4 Ss;refine Ev.call (lz zP Ss) ?_;rintro v H5 ⟨rfl,lC⟩;obtain⟨b0,b1⟩:=box lC;obtain⟨e,ee⟩: ∃e,e=Y.dT m (.mk [0]):=⟨_,rfl⟩;rw[←ee] at lC el ⊢;simp -implicitDefEqProofs only[b0,b1,wn,Nat.add_zero,sS,Nat.reduceAdd];refine Ev.is (nZ 1 _) ?_
 try simp -implicitDefEqProofs only[sS,Nat.reduceAdd]
 refine Ev.call (E6 _ _ _ _) ?_;intro w1 H6 BL;refine Ev.call (lz lC BL) ?_;rintro v H7 ⟨rfl,C0⟩;obtain⟨a,ea⟩: ∃a,a=Y.dT e.2 (.mk (Y.fC (node+2) slot w (Y.fO 1 e.1))):=⟨_,rfl⟩;simp only at el;rw[←ea] at C0 el ⊢;obtain⟨d0,d1⟩:=box C0;simp -implicitDefEqProofs only[b0,b1,d0,d1,kE,Nat.add_zero,sS,Nat.reduceAdd];have toY: ∀{Hx:aa} {mx:Y.Mm},JM (λH' o'=>Fr H3 o3 H' o' [-70, -71]) mp mx Hx→∃ox,Fr H3 o3 Hx ox [-70, -71]∧YR Hx ox yp xp pp mp m mx bY th L:=λhj=>by
  obtain⟨_,ox,hm,fx⟩:=hj;exact⟨ox,fx,h3.adV fx hm⟩
 have e1l:m.cs.length≤e.2.cs.length∧e.2.max=m.max:=by rw[ee];exact vX _ _
 have a1l:e.2.cs.length≤a.2.cs.length∧a.2.max=e.2.max:=by rw[ea];exact vX _ _
 have fol: ∀{Hx:aa} {mx:Y.Mm},JM (λH' o'=>Fr H3 o3 H' o' [-70, -71]) mp mx Hx→m.cs.length≤mx.cs.length→mx.max=m.max→aF (run G) 37 [pv yp] Hx λv H'=>∃o' fS,Fr H o H' o' yt∧YR H' o' yp xp pp mp mx mx fS th L:=λhj h1 h2=>by
  obtain⟨ox,fx,hy⟩:=toY hj;refine(E5 hy h1 h2.symm).mono ?_;rintro v H' ⟨o',fS,f',h'⟩;exact⟨o',fS,(f03.trans fx (rs:=yt) (by simp) (by simp)).trans f' (λ_ h=>h) (by simp),h'⟩
 have fail:(¬e.1>0∨¬a.1>0)→Ev (λk=>af (run G k 37 [pv yp] H7) λ_ H=>some (cv 0,H)) λr=>∃o' node slot q fS,Fr H o r.2 o' yt∧Y.aQ Ga slot node q∧Ga.nz slot∧r.1=cv (ju m node slot shut).1∧YR r.2 o' yp xp pp mp (ju m node slot shut).2 (ju m node slot shut).2 fS th L:=λhk=>by
  rw[if_pos hk] at el;refine Ev.call (fol C0 (by omega) (by omega)) ?_
  rintro v H8 ⟨o8,adX,f8,h8⟩;exact Ev.ret ⟨o8,node,slot,q,adX,f8,so,hz,by rw[el],by rw[el];exact h8⟩
 by_cases he:e.1>0
 rotate_left
 ·simp -implicitDefEqProofs only[decide_eq_false he,sS,Nat.reduceAdd];exact fail (.inl he)
 by_cases ha:a.1>0
 rotate_left
 ·simp -implicitDefEqProofs only[decide_eq_true he,decide_eq_false ha,sS,Nat.reduceAdd];exact fail (.inr ha)
 rw[if_neg (by omega)] at el
 simp -implicitDefEqProofs only[decide_eq_true he,decide_eq_true ha,d1,sS,Nat.reduceAdd];refine Ev.is (nZ 5 _) ?_
 try simp -implicitDefEqProofs only[sS,Nat.reduceAdd]
 refine Ev.call (Pz C0 _ _ _) ?_;rintro v H8 ⟨_,UP⟩;obtain⟨c,ec⟩: ∃c,c=Y.dT a.2 (.cs slot w (Y.fO 5 a.1)):=⟨_,rfl⟩;rw[←ec] at UP el;have c1l:a.2.cs.length≤c.2.cs.length∧c.2.max=a.2.max:=by rw[ec];exact vX _ _
 obtain⟨b0',b1'⟩:=box UP;have J0: ∀{Hx:aa} {mx:Y.Mm} (x6 x7 x8 x9 cw aC aO aI fE sM:Value),JM (λH' o'=>Fr H3 o3 H' o' [-70, -71]) mp mx Hx→m.cs.length≤mx.cs.length→mx.max=m.max→ju m node slot shut=(a.1,mx)→Ev (λk=>Cw (run G k) k [pv yp,cv n,.bool shut,x6,x7,x8,x9,cw,aC,aO,aI,fE,cv a.1,sM] Hx) λr=>∃o' node slot q fS,Fr H o r.2 o' yt∧Y.aQ Ga slot node q∧Ga.nz slot∧r.1=cv (ju m node slot shut).1∧YR r.2 o' yp xp pp mp (ju m node slot shut).2 (ju m node slot shut).2 fS th L:=by
  intro Hx mx x6 x7 x8 x9 cw aC aO aI fE sM hj h1 h2 e1;simp -implicitDefEqProofs only[Oe,Cv,sS,Nat.reduceAdd];refine Ev.call (fol hj h1 h2) ?_;rintro v H9 ⟨o9,adY,f9,h9⟩
  try simp -implicitDefEqProofs only[sS,Nat.reduceAdd]
  exact Ev.ret ⟨o9,node,slot,q,adY,f9,so,hz,by rw[e1],by rw[e1];exact h9⟩
 cases shut<;>simp -implicitDefEqProofs only[d1,b0',kE,Nat.add_zero,sS,Nat.reduceAdd]
 ·rw[if_neg (by simp)] at el
  exact J0 _ _ _ _ _ _ _ _ _ _ UP (by omega) (by omega) el
 refine Ev.neq (λhq=>?_) (λhq=>?_)<;>try simp -implicitDefEqProofs only[b0',wn,Nat.add_zero,sS,Nat.reduceAdd]
 ·rw[if_pos ⟨rfl,hq⟩] at el;refine Ev.call (zo UP (node+2) 1) ?_;intro v H9 hj9;exact J0 _ _ _ _ _ _ _ _ _ _ hj9 (by rw[Y.vS];omega) (by rw[Y.IW];omega) el
 ·rw[if_neg (by rintro⟨_,h⟩;exact h hq)] at el
  exact J0 _ _ _ _ _ _ _ _ _ _ UP (by omega) (by omega) el
end
section
open Go.Proofs.YtgfgglponbmgmaaGreatA
variable {G:ae} {H H' H0:aa} {b o o':aj} {p c pp mp xp yp fp i:Nat} {x:Value} {m m' mP:Y.Mm} {bY:Int} {tag:Int} {cs:List Value}
def pQ (H0:aa)(b:aj)(fp:Nat)(tag:Int)(pp:Nat)(cs:List Value)(m:Y.Mm)(bY:Int)(H:aa):Prop:=
 tag< -95∧∃(o:aj) (ty:TypeId),zy H o pp m bY∧H.get fp=some ⟨cs,ty,1,false⟩∧o fp=tag∧Fr H0 b H o [-90, -91,tag]
theorem pQ.ld (h:pQ H0 b fp tag pp cs m bY H): ∀k,aq (.pointer (some ⟨fp,k,none⟩)) H=cs[k]? :=λk=>by
 obtain⟨_,o,ty,_,g,_⟩:=h;exact an fp k H g
theorem pQ.ld0 (h:pQ H0 b fp tag pp cs m bY H):aq (pv fp) H=cs[0]? :=h.ld 0
theorem pQ.st (h:pQ H0 b fp tag pp cs m bY H){k:Nat}(hk:k<cs.length){v:Value}(h1:v.cells= #[v])(h2:known v=true)(h3:aD v=true): ∃H',bE 1 (.pointer (some ⟨fp,k,none⟩)) v H=some (undef,H')∧pQ H0 b fp tag pp (cs.set k v) m bY H':=by
 obtain⟨ht,o,ty,hm,g,ho,f⟩:=h;have f1:Fr H o (H.put fp ⟨cs.set k v,ty,1,false⟩) o [tag]:=(Fr.refl _ _ _).put λ_=>by simp[ho]
 exact⟨_,sj fp k v H g rfl hk h1 h2 h3,ht,o,ty,hm.fr f1 (by simp;omega) (by simp;omega),aG g,ho,f.trans f1 (λ_ h=>h) (by simp)⟩
theorem pQ.jp (h:pQ H0 b fp tag pp cs m bY H):JP (λH' o'=>∃ty,H'.get fp=some ⟨cs,ty,1,false⟩∧o' fp=tag∧Fr H0 b H' o' [-90, -91,tag]) pp m bY H:=by
 obtain⟨ht,o,ty,hm,g,ho,f⟩:=h;exact⟨λH o H' o' ⟨ty,a1,a2,a3⟩ f=>⟨ty,by rw[f.same fp (ar a1) (by rw[a2];simp;omega)];exact a1,by rw[f.own fp (ar a1)];exact a2,a3.trans f (λ_ h=>h) (by simp)⟩,o,hm,ty,g,ho,f⟩
theorem pQ.of {m':Y.Mm}{fS:Int}(h:pQ H0 b fp tag pp cs m bY H)(k:JP (λH' o'=>∃ty,H'.get fp=some ⟨cs,ty,1,false⟩∧o' fp=tag∧Fr H0 b H' o' [-90, -91,tag]) pp m' fS H'):pQ H0 b fp tag pp cs m' fS H':=by
 obtain⟨_,o,hm,ty,g,ho,f⟩:=k;exact⟨h.1,o,ty,hm,g,ho,f⟩
section
variable {α:Type} {kk:Nat→Value→aa→Option α} {Q:α→Prop} {k:Nat} {v:Int}
theorem Ev.Zu (h:pQ H0 b fp tag pp cs m bY H)(hl:k<cs.length)(hk: ∀H',pQ H0 b fp tag pp (cs.set k (cv v)) m bY H'→Ev (λn=>kk n undef H') Q):Ev (λn=>af (bE 1 (.pointer (some ⟨fp,k,none⟩)) (cv v) H) (kk n)) Q:=by
 obtain⟨H',e,h'⟩:=h.st hl (v:=cv v) rfl rfl rfl;rw[e];exact hk H' h'
theorem Ev.Y1 (h:pQ H0 b fp tag pp cs m bY H)(hl:0<cs.length)(hk: ∀H',pQ H0 b fp tag pp (cs.set 0 (cv v)) m bY H'→Ev (λn=>kk n undef H') Q):Ev (λn=>af (bE 1 (pv fp) (cv v) H) (kk n)) Q:=Ev.Zu h hl hk
theorem Ev.rdF {a:Int}(h:pQ H0 b fp tag pp cs m bY H)(hk: ∀H',pQ H0 b fp tag pp cs m (c1 bY) H'→Ev (λn=>kk n (cv (m.at a)) H') Q):Ev (λn=>af (run G n 67 [pv pp,cv a] H) (kk n)) Q:=
 Ev.call (TD h.jp a) λv H' hq=>by obtain⟨rfl,hj⟩:=hq;exact hk H' (h.of hj)
end
structure ud where
 next:Int
 cell:Int
 da:Int
 word:Int
abbrev My (s:ud):List Value:=[cv s.next,cv s.cell,cv s.da,cv s.word]
def cj (s:ud)(m:Y.Mm):ud:=
 if s.next=0 then
  if pk (m.at s.cell)≠5 then{s with next:=3,word:=m.at s.cell} else{s with next:=1,cell:=pa (m.at s.cell)+4,da:=pa (m.at s.cell)}
 else if s.next=1 then{s with next:=2,cell:=if m.at s.cell=1 then s.da+3 else s.da+2}
 else if s.next=2 then{s with next:=3,word:=m.at s.cell}
 else s
def cN (fin:Bool)(bY:Int):Int:=if fin then bY else c1 bY
def Qg (s:ud):Prop:=0≤s.next∧s.next≤3∧(s.next=1→ -9223372036854775808≤s.da∧s.da≤65536)
theorem Mz {s:ud}(h:Qg s)(m:Y.Mm):Qg (cj s m):=by
 unfold cj;obtain⟨h1,h2,h3⟩:=h;have:=Vb (m.at s.cell)
 split
 ·split
  ·exact⟨by show(0:Int)≤3;omega,by show(3:Int)≤3;omega,λh=>by simp at h⟩
  ·exact⟨by show(0:Int)≤1;omega,by show(1:Int)≤3;omega,λ_=>this⟩
 split
 ·exact⟨by show(0:Int)≤2;omega,by show(2:Int)≤3;omega,λh=>by simp at h⟩
 split
 ·exact⟨by show(0:Int)≤3;omega,by show(3:Int)≤3;omega,λh=>by simp at h⟩
 ·exact⟨h1,h2,h3⟩
theorem E7 {s:ud}(h:pQ H0 b fp tag pp (My s) m bY H):aF (run G) 27 [pv fp] H (Is H (.bool (decide (s.next=3)))):=by
 refine Ev.up (t:=λn=>F27 (run G n) n (pv fp) H) ?_ λn=>WU ..
 have L:=h.ld0;simp -implicitDefEqProofs only[F27,Nat.add_zero,L,sS,Nat.reduceAdd];simp -implicitDefEqProofs only[sg,sS,Nat.reduceAdd];exact Ev.ret ⟨rfl,rfl⟩
theorem Qh {s:ud}(h:pQ H0 b fp tag pp (My s) m bY H):aF (run G) 28 [pv fp] H (Is H (cv s.word)):=by
 refine Ev.up (t:=λn=>F28 (run G n) n (pv fp) H) ?_ λn=>Xp ..
 have L:=h.ld;simp -implicitDefEqProofs only[F28,L,sS,Nat.reduceAdd];exact Ev.ret ⟨rfl,rfl⟩
theorem Ji {s:ud}(h:pQ H0 b fp tag pp (My s) m bY H)(w:Int):aF (run G) 75 [pv fp,cv w] H λv H'=>pQ H0 b fp tag pp (My {s with next:=3,word:=w}) m bY H':=by
 refine Ev.up (t:=λn=>F75 (run G n) n (pv fp) (cv w) H) ?_ λn=>WW ..
 simp -implicitDefEqProofs only[F75,Nat.add_zero,sS,Nat.reduceAdd];refine Ev.Zu h (by simp) λH1 h1=>?_
 try simp -implicitDefEqProofs only[Nat.add_zero,sS,Nat.reduceAdd]
 refine Ev.Y1 h1 (by simp) λH2 h2=>?_
 exact Ev.ret h2
theorem Qi {s:ud}(h:pQ H0 b fp tag pp (My s) m bY H)(hi:Qg s):aF (run G) 26 [pv fp,pv pp] H λv H'=>v= .bool (decide ((cj s m).next=3))∧pQ H0 b fp tag pp (My (cj s m)) m (cN (decide (s.next=3)) bY) H':=by
 refine Ev.up (t:=λn=>F26 (run G n) n (pv fp) (pv pp) H) ?_ λn=>VV ..
 obtain⟨n0,n3,hb⟩:=hi;have L:=h.ld;have L0:=h.ld0;have J0: ∀{H1:aa} {s1:ud} {cz:Int} (x4 x9 aC x5 bR cw dS fI:Value),pQ H0 b fp tag pp (My s1) m cz H1→s1=cj s m→cz=cN (decide (s.next=3)) bY→Ev (λk=>oJ (run G k) k [pv fp,pv pp,x4,x9,aC,x5,bR,cw,dS,fI] H1) λr=>r.1= .bool (decide ((cj s m).next=3))∧pQ H0 b fp tag pp (My (cj s m)) m (cN (decide (s.next=3)) bY) r.2:=by
  intro H1 s1 cz x4 x9 aC x5 bR cw dS fI h1 e1 e2;simp -implicitDefEqProofs only[NC,B8,sS,Nat.reduceAdd];refine Ev.is (E7 h1) ?_
  try simp -implicitDefEqProofs only[sS,Nat.reduceAdd]
  rw[e1,e2] at h1;exact Ev.ret ⟨by rw[e1],h1⟩
 simp -implicitDefEqProofs only[F26,Nat.add_zero,L0,sS,Nat.reduceAdd];refine Ev.eql (λq0=>?_) (λq0=>?_)<;>try simp -implicitDefEqProofs only[L,sS,Nat.reduceAdd]
 ·have hc:cN (decide (s.next=3)) bY=c1 bY:=by rw[decide_eq_false (by omega)];rfl
  refine Ev.rdF h λH1 h1=>?_
  try simp -implicitDefEqProofs only[sS,Nat.reduceAdd]
  refine Ev.is (TC _) ?_
  try simp -implicitDefEqProofs only[sS,Nat.reduceAdd]
  refine Ev.neq (λq1=>?_) (λq1=>?_)<;>try simp -implicitDefEqProofs only[sS,Nat.reduceAdd]
  ·refine Ev.call (Ji h1 _) ?_;intro v H2 h2
   try simp -implicitDefEqProofs only[sS,Nat.reduceAdd]
   exact J0 _ _ _ _ _ _ _ _ h2 (by unfold cj;rw[if_pos q0,if_pos q1]) hc.symm
  ·refine Ev.is (abR _) ?_;have hpa:=Vb (m.at s.cell);have hw:IntKind.i64.wrap (pa (m.at s.cell)+4)=pa (m.at s.cell)+4:=fZ (by omega)
   try simp -implicitDefEqProofs only[sS,Nat.reduceAdd]
   refine Ev.Zu h1 (by simp) λH2 h2=>?_
   have L2:=h2.ld;simp only[List.set_cons_succ,List.set_cons_zero] at h2 L2;simp -implicitDefEqProofs only[L2,hw,Nat.add_zero,sS,Nat.reduceAdd];refine Ev.Y1 h2 (by simp) λH3 h3=>?_
   try simp -implicitDefEqProofs only[sS,Nat.reduceAdd]
   refine Ev.Zu h3 (by simp) λH4 h4=>?_
   try simp -implicitDefEqProofs only[sS,Nat.reduceAdd]
   exact J0 _ _ _ _ _ _ _ _ (s1:=⟨1,pa (m.at s.cell)+4,pa (m.at s.cell),s.word⟩) h4 (by unfold cj;rw[if_pos q0,if_neg (by omega)]) hc.symm
 refine Ev.eql (λq1=>?_) (λq1=>?_)<;>try simp -implicitDefEqProofs only[L,Nat.add_zero,sS,Nat.reduceAdd]
 ·have hc:cN (decide (s.next=3)) bY=c1 bY:=by rw[decide_eq_false (by omega)];rfl
  refine Ev.Y1 h (by simp) λH1 h1=>?_
  have L1:=h1.ld;simp only[List.set_cons_zero] at h1 L1;simp -implicitDefEqProofs only[L1,sS,Nat.reduceAdd];refine Ev.rdF h1 λH2 h2=>?_
  have L2:=h2.ld;obtain⟨Vy,hb2⟩:=hb q1;have Uq:IntKind.i64.wrap (s.da+3)=s.da+3:=fZ (by omega)
  have uQ:IntKind.i64.wrap (s.da+2)=s.da+2:=fZ (by omega)
  try simp -implicitDefEqProofs only[sS,Nat.reduceAdd]
  refine Ev.eql (λq2=>?_) (λq2=>?_)<;>try simp -implicitDefEqProofs only[L2,Uq,uQ,sS,Nat.reduceAdd]
  ·refine Ev.Zu h2 (by simp) λH3 h3=>?_
   try simp -implicitDefEqProofs only[sS,Nat.reduceAdd]
   exact J0 _ _ _ _ _ _ _ _ (s1:=⟨2,s.da+3,s.da,s.word⟩) h3 (by unfold cj;rw[if_neg q0,if_pos q1,if_pos q2]) hc.symm
  ·refine Ev.Zu h2 (by simp) λH3 h3=>?_
   try simp -implicitDefEqProofs only[sS,Nat.reduceAdd]
   exact J0 _ _ _ _ _ _ _ _ (s1:=⟨2,s.da+2,s.da,s.word⟩) h3 (by unfold cj;rw[if_neg q0,if_pos q1,if_neg q2]) hc.symm
 refine Ev.eql (λq2=>?_) (λq2=>?_)<;>try simp -implicitDefEqProofs only[L,Nat.add_zero,sS,Nat.reduceAdd]
 ·have hc:cN (decide (s.next=3)) bY=c1 bY:=by rw[decide_eq_false (by omega)];rfl
  refine Ev.rdF h λH1 h1=>?_
  try simp -implicitDefEqProofs only[sS,Nat.reduceAdd]
  refine Ev.call (Ji h1 _) ?_;intro v H2 h2
  try simp -implicitDefEqProofs only[sS,Nat.reduceAdd]
  exact J0 _ _ _ _ _ _ _ _ h2 (by unfold cj;rw[if_neg q0,if_neg q1,if_pos q2]) hc.symm
 ·have q3:s.next=3:=by omega
  exact J0 _ _ _ _ _ _ _ _ h (by unfold cj;rw[if_neg q0,if_neg q1,if_neg q2]) (by rw[decide_eq_true q3];rfl)
theorem adZ (a:Int):aE Tryz.prog 123 [(1,cv a)]=some (.agg #[cv 0,cv a,cv 0,cv 0]):=by kernel_rfl
theorem abV (a:Int)(H:aa):dJ 123 (.agg #[cv 0,cv a,cv 0,cv 0]) H=some (pv H.length,H.new ⟨[cv 0,cv a,cv 0,cv 0],123,1,false⟩):=by
 simp[dJ,Value.cells,aD,aS]
theorem TM (a:Int):aF (run G) 24 [cv a] H λv H'=>v=pv H.length∧H'=H.new ⟨My ⟨0,a,0,0⟩,123,1,false⟩:=by
 refine Ev.up (t:=λn=>F24 (run G n) n (cv a) H) ?_ λn=>XI ..
 simp -implicitDefEqProofs only[F24,adZ,abV,sS,Nat.reduceAdd];exact Ev.ret ⟨rfl,rfl⟩
end
section
open Go.Proofs.YtgfgglponbmgmaaGreatA
variable {m m':Y.Mm} {th hZ:jc} {Ga G':Y.Ga} {slot node:Int} {q:List Nat}
theorem TG.own {t:Nat}(h:TG Ga th m)(i:Y.bs G' m')(w:Y.Own t Ga G')(ht:3≤t):TG G' th m':=
 ⟨i,h.root.mono w.le,λj hj hb=>(h.safe j hj hb).mono (w.let' (by omega))⟩
structure Laid (G':Y.Ga) (m m':Y.Mm) (slot node:Int) (q:List Nat) (a:Int):Prop where
 so:Y.aQ G' slot node q
 nz:G'.nz slot
 ty: ∃x,(Y.kd x=1∧x≠m.at slot)∧G'.ty a=some (.eA slot (m.at slot) x 3)
 inst:G'.inst a
 out:m'.at (a+4)=0
 fit:Y.db G' q (m.at slot)
theorem MA (h:TG Ga th m)(so:Y.aQ Ga slot node q)(hz:Ga.nz slot)(shut:Bool): ∃G',TG G' th (ju m node slot shut).2∧Y.Own 3 Ga G'∧((ju m node slot shut).1≠0→Laid G' m (ju m node slot shut).2 slot node q (ju m node slot shut).1):=by
 obtain⟨w,ew⟩: ∃w,w=m.at slot:=⟨_,rfl⟩;by_cases hk:Y.kd w=5∨Y.kd w=3∨Y.kd w=4
 ·have e:ju m node slot shut=(0,m):=by unfold ju;rw[←ew,if_pos hk]
  rw[e];exact⟨Ga,h,Y.Own.refl _ _,λh=>absurd rfl h⟩
 have i:=h.inv;have fw:Y.db Ga q w:=by
  have:=i.slot so
  rw[←ew] at this;rcases this with⟨_,a⟩|⟨_,a|⟨a,_⟩⟩
  ·exact absurd hz a
  ·exact a
  ·omega
 have aeC:=i.top;have tU:=so.in' i;obtain⟨d,qq,tn⟩:=so.ty;have el:ju m node slot shut=(let e:=Y.dT m (.mk [0])
   let a:=Y.dT e.2 (.mk (Y.fC (node+2) slot w (Y.fO 1 e.1)))
   if ¬e.1>0∨¬a.1>0 then(0,a.2) else
   let c:=(Y.dT a.2 (.cs slot w (Y.fO 5 a.1))).2
   (a.1,if shut=true∧node≠1 then c.set (node+2) 1 else c)):=by unfold ju;rw[←ew,if_neg hk]
 by_cases hr:m.cs.length+1>m.max
 ·have e1:Y.dT m (.mk [0])=(0,m):=by simp only[Y.dT];rw[if_pos (.inr (by simp;omega))]
  have e2:Y.dT m (.mk (Y.fC (node+2) slot w (Y.fO 1 0)))=(0,m):=by simp only[Y.dT];rw[if_pos (.inr (by simp[Y.fC];omega))]
  have e:ju m node slot shut=(0,m):=by rw[el];simp only[e1,e2];rw[if_pos (.inl (by simp))]
  rw[e];exact⟨Ga,h,Y.Own.refl _ _,λh=>absurd rfl h⟩
 have e1:Y.dT m (.mk [0])=((m.cs.length:Int)+1,⟨m.cs++[0],m.max⟩):=by simp only[Y.dT];rw[if_neg (by rintro(a|a)<;>simp at a;omega)]
 have i1:=i.make (r:=.empty) (ws:=[0]) rfl (by simp;omega)
 obtain⟨G1,eG1⟩: ∃G1,G1=Ga.make (m.cs.length+1) .empty [0]:=⟨_,rfl⟩;rw[←eG1] at i1;have g1:Ga.le G1:=by rw[eG1];exact Y.Ga.nD i.ED
 have n1: ∀e,G1.inst e→Ga.inst e:=λe k=>by rw[eG1] at k;exact k
 obtain⟨x,ex⟩: ∃x,x=Y.fO 1 ((m.cs.length:Int)+1):=⟨_,rfl⟩;have kx:Y.kd x=1:=by rw[ex];exact Y.iA (by omega) (by omega)
 have nx:x≠w:=λe=>by
  obtain⟨_,r,tr⟩:=fw.1;have:=(i.room _ _ tr).2
  rw[←e,ex,Y.iV (by omega) (by omega)] at this
  cases r<;>simp[Y.Rec.size] at this<;>omega
 obtain⟨m1,em1⟩: ∃m1,m1=Y.Mm.mk (m.cs++[0]) m.max:=⟨_,rfl⟩;have l1:m1.cs.length=m.cs.length+1:=by rw[em1];simp
 have x1:m1.max=m.max:=by rw[em1]
 rw[←em1] at i1 e1;by_cases sK:m1.cs.length+5>m1.max
 ·have e2:Y.dT m1 (.mk (Y.fC (node+2) slot w x))=(0,m1):=by simp only[Y.dT];rw[if_pos (.inr (by simp[Y.fC];omega))]
  have e:ju m node slot shut=(0,m1):=by rw[el];simp only[e1, ←ex,e2];rw[if_pos (.inr (by simp))]
  rw[e];exact⟨G1,h.own i1 (Y.Own.of (t:=3) g1 n1) (by omega),Y.Own.of g1 n1,λh=>absurd rfl h⟩
 have e2:Y.dT m1 (.mk (Y.fC (node+2) slot w x))=((m1.cs.length:Int)+1,⟨m1.cs++Y.fC (node+2) slot w x,m1.max⟩):=by
  simp only[Y.dT];rw[if_neg (by rintro(a|a)<;>simp[Y.fC] at a;omega)]
 have UD:=so.mono g1;have fw1:=fw.mono g1;have i2:=i1.make (r:=.eA slot w x 3) (ws:=Y.fC (node+2) slot w x) ⟨node,q,UD,fw1,⟨by rw[ex];exact Y.n5.fO (r:=.empty) (by omega) (by omega) (by rw[eG1];simp[Y.Ga.make]),.inl kx⟩,rfl⟩ (by simp[Y.fC];omega)
 obtain⟨a,ea⟩: ∃a:Int,a=(m1.cs.length:Int)+1:=⟨_,rfl⟩;obtain⟨G2,eG2⟩: ∃G2,G2=G1.make (m1.cs.length+1) (.eA slot w x 3) (Y.fC (node+2) slot w x):=⟨_,rfl⟩;rw[←eG2] at i2;have g2:G1.le G2:=by rw[eG2];exact Y.Ga.nD i1.ED
 have n2: ∀e,G2.inst e→G1.inst e:=λe k=>by rw[eG2] at k;exact k
 have ta:G2.ty a=some (.eA slot w x 3):=by rw[eG2,ea];simp[Y.Ga.make]
 obtain⟨m2,em2⟩: ∃m2,m2=Y.Mm.mk (m1.cs++Y.fC (node+2) slot w x) m1.max:=⟨_,rfl⟩;rw[←em2, ←ea] at e2;rw[←em2] at i2;have l2:m2.cs.length=m1.cs.length+5:=by rw[em2];simp[Y.fC]
 have w1:m1.at slot=w:=by rw[em1,Y.Gu (by omega),ew]
 have w2:m2.at slot=w:=by
  have e:(Y.Mm.mk m1.cs m1.max).at slot=m1.at slot:=rfl;rw[em2,Y.Gu (by omega),e,w1]
 have o2:m2.at (a+4)=0:=by
  have h4:=Y.O1 (cs:=m1.cs) (w:=Y.fC (node+2) slot w x) (mx:=m1.max) (j:=4) (by simp[Y.fC])
  rw[em2,ea];exact h4
 have hi: ¬G2.inst a:=λk=>by
  obtain⟨s,old,new,b,t⟩:=i.inst _ (n1 _ (n2 _ k));have:=i.room _ _ t
  simp[Y.Rec.size] at this;omega
 have ec:(Y.dT m2 (.cs slot w (Y.fO 5 a))).2=m2.set slot (Y.fO 5 a):=by
  simp only[Y.dT];rw[if_pos ⟨by unfold Y.Mm.used;omega,w2⟩]
 have i3:=i2.inst1 ta w2 hi;have e:ju m node slot shut=(a,if shut=true∧node≠1 then(m2.set slot (Y.fO 5 a)).set (node+2) 1 else m2.set slot (Y.fO 5 a)):=by
  rw[el];simp only[e1, ←ex,e2];rw[if_neg (by omega),ec]
 have Y2:Y.Own 3 Ga (G2.install a):=⟨(g1.trans g2).trans (Y.Ga.hX _ _),λe s old new u hu t k=>by
  rcases k with k|rfl
  ·exact n1 _ (n2 _ k)
  ·have:=i.room _ _ t
   simp[Y.Rec.size] at this;omega⟩
 have so3:=(UD.mono g2).mono (Y.Ga.hX G2 a);have laid: ∀{G4:Y.Ga} {m4:Y.Mm},(G2.install a).le G4→m4.at (a+4)=0→Laid G4 m m4 slot node q a:=λ{G4 m4} g4 ho=>by
  refine⟨so3.mono g4,g4.nz _ ((Y.Ga.hX G2 a).nz _ (g2.nz _ (g1.nz _ hz))),⟨x,⟨kx,by rw[←ew];exact nx⟩,?_⟩,g4.inst _ (.inr rfl),ho,?_⟩
  ·rw[←ew];exact g4.ty _ _ ((Y.Ga.hX G2 a).ty _ _ ta)
  ·rw[←ew];exact((fw1.mono g2).mono (Y.Ga.hX G2 a)).mono g4
 have o3:(m2.set slot (Y.fO 5 a)).at (a+4)=0:=by rw[Y.aH (by omega)];exact o2
 rw[e];by_cases hs:shut=true∧node≠1
 ·rw[if_pos hs];have tn3:(G2.install a).ty node=some (.inner d qq):=(Y.Ga.hX G2 a).ty _ _ (g2.ty _ _ (g1.ty _ _ tn));have i4:=i3.guard tn3;have g4:=Y.Ga.vT (G2.install a) node;have abW:Y.Own 3 Ga ((G2.install a).CV node):=Y2.trans (Y.Own.of g4 λ_ k=>k)
  refine⟨_,h.own i4 abW (by omega),abW,λ_=>laid g4 ?_⟩
  have:=i.room _ _ tn
  simp[Y.Rec.size] at this;rw[Y.aH (by omega)];exact o3
 ·rw[if_neg hs];exact⟨_,h.own i3 Y2 (by omega),Y2,λ_=>laid (Y.Ga.le.refl _) o3⟩
end
section
variable {H:aa} {P:Program} {e t:TypeId} {f:Nat}
theorem lW.abX (ht:P.underlying t=some (.slice e))(he:P.underlying e=some (.int .i64))(hc:P.cellsOf e=1){v:Value}(h:lW P H (f+2) t v):
  ∃l,sI H v l∧du H o0 (-1) v l∧l.length≤maxLen:=by
 obtain⟨l,h1,_,h3⟩:=h.ints ht he hc;refine⟨l,⟨h1.1,λa n c ev=>?_⟩,h1,h3⟩
 obtain⟨a',c',e'⟩:=h1.1.isSlice;rcases In.slice ht (h.one (by simp[ht])) with k|⟨i,es,k,_⟩
 ·cases k;cases ev;injection e' with _ e2 _;omega
 ·cases k;cases ev;injection e' with _ e2 _;omega
theorem ad0 (k:FuncId)(hk:kk.contains k=true)(H:aa):aF (run KG) k [] H (Is H (.bool true)):=by
 refine aF.is (λn=>?_) ⟨rfl,rfl⟩
 have hb:(ks++ot Tryz.prog).contains k=true:=by
  simp only[List.contains_eq_mem,decide_eq_true_eq,List.mem_append] at hk ⊢;exact .inl hk
 unfold run;simp only[gB,hb,if_true];show(if kk.contains k=true∧([]:List Value).isEmpty=true then some (Value.bool true,H) else none)=_
 rw[if_pos ⟨hk,rfl⟩]
end
section
open Go.Proofs.YtgfgglponbmgmaaGreatA
variable {G:ae} {H H' H0:aa} {b o o':aj} {p c pp mp xp yp fp gp i:Nat} {x:Value} {m m' mP:Y.Mm} {bY fS:Int} {tag:Int} {cs:List Value} {th:jc} {L:List jE} {N M:Nat} {T:List Int} {Ga:Y.Ga}
def PF (H:aa)(o:aj)(fp:Nat)(tag:Int)(cs:List Value):Prop:=∃ty,H.get fp=some ⟨cs,ty,1,false⟩∧o fp=tag
theorem PF.fr {ps:List Int}(h:PF H o fp tag cs)(f:Fr H o H' o' ps)(hp:tag ∉ ps):PF H' o' fp tag cs:=by
 obtain⟨ty,g,ho⟩:=h;exact⟨ty,by rw[f.same fp (ar g) (by rw[ho];exact hp)];exact g,by rw[f.own fp (ar g)];exact ho⟩
theorem PF.new (t:TypeId):PF (H.new ⟨cs,t,1,false⟩) (o.up H.length tag) H.length tag cs:=⟨t,aL,aP⟩
def jP (tag:Int):Bool:=decide (tag< -95)&& !(yt.contains tag)&&decide (-230<tag∨tag< -290)
theorem vY (h:jP tag=true):tag< -95∧∀z∈(-41:Int)::yt,z≠tag:=by
 simp only[jP,Bool.and_eq_true,decide_eq_true_eq,Bool.not_eq_true',List.contains_eq_mem,decide_eq_false_iff_not] at h;refine⟨h.1.1,λz hz e=>?_⟩
 subst e;rcases List.mem_cons.1 hz with e|hz
 ·omega
 ·exact h.1.2 hz
theorem pQ.start (hy:YR H o yp xp pp mp mP m bY th L)(hf:PF H o fp tag cs)(ht:tag< -95):pQ H o fp tag pp cs mP bY H:=by
 obtain⟨ty,g,ho⟩:=hf;exact⟨ht,o,ty,hy.2.2.2,g,ho,Fr.refl _ _ _⟩
theorem pQ.back (h:pQ H0 b fp tag pp cs m bY H): ∃o,zy H o pp m bY∧PF H o fp tag cs∧Fr H0 b H o [-90, -91,tag]:=by
 obtain⟨_,o,ty,hm,g,ho,f⟩:=h;exact⟨o,hm,⟨ty,g,ho⟩,f⟩
theorem YR.ad1 (h:YR H o yp xp pp mp mP m bY th L)(f:Fr H o H' o' [-90, -91,tag])(ht:jP tag=true)(hm:zy H' o' pp m' fS):YR H' o' yp xp pp mp m' m fS th L:=by
 obtain⟨⟨ty,g⟩,ho,hw,hp⟩:=h;obtain⟨h1,h2⟩:=vY ht;refine⟨⟨ty,by rw[f.same yp (ar g) (by rw[ho];simp;omega)];exact g⟩,by rw[f.own yp (ar g)];exact ho,hw.uz f λz hz hh=>?_,hm⟩
 simp only[List.mem_cons,List.not_mem_nil,or_false] at hz;rcases hz with rfl|rfl|rfl
 ·simp at hh
 ·simp at hh
 ·exact h2 z (by
   rcases List.mem_cons.1 hh with rfl|hh
   ·simp
   ·exact List.mem_cons_of_mem _ (List.mem_cons_of_mem _ (List.mem_cons_of_mem _ (List.mem_cons_of_mem _ hh)))) rfl
theorem YR.ad2 (h:YR H o yp xp pp mp mP m bY th L){tf tg:Int}(f:Fr H o H' o' [tf,tg, -70, -71])(h1:jP tf=true)(h2:jP tg=true)(hm:lJ H' o' mp m'):YR H' o' yp xp pp mp mP m' bY th L:=by
 obtain⟨⟨ty,g⟩,ho,hw,hp⟩:=h;obtain⟨a1,a2⟩:=vY h1;obtain⟨b1,b2⟩:=vY h2;have f9: ∀z∈(-41:Int)::yt,z≠ -70→z≠ -71→z ∉ [tf,tg, -70, -71]:=λz hz n1 n2 hh=>by
  simp only[List.mem_cons,List.not_mem_nil,or_false] at hh;rcases hh with e|e|e|e
  ·exact a2 z hz e
  ·exact b2 z hz e
  ·exact n1 e
  ·exact n2 e
 refine⟨⟨ty,by rw[f.same yp (ar g) (by rw[ho];exact f9 _ (by simp) (by omega) (by omega))];exact g⟩,by rw[f.own yp (ar g)];exact ho,?_,hp.fr f (f9 _ (by simp) (by omega) (by omega)) (f9 _ (by simp) (by omega) (by omega))⟩
 obtain⟨c0,c1,c2,inv,dD,tb,cap,Lx,rest,ty,mQ,g,ho,gt,kO,_,mN,hL⟩:=hw;refine⟨c0,c1,c2,inv,dD,tb,cap,Lx,rest,ty,mQ,?_,?_,?_,?_,hm,λj hj=>?_,hL.fr f (f9 _ (by simp) (by omega) (by omega)) (f9 _ (by simp) (by omega) (by omega))⟩
 ·rw[f.same xp (ar g) (by rw[ho];exact f9 _ (by simp) (by omega) (by omega))];exact g
 ·rw[f.own xp (ar g)];exact ho
 ·rw[f.same tb (ar gt) (by rw[kO];exact f9 _ (by simp) (by omega) (by omega))];exact gt
 ·rw[f.own tb (ar gt)];exact kO
 ·have:j=0∨j=1∨j=2:=by omega
  rcases this with rfl|rfl|rfl
  ·exact(mN 0 hj).fr f (f9 _ (by simp) (by omega) (by omega)) (f9 _ (by simp) (by omega) (by omega)) (f9 _ (by simp) (by omega) (by omega)) (f9 _ (by simp) (by omega) (by omega))
  ·exact(mN 1 hj).fr f (f9 _ (by simp) (by omega) (by omega)) (f9 _ (by simp) (by omega) (by omega)) (f9 _ (by simp) (by omega) (by omega)) (f9 _ (by simp) (by omega) (by omega))
  ·exact(mN 2 hj).fr f (f9 _ (by simp) (by omega) (by omega)) (f9 _ (by simp) (by omega) (by omega)) (f9 _ (by simp) (by omega) (by omega)) (f9 _ (by simp) (by omega) (by omega))
theorem ad3 (t:TypeId)(a:Int):ai Tryz.prog .rem t (cv a) (cv 2)=some (cv (a.tmod 2)):=sh _ a 2 (by decide)
end
section
open Go.Proofs.YtgfgglponbmgmaaGreatA
variable {G:ae} {H H' H0:aa} {b o o':aj} {p c pp mp xp yp fp gp i:Nat} {x:Value} {m m' mP:Y.Mm} {bY fS:Int} {tag:Int} {cs:List Value} {th:jc} {L:List jE} {N M:Nat} {T:List Int} {Ga:Y.Ga}
theorem Y3 {tf tg:Int}{pr:Pr}{done:Bool}{r0:eO}{rec:Int}(h:YR H o yp xp pp mp mP m bY th L)(hg:gy H o gp tf tg pr T done r0 rec)(dG:Fe pr T done r0 rec)(hT:T.length<1048576)(ht:FT tf tg)(h1:jP tf=true)(h2:jP tg=true):aF (run G) 20 [pv gp,pv mp] H λv H'=>∃o' T' m' d r' kp,v= .bool d∧Fr H o H' o' [tf,tg, -70, -71]∧YR H' o' yp xp pp mp mP m' bY th L∧gy H' o' gp tf tg pr T' d r' kp∧Fe pr T' d r' kp∧qO pr done T m T' m':=by
 refine(Jb hg dG h.An hT ht).mono ?_;rintro v H' ⟨o',T',m',d,r',kp,rfl,f,hg',LG,MD,hs⟩;exact⟨o',T',m',d,r',kp,rfl,f,h.ad2 f h1 h2 MD,hg',LG,hs⟩
theorem Fe.done {t:Y.Tr eO}{d:Bool}{r:eO}{rec:Int}(h:Fe (.ex t) T d r rec){u:Y.Tr eO}(hu:Y.after t T=u):(∀a,u= .ret a→d=true∧r=a)∧(∀q k,u= .ask q k→d=false):=by
 obtain⟨h1,_,h3⟩:=h;have:=Y.sq t (Bt T) rfl
 rw[show(Bt T).rest=T from rfl,hu] at this
 refine⟨λa e=>?_,λq k e=>?_⟩
 ·subst e;obtain⟨a1,a2⟩:=this;rw[a2] at h1;exact⟨h1,(h3 h1).trans a1⟩
 ·subst e;rw[this.1] at h1;exact h1
theorem TN {tf tg:Int}{t u u':Y.Tr eO}{d:Bool}{r:eO}{rec:Int}(h:YR H o yp xp pp mp mP m bY th L)(hg:gy H o gp tf tg (.ex t) T d r rec)(dG:Fe (.ex t) T d r rec)(hT:T.length<1048576)(ht:FT tf tg)(h1:jP tf=true)(h2:jP tg=true)(mi:Y.after t T=u)(hl:(∃a,u= .ret a∧u'=u∧m'=m)∨(∃q k,u= .ask q k∧Y.norm (k (Y.dT m q).1)=u'∧m'=(Y.dT m q).2)):
  aF (run G) 20 [pv gp,pv mp] H λv H'=>∃o' T' d' r' kp,v= .bool d'∧Fr H o H' o' [tf,tg, -70, -71]∧YR H' o' yp xp pp mp mP m' bY th L∧gy H' o' gp tf tg (.ex t) T' d' r' kp∧Fe (.ex t) T' d' r' kp∧Y.after t T'=u'∧T'.length≤T.length+1:=by
 refine(Y3 h hg dG hT ht h1 h2).mono ?_;rintro v H' ⟨o',T',m1,d',r',kp,rfl,f,hy,hg',LG,hs⟩;have hlen:=hs.len;obtain⟨k1,k2⟩:=dG.done mi;rcases hl with⟨a,e1,e2,e3⟩|⟨q,k,e1,e2,e3⟩
 ·obtain⟨ed,_⟩:=k1 a e1;rcases hs with⟨_,rfl,rfl⟩|⟨h,_⟩
  ·subst e2 e3;exact⟨o',T',d',r',kp,rfl,f,hy,hg',LG,mi,hlen⟩
  ·rw[ed] at h;cases h
 ·have ed:=k2 q k e1;rcases hs with⟨h,_⟩|⟨_,q',k',ea,rfl,rfl⟩
  ·rw[ed] at h;cases h
  ·rw[mi,e1] at ea;cases ea;subst e3;refine⟨o',_,d',r',kp,rfl,f,hy,hg',LG,?_,hlen⟩;rw[Y.yY,mi,e1];exact e2
end
section
open Go.Proofs.YtgfgglponbmgmaaGreatA
variable {G:ae} {H H' H0:aa} {b o o':aj} {p c pp mp xp yp fp gp i:Nat} {x:Value} {m m' mP:Y.Mm} {bY fS:Int} {tag:Int} {cs:List Value} {th:jc} {L:List jE} {N M:Nat} {T:List Int} {Ga:Y.Ga}
theorem ft1:FT (-301) (-302):=⟨by decide,by decide,by decide⟩
end
end Go.Proofs.YtgfgglponbmgmaaGreat.Fun
end
