/- Texts of the proof of linearCut_holds, put together by a small program of ours (names shortened, spaces taken out). No condition beyond the given statement. -/
import Derived.Test.YtjgmnoaalbbonaaGreatLCT16
import Derived.Test.YtjgmnoaalbbonaaGreatLCT17
import Derived.Test.YtjgmnoaalbbonaaGreatLCT19
import Derived.Test.YtjgmnoaalbbonaaGreatLCT20
import Derived.Test.YtjgmnoaalbbonaaGreatLCT21
import Derived.Test.YtjgmnoaalbbonaaGreatLCT22
import Derived.Test.YtjgmnoaalbbonaaGreatLCT38
import Derived.Test.YtjgmnoaalbbonaaGreatLCT28
set_option linter.unusedVariables false
set_option linter.unusedSimpArgs false
set_option linter.unnecessarySimpa false
noncomputable section
section
namespace Go.Proofs.YtjgmnoaalbbonaaGreat.Fun
open Go Go.RowKit Go.Proofs.YtjgmnoaalbbonaaGreatA.Am
set_option maxRecDepth 10000
section
variable {G:ae} {H H':aa} {o o':aj} {p m c mp f xp:Nat} {K:aa→aj→Prop} {q:Int} {x:Value} {l:PL} {n i:Nat} {cs:List Int} {mx c0:Int} {th:uL} {L:List hP} {N M:Nat}
abbrev Qk:List Value:=[cv 2,.bool false,cv 0,cv 0,cv 0,.pointer none,cv 0,.bool false,cv 0]
theorem PT (a:Int):aE Tryz.prog 119 [(0,cv a)]=some (.agg #[cv a,ax,cv 0,cv 0,cv 0]):=by kernel_rfl
theorem Hp (a:Int)(H:aa):cO 119 (.agg #[cv a,ax,cv 0,cv 0,cv 0]) H=some (pv H.length,H.new ⟨[cv a,ax,cv 0,cv 0,cv 0],119,1,false⟩):=by
 simp[cO,Value.cells,av,aO]
theorem YW (hc:150≤c0∧c0<800):bA (run G) 35 [cv c0] H λv H'=>v= .tuple #[pv H.length,cv 0]∧H'=H.new ⟨[cv c0,ax,cv 0,cv 0,cv 0],119,1,false⟩:=by
 refine Ev.up (t:=λk=>F35 (run G k) k (cv c0) H) ?_ λk=>VM ..
 simp -implicitDefEqProofs only[F35,PT,Hp,sS,Nat.reduceAdd];refine Ev.lss (λhq=>?_) (λhq=>?_)<;>try simp -implicitDefEqProofs only[PT,Hp,sS,Nat.reduceAdd]
 ·omega
 refine Ev.gtr (λhq=>?_) (λhq=>?_)<;>try simp -implicitDefEqProofs only[PT,Hp,sS,Nat.reduceAdd]
 ·omega
 exact Ev.ret ⟨rfl,rfl⟩
theorem YX (a b c:Int)(H:aa):cO 33 (.agg #[cv a,cv b,cv c]) H=some (pv H.length,H.new ⟨[cv a,cv b,cv c],33,1,false⟩):=by
 simp[cO,Value.cells,av,aO]
theorem abH (a b c:Int)(k:Nat):aE Tryz.prog 37 [(0,.agg #[cv a,cv b,cv c]),(1,pv k)]=some (.agg #[cv a,cv b,cv c,pv k,ax,ax,cv 0,cv 0]):=by kernel_rfl
theorem YY (a b c:Int)(k:Nat)(H:aa):cO 37 (.agg #[cv a,cv b,cv c,pv k,ax,ax,cv 0,cv 0]) H=some (pv H.length,H.new ⟨[cv a,cv b,cv c,pv k,ax,ax,cv 0,cv 0],37,1,false⟩):=by
 simp[cO,Value.cells,av,aO]
theorem adC:aE Tryz.prog 72 [(0,cv 2)]=some (.agg Qk.toArray):=by kernel_rfl
theorem abI (H:aa):cO 72 (.agg Qk.toArray) H=some (pv H.length,H.new ⟨Qk,72,1,false⟩):=by
 simp[cO,Value.cells,av,aO]
theorem adD (k:Nat)(H:aa):au Tryz.prog 35 1 [(0,pv k)] H=some (.slice (some ⟨H.length,0,none⟩) 1 1,H.new ⟨[pv k],73,1,false⟩):=by kernel_rfl
structure NI (H:aa) (o:aj) (b0 xp mp:Nat) (c0:Int) (tl:List Nat) (Ts:Value):Prop where
 cfg:Cl b0 [cv c0,cv 3,cv 2] 33 H o
 idx:H.get xp=some ⟨[cv c0,cv 3,cv 2,pv mp,Ts,ax,cv 0,cv 0],37,1,false⟩∧o xp= -80
 mem:tN H o mp c0 m7
 ts:(Ts=ax∧tl=[])∨∃tb ty,Ts= .slice (some ⟨tb,0,none⟩) tl.length tl.length∧H.get tb=some ⟨tl.map pv,ty,1,false⟩∧o tb= -81
 th: ∀(i t:Nat),tl[i]? =some t→H.get t=some ⟨Qk,72,1,false⟩∧o t= -200-i
theorem NI.grow {b0:Nat}{tl:List Nat}{Ts:Value}(h:NI H o b0 xp mp c0 tl Ts)(hj:tl.length<3): ∃PU H2 H3 o3,jE Ts Ts=true∧
  aq (.pointer (some ⟨xp,4,none⟩)) H=some Ts∧aq (.pointer (some ⟨xp,4,none⟩)) (H.new ⟨Qk,72,1,false⟩)=some Ts∧aq (.pointer (some ⟨xp,4,none⟩)) ((H.new ⟨Qk,72,1,false⟩).new ⟨[pv H.length],73,1,false⟩)=some Ts∧
  cg 73 1 8 Ts (.slice (some ⟨(H.new ⟨Qk,72,1,false⟩).length,0,none⟩) 1 1) ((H.new ⟨Qk,72,1,false⟩).new ⟨[pv H.length],73,1,false⟩)=some (PU,H2)∧
  bS 1 (.pointer (some ⟨xp,4,none⟩)) PU H2=some (undef,H3)∧NI H3 o3 b0 xp mp c0 (tl++[H.length]) PU∧Fr H o H3 o3 [-80, -81]:=by
 obtain⟨YZ,⟨gx,hox⟩,hm,hts,oW⟩:=h;obtain⟨H1,hU⟩: ∃z,z=H.new ⟨Qk,72,1,false⟩:=⟨_,rfl⟩;have l1:H1.length=H.length+1:=by rw[hU,aW]
 obtain⟨tO,Mi⟩: ∃z,z=H1.new ⟨[pv H.length],73,1,false⟩:=⟨_,rfl⟩;have l1b:tO.length=H.length+2:=by rw[Mi,aW,l1]
 rw[←hU, ←Mi];obtain⟨oA,Qj⟩: ∃z,z=(o.up H.length (-200-(tl.length:Int))).up H1.length (-9):=⟨_,rfl⟩;have f1:Fr H o tO oA []:=by
  rw[Mi,Qj];have a:Fr H o H1 (o.up H.length (-200-(tl.length:Int))) []:=by rw[hU];exact(Fr.refl _ _ _).new _ _
  exact a.new _ _
 have Ua:H1.get xp=some ⟨[cv c0,cv 3,cv 2,pv mp,Ts,ax,cv 0,cv 0],37,1,false⟩:=by rw[hU,cD (an gx)];exact gx
 have PV:tO.get xp=some ⟨[cv c0,cv 3,cv 2,pv mp,Ts,ax,cv 0,cv 0],37,1,false⟩:=by rw[Mi,cD (an Ua)];exact Ua
 have abJ:oA xp= -80:=by rw[f1.own xp (an gx)];exact hox
 have Y0:tO.get H.length=some ⟨Qk,72,1,false⟩:=by rw[Mi,cD (by omega),hU];exact ay
 have lQ:oA H.length= -200-(tl.length:Int):=by rw[Qj,cZ (by omega)];exact aH
 have adE:tO.get H1.length=some ⟨[pv H.length],73,1,false⟩:=by rw[Mi];exact ay
 have Bd:jE Ts Ts=true:=by
  rcases hts with⟨rfl,_⟩|⟨tb,ty,rfl,_⟩<;>exact jm ..
 have vD:bq tO 1 1 (.slice (some ⟨H1.length,0,none⟩) 1 1)=some [pv H.length]:=by simp[bq,aw,adE]
 obtain⟨PU,H2,Ub,Co,ha,e',g',Zs⟩: ∃PU H2 Ub Co,cg 73 1 8 Ts (.slice (some ⟨H1.length,0,none⟩) 1 1) tO=some (PU,H2)∧PU= .slice (some ⟨Ub,0,none⟩) (tl++[H.length]).length (tl++[H.length]).length∧H2.get Ub=some ⟨(tl++[H.length]).map pv,Co,1,false⟩∧Ub=tO.length∧Fr tO oA H2 (oA.up tO.length (-81)) [-81]:=by
  rcases hts with⟨rfl,rfl⟩|⟨tb,ty,rfl,gt,adF⟩
  ·refine⟨_,tO.new ⟨[pv H.length],73,1,false⟩,tO.length,73,?_,rfl,ay,rfl,(Fr.refl _ _ _).new _ _⟩;simp[cg,vD]
  ·have gtb:tO.get tb=some ⟨tl.map pv,ty,1,false⟩:=by rw[f1.same tb (an gt) (by simp)];exact gt
   have hoA:oA tb= -81:=by rw[f1.own tb (an gt)];exact adF
   have fk:Fr tO oA ((tO.kill tb).new ⟨tl.map pv++[pv H.length],73,1,false⟩) (oA.up tO.length (-81)) [-81]:=by
    have:=((Fr.refl tO oA [-81]).kill (i:=tb) (λ_=>by simp[hoA])).new ⟨tl.map pv++[pv H.length],73,1,false⟩ (-81)
    rw[dh] at this;exact this
   have ld:aw tO tb 0 (tl.length*1)=some (tl.map pv):=by
    simp only[aw,gtb];rw[if_pos (by simp)]
    simp only[List.drop_zero,Nat.mul_one,Option.some.injEq];exact List.take_of_length_le (by simp)
   refine⟨.slice (some ⟨tO.length,0,none⟩) (tl.length+1) (tl.length+1),(tO.kill tb).new ⟨tl.map pv++[pv H.length],73,1,false⟩,tO.length,73,?_,by simp,?_,rfl,fk⟩
   ·simp only[cg,vD,Option.map_some];rw[if_neg (by omega),if_pos (by simp;omega)]
    simp only[gtb];rw[if_pos (by simp)]
    simp only[ld]
   ·have:=ay (H:=tO.kill tb) (c:=⟨tl.map pv++[pv H.length],73,1,false⟩)
    rw[dh] at this;rw[this];simp
 obtain⟨g',Zs⟩:=Zs;have hoB:(oA.up tO.length (-81)) xp= -80:=by rw[Zs.own xp (an PV)];exact abJ
 have gx2:H2.get xp=some ⟨[cv c0,cv 3,cv 2,pv mp,Ts,ax,cv 0,cv 0],37,1,false⟩:=by rw[Zs.same xp (an PV) (by rw[abJ];simp)];exact PV
 have S:=xk xp 4 (some ⟨Ub,0,none⟩) (tl++[H.length]).length (tl++[H.length]).length H2 gx2 rfl (by simp)
 rw[←e'] at S;simp only[List.set_cons_succ,List.set_cons_zero] at S;obtain⟨H3,ou⟩: ∃z,z=H2.put xp ⟨[cv c0,cv 3,cv 2,pv mp,PU,ax,cv 0,cv 0],37,1,false⟩:=⟨_,rfl⟩;rw[←ou] at S;have f3:Fr H2 (oA.up tO.length (-81)) H3 (oA.up tO.length (-81)) [-80]:=by rw[ou];exact(Fr.refl _ _ _).put λ_=>by simp[hoB]
 have fA:Fr H o H3 (oA.up tO.length (-81)) [-80, -81]:=(f1.trans Zs (rs:=[-80, -81]) (by simp) (by simp)).trans f3 (by simp) (by simp)
 have fB:Fr tO oA H3 (oA.up tO.length (-81)) [-80, -81]:=Zs.trans f3 (by simp) (by simp)
 have hxt:xp≠Ub:=by have:=an PV;omega
 refine⟨PU,H2,H3,_,Bd,ak xp 4 H gx,ak xp 4 H1 Ua,ak xp 4 tO PV,ha,S,⟨YZ.fr fA (by simp),⟨by rw[ou];exact aD gx2,hoB⟩,hm.fr fA (by simp) (by simp),.inr ⟨Ub,Co,e',?_,by rw[g'];exact aH⟩,λj t ht=>?_⟩,fA⟩
 ·rw[ou,aS (Ne.symm hxt)];assumption
 ·rcases Nat.lt_or_ge j tl.length with g|g
  ·rw[List.getElem?_append_left g] at ht;obtain⟨a1,a2⟩:=oW j t ht;exact⟨by rw[fA.same t (an a1) (by rw[a2];simp<;>omega)];exact a1,by rw[fA.own t (an a1)];exact a2⟩
  ·rw[List.getElem?_append_right g] at ht;have QG:j=tl.length:=by
    rcases Nat.lt_or_ge tl.length j with g2|g2
    ·rw[List.getElem?_eq_none (by simp;omega)] at ht;cases ht
    ·omega
   subst QG;have:H.length=t:=by simpa using ht
   subst this;exact⟨by rw[fB.same H.length (an Y0) (by rw[lQ];simp<;>omega)];exact Y0,by rw[fB.own H.length (an Y0)];exact lQ⟩
theorem Y1 (hc:150≤c0∧c0<800)(H:aa)(o:aj):bA (run G) 17 [.agg #[cv c0,cv 3,cv 2]] H λv H'=>∃xp mp o' th,v= .tuple #[pv xp,cv 0]∧Fr H o H' o' wt∧WR H' o' xp mp th []∧tN H' o' mp c0 m7∧∀i,i<3→th i=⟨(th i).ti,false,false,[]⟩:=by
 refine Ev.up (t:=λk=>F17 (run G k) k (.agg #[cv c0,cv 3,cv 2]) H) ?_ λk=>V3 ..
 obtain⟨H1,hU⟩: ∃z,z=H.new ⟨[cv c0,cv 3,cv 2],33,1,false⟩:=⟨_,rfl⟩;have bx:=YX c0 3 2 H;rw[←hU] at bx;have l1:H1.length=H.length+1:=by rw[hU,aW]
 have g1:H1.get H.length=some ⟨[cv c0,cv 3,cv 2],33,1,false⟩:=by rw[hU];exact ay
 have L0:aq (pv H.length) H1=some (cv c0):=ak _ 0 H1 g1;have L1:aq (.pointer (some ⟨H.length,1,none⟩)) H1=some (cv 3):=ak _ 1 H1 g1;have L2:aq (.pointer (some ⟨H.length,2,none⟩)) H1=some (cv 2):=ak _ 2 H1 g1;simp -implicitDefEqProofs only[F17,bx,L0,L1,L2,Nat.add_zero,sS,Nat.reduceAdd];refine Ev.lss (λhq=>?_) (λhq=>?_)<;>try simp -implicitDefEqProofs only[L0,L1,L2,Nat.add_zero,sS,Nat.reduceAdd]
 ·omega
 refine Ev.gtr (λhq=>?_) (λhq=>?_)<;>try simp -implicitDefEqProofs only[L0,L1,L2,Nat.add_zero,sS,Nat.reduceAdd]
 ·omega
 refine Ev.lss (λhq=>?_) (λhq=>?_)<;>try simp -implicitDefEqProofs only[L0,L1,L2,Nat.add_zero,sS,Nat.reduceAdd]
 ·omega
 refine Ev.gtr (λhq=>?_) (λhq=>?_)<;>try simp -implicitDefEqProofs only[L0,L1,L2,Nat.add_zero,sS,Nat.reduceAdd]
 ·omega
 refine Ev.lss (λhq=>?_) (λhq=>?_)<;>try simp -implicitDefEqProofs only[L0,L1,L2,Nat.add_zero,sS,Nat.reduceAdd]
 ·omega
 refine Ev.gtr (λhq=>?_) (λhq=>?_)<;>try simp -implicitDefEqProofs only[L0,L1,L2,Nat.add_zero,sS,Nat.reduceAdd]
 ·omega
 refine Ev.call (YW hc) ?_;rintro v H2 ⟨rfl,iL⟩;have l2:H2.length=H.length+2:=by rw[iL,aW,l1]
 obtain⟨oA,Qj⟩: ∃z,z=(o.up H.length (-9)).up H1.length (-70):=⟨_,rfl⟩;have f1:Fr H o H1 (o.up H.length (-9)) []:=by rw[hU];exact(Fr.refl _ _ _).new _ _
 have f2:Fr H o H2 oA []:=by rw[iL,Qj];exact f1.new _ _
 have YZ:Cl H.length [cv c0,cv 3,cv 2] 33 H2 oA:=⟨by rw[iL,cD (by omega)];exact g1,by rw[Qj,cZ (by omega)];exact aH⟩
 have DP:tN H2 oA H1.length c0 []:=⟨0,0,0,ax,119,by rw[iL];exact ay,by rw[Qj];exact aH,.inl ⟨rfl,rfl⟩,by simp;omega,by omega⟩
 have FX:JM (λH' o'=>Fr H2 oA H' o' [-70, -71]) H1.length c0 [] H2:=⟨cI.base (by simp),oA,DP,Fr.refl _ _ _⟩
 simp -implicitDefEqProofs only[sS,Nat.reduceAdd];refine Ev.call (PN FX (by omega)) ?_
 rintro v H3 ⟨_,o3,M5,f3⟩;have Ui:=YZ.fr f3 (by simp)
 have LC:cK 3 (pv H.length) H3=some (.agg #[cv c0,cv 3,cv 2]):=by simp[cK,aw,Ui.1]
 obtain⟨H4,oV⟩: ∃z,z=H3.new ⟨[cv c0,cv 3,cv 2,pv H1.length,ax,ax,cv 0,cv 0],37,1,false⟩:=⟨_,rfl⟩;have bI:=YY c0 3 2 H1.length H3;rw[←oV] at bI;have f4:Fr H3 o3 H4 (o3.up H3.length (-80)) []:=by rw[oV];exact(Fr.refl _ _ _).new _ _
 have fA4:Fr H o H4 (o3.up H3.length (-80)) wt:=(f2.trans f3 (rs:=wt) (by simp) (by simp)).trans f4 (λ_ h=>h) (by simp)
 have n4:NI H4 (o3.up H3.length (-80)) H.length H3.length H1.length c0 [] ax:=⟨Ui.fr f4 (by simp),⟨by rw[oV];exact ay,aH⟩,M5.fr f4 (by simp) (by simp),.inl ⟨rfl,rfl⟩,λi t ht=>by simp at ht⟩
 simp -implicitDefEqProofs only[LC,abH,bI,sS,Nat.reduceAdd];refine Ev.loop (k:=3) (λkk vs Hx=>∃(tl:List Nat) (Ts:Value) (ox:aj) (x0 x2 x3 bN x4 dW:Value),vs=[x0,x2,x3,pv H.length,bN,x4,cv (tl.length:Nat),dW,pv H3.length]∧tl.length+kk=3∧NI Hx ox H.length H3.length H1.length c0 tl Ts∧Fr H o Hx ox wt)
  (λr=>r.1= .exit 0∧∃(tl:List Nat) (Ts:Value) (ox:aj) (x0 x2 x3 bN x4 x7 dW:Value),r.2.1=[x0,x2,x3,pv H.length,bN,x4,x7,dW,pv H3.length]∧tl.length=3∧NI r.2.2 ox H.length H3.length H1.length c0 tl Ts∧Fr H o r.2.2 ox wt) ⟨[],ax,_,_,_,_,_,_,_,rfl,rfl,n4,fA4⟩ ?_ ?_
 ·rintro kk vs Hx ⟨tl,Ts,ox,x0,x2,x3,bN,x4,dW,rfl,T5,hn,hf⟩;have K1:aq (.pointer (some ⟨H.length,1,none⟩)) Hx=some (cv 3):=ak _ 1 Hx hn.cfg.1;have K2:aq (.pointer (some ⟨H.length,2,none⟩)) Hx=some (cv 2):=ak _ 2 Hx hn.cfg.1;have hw:IntKind.i64.wrap ((tl.length:Int)+1)=((tl.length+1:Nat):Int):=by rw[kr (by omega)];omega
  simp -implicitDefEqProofs only[Oe,CO,K1,sS,Nat.reduceAdd];refine Ev.lss (λhq=>?_) (λhq=>?_)<;>try simp -implicitDefEqProofs only[sS,Nat.reduceAdd]
  ·obtain⟨PU,H5,H6,o6,e0,e1,e2,e3,e4,e5,hn6,f6⟩:=hn.grow (by omega)
   simp -implicitDefEqProofs only[e1,K2,adC,abI,adD,e2,e3,e4,e5,e0,hw,sS,Nat.reduceAdd];exact Ev.ret (.inl ⟨rfl,kk-1,by omega,tl++[Hx.length],PU,o6,x0,x2,x3,bN,x4,.bool true,by simp,by simp;omega,hn6,hf.trans f6 (λ_ h=>h) (by simp)⟩)
  ·exact Ev.ret (.inr ⟨by simp,rfl,tl,Ts,ox,_,_,_,_,_,_,_,rfl,by omega,hn,hf⟩)
 ·rintro e vs Hx ⟨he,tl,Ts,ox,x0,x2,x3,bN,x4,x7,dW,rfl,T5,hn,hf⟩;simp only at he;subst he;simp -implicitDefEqProofs only[Og,CP,sS,Nat.reduceAdd];obtain⟨t0,t1,t2,rfl⟩: ∃t0 t1 t2,tl=[t0,t1,t2]:=by
   match tl,T5 with
   | [t0,t1,t2],_=>exact⟨t0,t1,t2,rfl⟩
  obtain⟨_,⟨gx,hox⟩,hm,hts,oW⟩:=hn;rcases hts with⟨_,e⟩|⟨tb,ty,rfl,gt,lQ⟩
  ·cases e
  refine Ev.ret ⟨H3.length,H1.length,ox,λi=>⟨if i=0 then t0 else if i=1 then t1 else t2,false,false,[]⟩,rfl,hf,⟨c0,3,2,0,0,c0,tb,3,m7,ax,[],_,ty,gx,hox,gt,lQ,hm,λi hi=>?_,.inl ⟨rfl,rfl⟩⟩,hm,λi hi=>rfl⟩
  have:i=0∨i=1∨i=2:=by omega
  have key:([t0,t1,t2]:List Nat)[i]? =some (if i=0 then t0 else if i=1 then t1 else t2):=by
   rcases this with rfl|rfl|rfl<;>rfl
  obtain⟨a1,a2⟩:=oW i _ key;exact⟨2,0,0,0,0,0,.pointer none,_,a1,a2,λhb=>by cases hb⟩
theorem abL (a b c:Int):aE Tryz.prog 33 [(0,cv a),(1,cv b),(2,cv c)]=some (.agg #[cv a,cv b,cv c]):=by kernel_rfl
theorem abN (k:Int)(hk:0≤k):bA (run G) 20 [ax,cv k] H λv H'=>v=ax∧H'=H:=by
 refine Ev.up (t:=λn=>F20 (run G n) n ax (cv k) H) ?_ λn=>Xh ..
 have P8:cw ax=some (cv (0:Nat)):=rfl;simp -implicitDefEqProofs only[F20,P8,sS,Nat.reduceAdd];refine Ev.gtr (λhq=>?_) (λhq=>?_)<;>try simp -implicitDefEqProofs only[sS,Nat.reduceAdd]
 ·simp at hq;omega
 ·exact Ev.ret ⟨rfl,rfl⟩
theorem Tf:bA (run G) 19 [ax] H λv H'=>v=ax∧H'=H:=by
 refine Ev.up (t:=λn=>F19 (run G n) n ax H) ?_ λn=>WY ..
 have P8:cw ax=some (cv (0:Nat)):=rfl;simp -implicitDefEqProofs only[F19,sS,Nat.reduceAdd];refine Ev.loop (k:=0) (λkk vs Hx=>∃x2 aJ x5:Value,vs=[ax,x2,cv 0,aJ,ax,x5]∧Hx=H) (λr=>r.1= .exit 0∧r.2.2=H∧∃x2 x4 aJ x5:Value,r.2.1=[ax,x2,x4,aJ,ax,x5]) ⟨_,_,_,rfl,rfl⟩ ?_ ?_
 ·rintro kk vs Hx ⟨x2,aJ,x5,rfl,rfl⟩;simp -implicitDefEqProofs only[OD,Db,P8,sS,Nat.reduceAdd];refine Ev.lss (λhq=>?_) (λhq=>?_)<;>try simp -implicitDefEqProofs only[sS,Nat.reduceAdd]
  ·simp at hq
  ·exact Ev.ret (.inr ⟨by simp,rfl,rfl,_,_,_,_,rfl⟩)
 ·rintro e vs Hx ⟨he,hx,x2,x4,aJ,x5,rfl⟩;simp only at he hx;subst he hx;simp -implicitDefEqProofs only[OF,Dc,sS,Nat.reduceAdd];exact Ev.ret ⟨rfl,rfl⟩
theorem Tg (c:Int){x:Value}{zs:List Int}(hx:fp H o (-1) x zs)(hz:zs.length≤maxLen):bA (run G) 10 [cv c,cv 3,ax,x] H λv H'=>∃xp mp o' th L,v=pv xp∧Fr H o H' o' wt∧WR H' o' xp mp th L∧Inv th L 211 1680:=by
 refine Ev.up (t:=λn=>F10 (run G n) n (cv c) (cv 3) ax x H) ?_ λn=>Wz ..
 simp -implicitDefEqProofs only[F10,sS,Nat.reduceAdd];refine Ev.call (ka c 650 (by omega)) ?_
 rintro v H1 ⟨z,rfl,Mp,MJ,rfl⟩;have hw0:IntKind.i64.wrap (150+z)=150+z:=kr (by omega)
 simp -implicitDefEqProofs only[hw0,abL,sS,Nat.reduceAdd];refine Ev.call (Y1 (c0:=150+z) (by omega) H1 o) ?_
 rintro v H2 ⟨xp,mp,o2,th,rfl,f2,h2,DP,oW⟩
 try simp -implicitDefEqProofs only[sS,Nat.reduceAdd]
 refine Ev.call (abN 20 (by omega)) ?_
 rintro v H3 ⟨rfl,rfl⟩;refine Ev.call Tf ?_;rintro v H3 ⟨rfl,rfl⟩;have hI0:Inv th [] 0 0:=⟨by rw[oW 0 (by omega),oW 1 (by omega),oW 2 (by omega)];simp[u7],λe he=>by simp at he,λi hi=>by rw[oW i hi];simp⟩
 refine Ev.call (YV h2 DP (by omega) hI0 (by omega)) ?_
 rintro v H4 ⟨o4,L4,f4,h4,hI4⟩;have f24:Fr H1 o H4 o4 wt:=f2.trans f4 (λ_ h=>h) (λ_ h=>h)
 try simp -implicitDefEqProofs only[sS,Nat.reduceAdd]
 refine Ev.loop (k:=70) (λkk vs Hx=>∃(j:Nat) (ox:aj) (wz:uL) (Lx:List hP) (x8 bN aK aJ fw:Value),vs=[cv c,cv 3,ax,x,x8,pv xp,cv j,bN,aK,aJ,fw]∧j+kk=70∧Fr H1 o Hx ox wt∧WR Hx ox xp mp wz Lx∧Inv wz Lx (1+3*j) (24*j))
  (λr=>r.1= .exit 0∧∃(ox:aj) (wz:uL) (Lx:List hP) (x8 aN bN aK aJ fw:Value),r.2.1=[cv c,cv 3,ax,x,x8,pv xp,aN,bN,aK,aJ,fw]∧Fr H1 o r.2.2 ox wt∧WR r.2.2 ox xp mp wz Lx∧Inv wz Lx 211 1680) ⟨0,o4,th,L4,_,_,_,_,_,rfl,rfl,f24,h4,hI4⟩ ?_ ?_
 ·rintro kk vs Hx ⟨j,ox,wz,Lx,x8,bN,aK,aJ,fw,rfl,BN,hf,hw,hI⟩;have hxx:fp Hx ox (-1) x zs:=hx.fr hf (by simp)
  have hwj:IntKind.i64.wrap ((j:Int)+1)=((j+1:Nat):Int):=by rw[kr (by omega)];omega
  have hIe:Inv wz Lx 211 1680:=⟨by have:=hI.len;omega,hI.lists,λi hi=>by have:=hI.tape i hi;omega⟩
  have kN: ∀(x8 bN aK aJ fw:Value) {Hy:aa} {oy:aj} {thy:uL} {Ly:List hP},j<70→Fr Hx ox Hy oy wt→WR Hy oy xp mp thy Ly→Inv thy Ly (1+3*j+3) (24*j+24)→Ev (λn=>yC (run G n) n [cv c,cv 3,ax,x,x8,pv xp,cv j,bN,aK,aJ,fw] Hy) λr=>(r.1= .normal∧∃k',k'<kk∧∃(j:Nat) (ox:aj) (wz:uL) (Lx:List hP) (x8 bN aK aJ fw:Value),r.2.1=[cv c,cv 3,ax,x,x8,pv xp,cv j,bN,aK,aJ,fw]∧j+k'=70∧Fr H1 o r.2.2 ox wt∧WR r.2.2 ox xp mp wz Lx∧Inv wz Lx (1+3*j) (24*j))∨(r.1≠ .normal∧r.1= .exit 0∧∃(ox:aj) (wz:uL) (Lx:List hP) (x8 aN bN aK aJ fw:Value),r.2.1=[cv c,cv 3,ax,x,x8,pv xp,aN,bN,aK,aJ,fw]∧Fr H1 o r.2.2 ox wt∧WR r.2.2 ox xp mp wz Lx∧Inv wz Lx 211 1680):=by
   intro x8 bN aK aJ fw Hy oy thy Ly T6 a1 a2 a3;simp -implicitDefEqProofs only[Ok,CX,hwj,sS,Nat.reduceAdd];exact Ev.ret (.inl ⟨rfl,kk-1,by omega,j+1,oy,thy,Ly,_,_,_,_,_,rfl,by omega,hf.trans a1 (λ_ h=>h) (λ_ h=>h),a2,⟨by have:=a3.len;omega,a3.lists,λi hi=>by have:=a3.tape i hi;omega⟩⟩)
  simp -implicitDefEqProofs only[Om,CY,hxx.1.len,sS,Nat.reduceAdd];refine Ev.lss (λhq=>?_) (λhq=>?_)<;>try simp -implicitDefEqProofs only[sS,Nat.reduceAdd]
  rotate_left
  ·exact Ev.ret (.inr ⟨by simp,rfl,ox,wz,Lx,_,_,_,_,_,_,rfl,hf,hw,hIe⟩)
  refine Ev.lss (λpT=>?_) (λpT=>?_)<;>try simp -implicitDefEqProofs only[sS,Nat.reduceAdd]
  rotate_left
  ·exact Ev.ret (.inr ⟨by simp,rfl,ox,wz,Lx,_,_,_,_,_,_,rfl,hf,hw,hIe⟩)
  have T6:j<70:=by omega
  obtain⟨qi,off,b,e1,e2,e3⟩:=hxx.1.idx (j:=j) (by omega)
  have e4:aq (.pointer (some ⟨qi,off,none⟩)) Hx=some (cv (zs.getD j 0)):=(ak qi off Hx e2).trans e3;simp -implicitDefEqProofs only[e1,e4,sS,Nat.reduceAdd];refine Ev.call (ka _ 3 (by omega)) ?_
  rintro v H5 ⟨t,rfl,ZL,uJ,rfl⟩;obtain⟨ti,rfl⟩: ∃k:Nat,t=k:=⟨t.toNat,by omega⟩
  have XZ:ti<3:=by omega
  simp -implicitDefEqProofs only[YS,sS,Nat.reduceAdd];refine Ev.call (ka _ 3 (by omega)) ?_
  rintro v H5 ⟨y,rfl,_,_,rfl⟩;obtain⟨tb,cap,inv,eO,i3,i4,i6,i7,iT,_⟩:=hw.oR;obtain⟨iT1,iT2⟩:=iT ti XZ;obtain⟨no,d1,d7,d8⟩:=hw.YK XZ;have I3: ∀(x8 bN aK fw:Value) (a:Int),Ev (λn=>af (run G n 23 [cv a] H5) λjh Hy=>af (run G n 22 [pv xp,cv ti,jh] Hy) λ_ Hy=>yC (run G n) n [cv c,cv 3,ax,x,x8,pv xp,cv j,bN,aK,cv ti,fw] Hy) λr=>(r.1= .normal∧∃k',k'<kk∧∃(j:Nat) (ox:aj) (wz:uL) (Lx:List hP) (x8 bN aK aJ fw:Value),r.2.1=[cv c,cv 3,ax,x,x8,pv xp,cv j,bN,aK,aJ,fw]∧j+k'=70∧Fr H1 o r.2.2 ox wt∧WR r.2.2 ox xp mp wz Lx∧Inv wz Lx (1+3*j) (24*j))∨(r.1≠ .normal∧r.1= .exit 0∧∃(ox:aj) (wz:uL) (Lx:List hP) (x8 aN bN aK aJ fw:Value),r.2.1=[cv c,cv 3,ax,x,x8,pv xp,aN,bN,aK,aJ,fw]∧Fr H1 o r.2.2 ox wt∧WR r.2.2 ox xp mp wz Lx∧Inv wz Lx 211 1680):=by
   intro x8 bN aK fw a;refine Ev.call (abE a) ?_;rintro v H6 ⟨op,rfl,ex⟩;have f6:Fr H5 ox H6 (ox.from H5.length (-9)) []:=ex.fr ox (-9)
   have h6:=hw.DR f6 (by simp)
   refine Ev.call (PM h6 XZ hI (by omega) op) ?_
   rintro v H7 ⟨o7,th7,L7,f7,h7,Mg⟩;exact kN _ _ _ _ _ T6 (f6.trans f7 (by simp) (λ_ h=>h)) h7 ⟨Mg.len,Mg.lists,λi hi=>by have:=Mg.tape i hi;omega⟩
  refine Ev.gtr (λhq3=>?_) (λhq3=>?_)<;>try simp -implicitDefEqProofs only[i4,iT1,iT2,d1,sS,Nat.reduceAdd]
  ·cases hb:(wz ti).busy<;>simp -implicitDefEqProofs only[YS,sS,Nat.reduceAdd]
   ·exact I3 _ _ _ _ _
   ·refine Ev.call (ka _ 24 (by omega)) ?_
    rintro v H6 ⟨u,rfl,Uw,MG,rfl⟩;have hwu:IntKind.i64.wrap (1+u)=1+u:=kr (by omega)
    simp -implicitDefEqProofs only[hwu,abA,sS,Nat.reduceAdd];refine Ev.call (abB hw XZ hI (by omega) (by omega) (k:=1+u) (by omega)) ?_
    rintro v H7 ⟨o7,th7,L7,f7,h7,Mg⟩;exact kN _ _ _ _ _ T6 f7 h7 ⟨by have:=Mg.len;omega,Mg.lists,Mg.tape⟩
  ·try simp -implicitDefEqProofs only[YS,sS,Nat.reduceAdd]
   exact I3 _ _ _ _ _
 ·rintro e vs Hx ⟨he,ox,wz,Lx,x8,aN,bN,aK,aJ,fw,rfl,hf,hw,hI⟩;simp only at he;subst he;simp -implicitDefEqProofs only[Oo,CZ,sS,Nat.reduceAdd];exact Ev.ret ⟨xp,mp,ox,wz,Lx,rfl,hf,hw,hI⟩
end
theorem I4 {cs:List Value}{H:aa}{o:aj}{q2:Int}: ∀(L:List hP) (off:Nat),(∀j e,L[j]? =some e→∃s,(cs.drop (off+13*j)).take 13=aM e s∧gE H o q2 s e.res.list)→
  ∃zs:List (hP×Value),L=zs.map (λz=>z.1)∧(cs.drop off).take (13*L.length)=iP zs∧∀z∈zs,gE H o q2 z.2 z.1.res.list
 | [],off,_=>⟨[],rfl,by simp[iP],λz hz=>by cases hz⟩
 |e::L,off,h=>by
  obtain⟨s,h1,h2⟩:=h 0 e rfl;obtain⟨zs,rfl,h3,h4⟩:=I4 L (off+13) (λj e' he=>by
   obtain⟨s',g1,g2⟩:=h (j+1) e' (by simpa using he)
   exact⟨s',by rw[show off+13+13*j=off+13*(j+1) by omega];exact g1,g2⟩)
  refine⟨(e,s)::zs,rfl,?_,λz hz=>(List.mem_cons.1 hz).elim (λe'=>e'▸h2) (h4 z)⟩
  rw[Nat.mul_zero,Nat.add_zero] at h1;simp only[List.length_cons,iP];rw[show 13*((zs.map λz=>z.1).length+1)=13+13*(zs.map λz=>z.1).length by omega,List.take_add,h1,List.drop_drop,h3]
theorem Uj (H:aa):au Tryz.prog 23 0 [] H=some (.slice (some ⟨H.length,0,none⟩) 0 0,H.new ⟨[],47,13,false⟩):=by kernel_rfl
section
variable {H H':aa} {o o':aj} {q q2:Int} {x:Value} {L:List hP}
theorem oP.cut (h:oP H o q q2 x L){m n:Nat}(hm:m≤n)(hn:n≤L.length){lo hi:Option Value}(z4:cV 0 lo=some (m:Int))(z5:cV L.length hi=some (n:Int)):
  ∃y,eo 13 H x lo hi=some y∧oP H o q q2 y ((L.take n).drop m):=by
 rcases h with⟨rfl,rfl⟩|⟨i,off,rfl,rfl⟩|⟨i,off,c,b,rfl,h1,h2,h3,h4,h5,h6⟩
 ·have e1:n=0:=by simpa using hn
  subst e1;have e2:m=0:=by omega
  subst e2;have Ct:cV 0 hi=some 0:=z5;have Cu:cV 0 lo=some 0:=z4;exact⟨.slice none 0 0,by simp[eo,Cu,Ct],.inl ⟨rfl,rfl⟩⟩
 ·have e1:n=0:=by simpa using hn
  subst e1;have e2:m=0:=by omega
  subst e2;have Ct:cV 0 hi=some 0:=z5;have Cu:cV 0 lo=some 0:=z4;refine⟨.slice (some ⟨i,off,none⟩) 0 0,?_,.inr (.inl ⟨i,off,rfl,rfl⟩)⟩;cases hb:H.get i with
  |none=>simp[eo,hb,Cu,Ct]
  |some b=>simp[eo,hb,Cu,Ct]
 ·refine⟨.slice (some ⟨i,off+m*13,none⟩) (n-m) (c-m),?_,.inr (.inr ⟨i,off+m*13,c-m,b,?_,?_,h2,h3,h4,?_,λj e he=>?_⟩)⟩
  ·simp only[eo,z4,z5];rw[if_pos (by omega)]
   simp only[h2,h3,if_true,Int.toNat_natCast]
  ·simp;omega
  ·simp;omega
  ·simp;omega
  ·have hj:L[m+j]? =some e:=by
    rw[List.getElem?_drop,List.getElem?_take] at he;split at he
    ·exact he
    ·cases he
   obtain⟨s,g1,g2⟩:=h6 (m+j) e hj;exact⟨s,by rw[show off+m*13+13*j=off+13*(m+j) by omega];exact g1,g2⟩
theorem oP.src (h:oP H o q q2 x L): ∃(a:Option Addr) (c:Nat) (zs:List (hP×Value)),x= .slice a L.length c∧bq H 13 L.length x=some (Fun.iP zs)∧L=zs.map (λz=>z.1)∧∀z∈zs,gE H o q2 z.2 z.1.res.list:=by
 rcases h with⟨rfl,rfl⟩|⟨i,off,rfl,rfl⟩|⟨i,off,c,b,rfl,h1,h2,h3,h4,h5,h6⟩
 ·exact⟨_,_,[],rfl,rfl,rfl,λz hz=>by cases hz⟩
 ·exact⟨_,_,[],rfl,rfl,rfl,λz hz=>by cases hz⟩
 ·obtain⟨zs,e1,e2,e3⟩:=I4 L off h6;refine⟨_,_,zs,rfl,?_,e1,e3⟩;by_cases h0:L.length=0
  ·have:L=[]:=List.length_eq_zero_iff.1 h0;subst this;have:zs=[]:=by simpa using e1.symm
   subst this;rfl
  ·simp only[bq,h0,if_false,aw,h2];rw[if_pos (by omega),show L.length*13=13*L.length by omega,e2]
theorem Fz {H:aa}{o:aj}{q2:Int}: ∀zs:List (hP×Value),(∀z∈zs,gE H o q2 z.2 z.1.res.list)→(Fun.iP zs).all av=true
 | [],_=>rfl
 |z::zs,h=>by
  obtain⟨a,c,e⟩:=(h z (List.mem_cons_self ..)).isSlice;simp only[Fun.iP,List.all_append,Fz zs (λy hy=>h y (List.mem_cons_of_mem _ hy)),Bool.and_true]
  exact DC z _ _ _ e
theorem iW.DL {y:Value}{zs:List (hP×Value)}{a:Option Addr}{c:Nat}{tE:TypeId}(h:iW H o q q2 x L)(hy:y= .slice a zs.length c)(vD:bq H 13 zs.length y=some (Fun.iP zs))(hz: ∀z∈zs,gE H o q2 z.2 z.1.res.list)(hq:q2≠q)(hl:L.length+zs.length<4294967295):
  ∃x' H' o',cg tE 13 120 x y H=some (x',H')∧iW H' o' q q2 x' (L++zs.map λz=>z.1)∧Fr H o H' o' [q]:=by
 subst hy;have jF:=Fz zs hz;by_cases Y6:zs.length=0
 ·have:zs=[]:=List.length_eq_zero_iff.1 Y6;subst this;refine⟨x,H,o,?_,by simpa using h,Fr.refl _ _ _⟩
  rcases h with⟨rfl,rfl⟩|⟨i,cap,rest,ty,es,rfl,h2,rfl,h4,h5,h6⟩
  ·have wK:bq H 13 0 (.slice a 0 c)=some []:=vD;simp[cg,wK]
  ·simp only[cg,vD,Option.map_some];rw[if_pos (by simp;simp at h4;omega)]
   simp
 rcases h with⟨rfl,rfl⟩|⟨i,cap,rest,ty,es,rfl,h2,rfl,h4,h5,h6⟩
 ·have f:Fr H o (H.new ⟨Fun.iP zs,tE,13,false⟩) (o.up H.length q) [q]:=(Fr.refl _ _ _).new _ _;refine⟨.slice (some ⟨H.length,0,none⟩) zs.length zs.length,H.new ⟨Fun.iP zs,tE,13,false⟩,o.up H.length q,?_,.inr ⟨H.length,zs.length,[],tE,zs,by simp,by rw[ay];simp,by simp,by simp,aH,λz FP=>(hz z FP).fr f (by simpa using hq)⟩,f⟩
  simp only[cg,vD,Option.map_some];rw[if_neg (by omega),if_pos (by simp at hl;simp;omega)]
  simp
 ·have JB:=an h2;have Mw:=nY es;have abO:=nY zs;simp only[List.length_map] at h4 hl ⊢;by_cases ig:es.length+zs.length≤cap
  ·have MD:bB (Fun.iP es++rest) (13*es.length) (Fun.iP zs)=Fun.iP (es++zs)++rest.drop (13*zs.length):=by
    have h9:=jf (Fun.iP zs) (Fun.iP es) rest (by omega)
    rw[Mw] at h9;rw[h9,nZ,abO]
   have kW:bl H i (0+es.length*13) (Fun.iP zs)=some (H.put i ⟨Fun.iP (es++zs)++rest.drop (13*zs.length),ty,13,false⟩):=by
    simp only[bl,h2,jF];rw[if_pos (by simp[Mw,abO];omega),show 0+es.length*13=13*es.length by omega,MD]
   have f:Fr H o (H.put i ⟨Fun.iP (es++zs)++rest.drop (13*zs.length),ty,13,false⟩) o [q]:=(Fr.refl _ _ _).put λ_=>by simp[h5]
   refine⟨.slice (some ⟨i,0,none⟩) (es.length+zs.length) cap,_,o,?_,.inr ⟨i,cap,rest.drop (13*zs.length),ty,es++zs,by simp,aD h2,by simp,by simp;omega,h5,λz FP=>?_⟩,f⟩
   ·simp only[cg,vD,Option.map_some];rw[if_pos ig,if_neg Y6];simp only[h2,if_true,kW,Option.map_some]
   ·rcases List.mem_append.1 FP with FP|FP
    ·exact(h6 z FP).fr f (by simpa using hq)
    ·exact(hz z FP).fr f (by simpa using hq)
  ·have hold:aw H i 0 (es.length*13)=some (Fun.iP es):=by
    simp only[aw,h2];rw[if_pos (by simp[Mw];omega),List.drop_zero,List.take_left' (by omega)]
   have f:Fr H o ((H.kill i).new ⟨Fun.iP es++Fun.iP zs,tE,13,false⟩) (o.up H.length q) [q]:=by
    have:=((Fr.refl H o [q]).kill (i:=i) (λ_=>by simp[h5])).new ⟨Fun.iP es++Fun.iP zs,tE,13,false⟩ q
    rw[dh] at this;exact this
   refine⟨.slice (some ⟨H.length,0,none⟩) (es.length+zs.length) (es.length+zs.length),_,o.up H.length q,?_,.inr ⟨H.length,es.length+zs.length,[],tE,es++zs,by simp,?_,by simp,by simp,aH,λz FP=>?_⟩,f⟩
   ·simp only[cg,vD,Option.map_some];rw[if_neg ig,if_pos (by simp;omega)]
    simp only[h2];rw[if_pos (by simp[Mw];omega)]
    simp only[hold]
   ·have:=ay (H:=H.kill i) (c:=⟨Fun.iP es++Fun.iP zs,tE,13,false⟩)
    rw[dh] at this;rw[nZ];simpa using this
   ·rcases List.mem_append.1 FP with FP|FP
    ·exact(h6 z FP).fr f (by simpa using hq)
    ·exact(hz z FP).fr f (by simpa using hq)
theorem Th: ∀{l:List (hP×Value)} {j:Nat} (y:hP×Value) (rest:List Value),j<l.length→bB (Fun.iP l++rest) (13*j) (aM y.1 y.2)=Fun.iP (l.set j y)++rest
 | [],j,y,rest,h=>by simp at h
 |z::l,j,y,rest,h=>by
  have e:z::l=(z::l).take j++(z::l).drop j:=(List.take_append_drop j _).symm;have e1:(z::l).drop j=(z::l)[j]::(z::l).drop (j+1):=List.drop_eq_getElem_cons h;have e2:Fun.iP (z::l)=Fun.iP ((z::l).take j)++(aM ((z::l)[j]).1 ((z::l)[j]).2++Fun.iP ((z::l).drop (j+1))):=by
   rw[←Fun.iP, ←e1, ←nZ, ←e]
  have hl:(Fun.iP ((z::l).take j)).length=13*j:=by rw[nY];simp;simp at h;omega
  have h9:=jf (aM y.1 y.2) (Fun.iP ((z::l).take j)) (aM ((z::l)[j]).1 ((z::l)[j]).2++Fun.iP ((z::l).drop (j+1))++rest) (by simp<;>omega)
  rw[hl] at h9;have e3:(z::l).set j y=(z::l).take j++y::(z::l).drop (j+1):=by
   rw[List.set_eq_take_append_cons_drop,if_pos h]
  rw[e2,List.append_assoc,List.append_assoc, ←List.append_assoc (aM ((z::l)[j]).1 ((z::l)[j]).2),h9,e3,nZ];simp[Fun.iP,List.drop_append]
theorem iW.FA (h:iW H o q q2 x L){j:Nat}(hj:j<L.length)(hq:q2≠q): ∃ptr e' s',(∀H',cq 13 x (cv j) H'=some (ptr,H'))∧cK 13 ptr H=some (Bz e' s')∧L[j]? =some e'∧gE H o q2 s' e'.res.list∧
  ∀(e:hP) (s:Value),gE H o q2 s e.res.list→∃H',bS 13 ptr (Bz e s) H=some (undef,H')∧iW H' o q q2 x (L.set j e)∧Fr H o H' o [q]:=by
 obtain⟨ptr,s0,k1,k2,k3⟩:=h.iP.idx (j:=j) (e:=L[j]) (List.getElem?_eq_getElem hj);refine⟨ptr,L[j],s0,k1,k3,List.getElem?_eq_getElem hj,k2,λe s hs=>?_⟩
 rcases h with⟨rfl,rfl⟩|⟨i,cap,rest,ty,es,rfl,h2,rfl,h4,h5,h6⟩
 ·simp at hj
 ·have Mw:=nY es;simp only[List.length_map] at h4 hj;obtain⟨sa,sc,esl⟩:=hs.isSlice;have hp:ptr= .pointer (some ⟨i,13*j,none⟩):=by
   have a:=k1 [];simp only[cq] at a;rw[if_pos (by constructor<;>simp<;>omega)] at a
   simp only[Option.some.injEq,Prod.mk.injEq,and_true,Nat.zero_add,Int.toNat_natCast] at a;rw[←a,Nat.mul_comm]
  subst hp;have f:Fr H o (H.put i ⟨Fun.iP (es.set j (e,s))++rest,ty,13,false⟩) o [q]:=(Fr.refl _ _ _).put λ_=>by simp[h5]
  refine⟨_,?_,.inr ⟨i,cap,rest,ty,es.set j (e,s),by simp,aD h2,by rw[List.map_set],by simp<;>omega,h5,λz hz=>?_⟩,f⟩
  ·have hk:known (Bz e s)=true:=by rw[esl];rfl
   have ho:=DC (e,s) _ _ _ esl;simp only[bS,bl,h2,hk];have hc:(Bz e s).cells.toList=aM e s:=rfl;have nA:(Bz e s).cells.size=13:=rfl;rw[if_pos (by simp[nA])]
   have ln:(!false&&decide (13*j+(aM e s).length≤(Fun.iP es++rest).length)&&(aM e s).all av)=true:=by
    have hlen:13*j+(aM e s).length≤(Fun.iP es++rest).length:=by
     rw[List.length_append,Mw];show 13*j+13≤_
     omega
    rw[ho];simp only[hlen,decide_true,Bool.not_false,Bool.and_self]
   rw[hc,if_pos ln];simp only[Option.map_some,hc];rw[Th (e,s) rest hj]
  ·rcases List.mem_or_eq_of_mem_set hz with hz|rfl
   ·exact(h6 z hz).fr f (by simpa using hq)
   ·exact hs.fr f (by simpa using hq)
end
end Go.Proofs.YtjgmnoaalbbonaaGreat.Fun
end
