/- Texts of the proof of linearChecks_holds, put together by a small program of ours (names shortened, spaces taken out). No condition beyond the given statement. -/
import Derived.Test.YtjgmnoaalbbonaaGreatLCQ16
import Derived.Test.YtjgmnoaalbbonaaGreatLCQ17
import Derived.Test.YtjgmnoaalbbonaaGreatLCQ19
import Derived.Test.YtjgmnoaalbbonaaGreatLCQ20
import Derived.Test.YtjgmnoaalbbonaaGreatLCQ21
import Derived.Test.YtjgmnoaalbbonaaGreatLCQ22
import Derived.Test.YtjgmnoaalbbonaaGreatLCQ40
import Derived.Test.YtjgmnoaalbbonaaGreatLCQ30
set_option linter.unusedVariables false
set_option linter.unusedSimpArgs false
set_option linter.unnecessarySimpa false
noncomputable section
section
namespace Go.Proofs.YtjgmnoaalbbonaaGreat.Fun
open Go Go.RowKit Go.Proofs.YtjgmnoaalbbonaaGreatA.Am
set_option maxRecDepth 10000
section
variable {G:ag} {H H':ae} {o o':an} {p m c mp f xp:Nat} {K:ae→an→Prop} {q:Int} {x:Value} {l:PL} {n i:Nat} {cs:List Int} {mx c0:Int} {th:wR} {L:List iH} {N M:Nat}
abbrev UK:List Value:=[cv 2,.bool false,cv 0,cv 0,cv 0,.pointer none,cv 0,.bool false,cv 0]
theorem Ud (a:Int):aI Tryz.prog 119 [(0,cv a)]=some (.agg #[cv a,aB,cv 0,cv 0,cv 0]):=by kernel_rfl
theorem Ll (a:Int)(H:ae):cB 119 (.agg #[cv a,aB,cv 0,cv 0,cv 0]) H=some (pv H.length,H.new ⟨[cv a,aB,cv 0,cv 0,cv 0],119,1,false⟩):=by
 simp[cB,Value.cells,aD,aO]
theorem ads (hc:150≤c0∧c0<800):bN (run G) 35 [cv c0] H λv H'=>v= .tuple #[pv H.length,cv 0]∧H'=H.new ⟨[cv c0,aB,cv 0,cv 0,cv 0],119,1,false⟩:=by
 refine Ev.up (t:=λk=>F35 (run G k) k (cv c0) H) ?_ λk=>aab ..
 simp -implicitDefEqProofs only[F35,Ud,Ll,sS,Nat.reduceAdd];refine Ev.lss (λhq=>?_) (λhq=>?_)<;>try simp -implicitDefEqProofs only[Ud,Ll,sS,Nat.reduceAdd]
 ·omega
 refine Ev.gtr (λhq=>?_) (λhq=>?_)<;>try simp -implicitDefEqProofs only[Ud,Ll,sS,Nat.reduceAdd]
 ·omega
 exact Ev.ret ⟨rfl,rfl⟩
theorem adt (a b c:Int)(H:ae):cB 33 (.agg #[cv a,cv b,cv c]) H=some (pv H.length,H.new ⟨[cv a,cv b,cv c],33,1,false⟩):=by
 simp[cB,Value.cells,aD,aO]
theorem afT (a b c:Int)(k:Nat):aI Tryz.prog 37 [(0,.agg #[cv a,cv b,cv c]),(1,pv k)]=some (.agg #[cv a,cv b,cv c,pv k,aB,aB,cv 0,cv 0]):=by kernel_rfl
theorem adu (a b c:Int)(k:Nat)(H:ae):cB 37 (.agg #[cv a,cv b,cv c,pv k,aB,aB,cv 0,cv 0]) H=some (pv H.length,H.new ⟨[cv a,cv b,cv c,pv k,aB,aB,cv 0,cv 0],37,1,false⟩):=by
 simp[cB,Value.cells,aD,aO]
theorem ahW:aI Tryz.prog 72 [(0,cv 2)]=some (.agg UK.toArray):=by kernel_rfl
theorem afU (H:ae):cB 72 (.agg UK.toArray) H=some (pv H.length,H.new ⟨UK,72,1,false⟩):=by
 simp[cB,Value.cells,aD,aO]
theorem ahX (k:Nat)(H:ae):aw Tryz.prog 35 1 [(0,pv k)] H=some (.slice (some ⟨H.length,0,none⟩) 1 1,H.new ⟨[pv k],73,1,false⟩):=by kernel_rfl
structure NI (H:ae) (o:an) (b0 xp mp:Nat) (c0:Int) (tl:List Nat) (Ts:Value):Prop where
 cfg:Cl b0 [cv c0,cv 3,cv 2] 33 H o
 idx:H.get xp=some ⟨[cv c0,cv 3,cv 2,pv mp,Ts,aB,cv 0,cv 0],37,1,false⟩∧o xp= -80
 mem:vI H o mp c0 m7
 ts:(Ts=aB∧tl=[])∨∃tb ty,Ts= .slice (some ⟨tb,0,none⟩) tl.length tl.length∧H.get tb=some ⟨tl.map pv,ty,1,false⟩∧o tb= -81
 th: ∀(i t:Nat),tl[i]? =some t→H.get t=some ⟨UK,72,1,false⟩∧o t= -200-i
theorem NI.grow {b0:Nat}{tl:List Nat}{Ts:Value}(h:NI H o b0 xp mp c0 tl Ts)(hj:tl.length<3): ∃Ue H2 H3 o3,jd Ts Ts=true∧
  au (.pointer (some ⟨xp,4,none⟩)) H=some Ts∧au (.pointer (some ⟨xp,4,none⟩)) (H.new ⟨UK,72,1,false⟩)=some Ts∧au (.pointer (some ⟨xp,4,none⟩)) ((H.new ⟨UK,72,1,false⟩).new ⟨[pv H.length],73,1,false⟩)=some Ts∧
  cd 73 1 8 Ts (.slice (some ⟨(H.new ⟨UK,72,1,false⟩).length,0,none⟩) 1 1) ((H.new ⟨UK,72,1,false⟩).new ⟨[pv H.length],73,1,false⟩)=some (Ue,H2)∧
  bS 1 (.pointer (some ⟨xp,4,none⟩)) Ue H2=some (undef,H3)∧NI H3 o3 b0 xp mp c0 (tl++[H.length]) Ue∧Fr H o H3 o3 [-80, -81]:=by
 obtain⟨adv,⟨gx,hox⟩,hm,hts,qu⟩:=h;obtain⟨H1,iI⟩: ∃z,z=H.new ⟨UK,72,1,false⟩:=⟨_,rfl⟩;have l1:H1.length=H.length+1:=by rw[iI,bh]
 obtain⟨vJ,P5⟩: ∃z,z=H1.new ⟨[pv H.length],73,1,false⟩:=⟨_,rfl⟩;have l1b:vJ.length=H.length+2:=by rw[P5,bh,l1]
 rw[←iI, ←P5];obtain⟨oA,UJ⟩: ∃z,z=(o.up H.length (-200-(tl.length:Int))).up H1.length (-9):=⟨_,rfl⟩;have f1:Fr H o vJ oA []:=by
  rw[P5,UJ];have a:Fr H o H1 (o.up H.length (-200-(tl.length:Int))) []:=by rw[iI];exact(Fr.refl _ _ _).new _ _
  exact a.new _ _
 have YM:H1.get xp=some ⟨[cv c0,cv 3,cv 2,pv mp,Ts,aB,cv 0,cv 0],37,1,false⟩:=by rw[iI,cr (aq gx)];exact gx
 have Uf:vJ.get xp=some ⟨[cv c0,cv 3,cv 2,pv mp,Ts,aB,cv 0,cv 0],37,1,false⟩:=by rw[P5,cr (aq YM)];exact YM
 have afV:oA xp= -80:=by rw[f1.own xp (aq gx)];exact hox
 have adw:vJ.get H.length=some ⟨UK,72,1,false⟩:=by rw[P5,cr (by omega),iI];exact az
 have mZ:oA H.length= -200-(tl.length:Int):=by rw[UJ,dc (by omega)];exact aQ
 have ahY:vJ.get H1.length=some ⟨[pv H.length],73,1,false⟩:=by rw[P5];exact az
 have DC:jd Ts Ts=true:=by
  rcases hts with⟨rfl,_⟩|⟨tb,ty,rfl,_⟩<;>exact jX ..
 have yg:bp vJ 1 1 (.slice (some ⟨H1.length,0,none⟩) 1 1)=some [pv H.length]:=by simp[bp,aA,ahY]
 obtain⟨Ue,H2,YN,EU,ha,e',g',fr2⟩: ∃Ue H2 YN EU,cd 73 1 8 Ts (.slice (some ⟨H1.length,0,none⟩) 1 1) vJ=some (Ue,H2)∧Ue= .slice (some ⟨YN,0,none⟩) (tl++[H.length]).length (tl++[H.length]).length∧H2.get YN=some ⟨(tl++[H.length]).map pv,EU,1,false⟩∧YN=vJ.length∧Fr vJ oA H2 (oA.up vJ.length (-81)) [-81]:=by
  rcases hts with⟨rfl,rfl⟩|⟨tb,ty,rfl,gt,ahZ⟩
  ·refine⟨_,vJ.new ⟨[pv H.length],73,1,false⟩,vJ.length,73,?_,rfl,az,rfl,(Fr.refl _ _ _).new _ _⟩;simp[cd,yg]
  ·have gtb:vJ.get tb=some ⟨tl.map pv,ty,1,false⟩:=by rw[f1.same tb (aq gt) (by simp)];exact gt
   have hoA:oA tb= -81:=by rw[f1.own tb (aq gt)];exact ahZ
   have fk:Fr vJ oA ((vJ.kill tb).new ⟨tl.map pv++[pv H.length],73,1,false⟩) (oA.up vJ.length (-81)) [-81]:=by
    have:=((Fr.refl vJ oA [-81]).kill (i:=tb) (λ_=>by simp[hoA])).new ⟨tl.map pv++[pv H.length],73,1,false⟩ (-81)
    rw[dt] at this;exact this
   have ld:aA vJ tb 0 (tl.length*1)=some (tl.map pv):=by
    simp only[aA,gtb];rw[if_pos (by simp)]
    simp only[List.drop_zero,Nat.mul_one,Option.some.injEq];exact List.take_of_length_le (by simp)
   refine⟨.slice (some ⟨vJ.length,0,none⟩) (tl.length+1) (tl.length+1),(vJ.kill tb).new ⟨tl.map pv++[pv H.length],73,1,false⟩,vJ.length,73,?_,by simp,?_,rfl,fk⟩
   ·simp only[cd,yg,Option.map_some];rw[if_neg (by omega),if_pos (by simp;omega)]
    simp only[gtb];rw[if_pos (by simp)]
    simp only[ld]
   ·have:=az (H:=vJ.kill tb) (c:=⟨tl.map pv++[pv H.length],73,1,false⟩)
    rw[dt] at this;rw[this];simp
 obtain⟨g',fr2⟩:=fr2;have hoB:(oA.up vJ.length (-81)) xp= -80:=by rw[fr2.own xp (aq Uf)];exact afV
 have gx2:H2.get xp=some ⟨[cv c0,cv 3,cv 2,pv mp,Ts,aB,cv 0,cv 0],37,1,false⟩:=by rw[fr2.same xp (aq Uf) (by rw[afV];simp)];exact Uf
 have S:=zO xp 4 (some ⟨YN,0,none⟩) (tl++[H.length]).length (tl++[H.length]).length H2 gx2 rfl (by simp)
 rw[←e'] at S;simp only[List.set_cons_succ,List.set_cons_zero] at S;obtain⟨H3,pX⟩: ∃z,z=H2.put xp ⟨[cv c0,cv 3,cv 2,pv mp,Ue,aB,cv 0,cv 0],37,1,false⟩:=⟨_,rfl⟩;rw[←pX] at S;have f3:Fr H2 (oA.up vJ.length (-81)) H3 (oA.up vJ.length (-81)) [-80]:=by rw[pX];exact(Fr.refl _ _ _).put λ_=>by simp[hoB]
 have fA:Fr H o H3 (oA.up vJ.length (-81)) [-80, -81]:=(f1.trans fr2 (rs:=[-80, -81]) (by simp) (by simp)).trans f3 (by simp) (by simp)
 have fB:Fr vJ oA H3 (oA.up vJ.length (-81)) [-80, -81]:=fr2.trans f3 (by simp) (by simp)
 have hxt:xp≠YN:=by have:=aq Uf;omega
 refine⟨Ue,H2,H3,_,DC,ak xp 4 H gx,ak xp 4 H1 YM,ak xp 4 vJ Uf,ha,S,⟨adv.fr fA (by simp),⟨by rw[pX];exact aH gx2,hoB⟩,hm.fr fA (by simp) (by simp),.inr ⟨YN,EU,e',?_,by rw[g'];exact aQ⟩,λj t ht=>?_⟩,fA⟩
 ·rw[pX,bt (Ne.symm hxt)];assumption
 ·rcases Nat.lt_or_ge j tl.length with g|g
  ·rw[List.getElem?_append_left g] at ht;obtain⟨a1,a2⟩:=qu j t ht;exact⟨by rw[fA.same t (aq a1) (by rw[a2];simp<;>omega)];exact a1,by rw[fA.own t (aq a1)];exact a2⟩
  ·rw[List.getElem?_append_right g] at ht;have Co:j=tl.length:=by
    rcases Nat.lt_or_ge tl.length j with g2|g2
    ·rw[List.getElem?_eq_none (by simp;omega)] at ht;cases ht
    ·omega
   subst Co;have:H.length=t:=by simpa using ht
   subst this;exact⟨by rw[fB.same H.length (aq adw) (by rw[mZ];simp<;>omega)];exact adw,by rw[fB.own H.length (aq adw)];exact mZ⟩
theorem adx (hc:150≤c0∧c0<800)(H:ae)(o:an):bN (run G) 17 [.agg #[cv c0,cv 3,cv 2]] H λv H'=>∃xp mp o' th,v= .tuple #[pv xp,cv 0]∧Fr H o H' o' wt∧WR H' o' xp mp th []∧vI H' o' mp c0 m7∧∀i,i<3→th i=⟨(th i).ti,false,false,[]⟩:=by
 refine Ev.up (t:=λk=>F17 (run G k) k (.agg #[cv c0,cv 3,cv 2]) H) ?_ λk=>aau ..
 obtain⟨H1,iI⟩: ∃z,z=H.new ⟨[cv c0,cv 3,cv 2],33,1,false⟩:=⟨_,rfl⟩;have bx:=adt c0 3 2 H;rw[←iI] at bx;have l1:H1.length=H.length+1:=by rw[iI,bh]
 have g1:H1.get H.length=some ⟨[cv c0,cv 3,cv 2],33,1,false⟩:=by rw[iI];exact az
 have L0:au (pv H.length) H1=some (cv c0):=ak _ 0 H1 g1;have L1:au (.pointer (some ⟨H.length,1,none⟩)) H1=some (cv 3):=ak _ 1 H1 g1;have L2:au (.pointer (some ⟨H.length,2,none⟩)) H1=some (cv 2):=ak _ 2 H1 g1;simp -implicitDefEqProofs only[F17,bx,L0,L1,L2,Nat.add_zero,sS,Nat.reduceAdd];refine Ev.lss (λhq=>?_) (λhq=>?_)<;>try simp -implicitDefEqProofs only[L0,L1,L2,Nat.add_zero,sS,Nat.reduceAdd]
 ·omega
 refine Ev.gtr (λhq=>?_) (λhq=>?_)<;>try simp -implicitDefEqProofs only[L0,L1,L2,Nat.add_zero,sS,Nat.reduceAdd]
 ·omega
 refine Ev.lss (λhq=>?_) (λhq=>?_)<;>try simp -implicitDefEqProofs only[L0,L1,L2,Nat.add_zero,sS,Nat.reduceAdd]
 ·omega
 refine Ev.gtr (λhq=>?_) (λhq=>?_)<;>try simp -implicitDefEqProofs only[L0,L1,L2,Nat.add_zero,sS,Nat.reduceAdd]
 ·omega
 refine Ev.lss (λhq=>?_) (λhq=>?_)<;>try simp -implicitDefEqProofs only[L0,L1,L2,Nat.add_zero,sS,Nat.reduceAdd]
 ·omega
 refine Ev.gtr (λhq=>?_) (λhq=>?_)<;>try simp -implicitDefEqProofs only[L0,L1,L2,Nat.add_zero,sS,Nat.reduceAdd]
 ·omega
 refine Ev.call (ads hc) ?_;rintro v H2 ⟨rfl,jt⟩;have l2:H2.length=H.length+2:=by rw[jt,bh,l1]
 obtain⟨oA,UJ⟩: ∃z,z=(o.up H.length (-9)).up H1.length (-70):=⟨_,rfl⟩;have f1:Fr H o H1 (o.up H.length (-9)) []:=by rw[iI];exact(Fr.refl _ _ _).new _ _
 have f2:Fr H o H2 oA []:=by rw[jt,UJ];exact f1.new _ _
 have adv:Cl H.length [cv c0,cv 3,cv 2] 33 H2 oA:=⟨by rw[jt,cr (by omega)];exact g1,by rw[UJ,dc (by omega)];exact aQ⟩
 have GI:vI H2 oA H1.length c0 []:=⟨0,0,0,aB,119,by rw[jt];exact az,by rw[UJ];exact aQ,.inl ⟨rfl,rfl⟩,by simp;omega,by omega⟩
 have Jf:JM (λH' o'=>Fr H2 oA H' o' [-70, -71]) H1.length c0 [] H2:=⟨cW.base (by simp),oA,GI,Fr.refl _ _ _⟩
 simp -implicitDefEqProofs only[sS,Nat.reduceAdd];refine Ev.call (T7 Jf (by omega)) ?_
 rintro v H3 ⟨_,o3,QK,f3⟩;have YU:=adv.fr f3 (by simp)
 have LC:bV 3 (pv H.length) H3=some (.agg #[cv c0,cv 3,cv 2]):=by simp[bV,aA,YU.1]
 obtain⟨H4,qt⟩: ∃z,z=H3.new ⟨[cv c0,cv 3,cv 2,pv H1.length,aB,aB,cv 0,cv 0],37,1,false⟩:=⟨_,rfl⟩;have bI:=adu c0 3 2 H1.length H3;rw[←qt] at bI;have f4:Fr H3 o3 H4 (o3.up H3.length (-80)) []:=by rw[qt];exact(Fr.refl _ _ _).new _ _
 have fA4:Fr H o H4 (o3.up H3.length (-80)) wt:=(f2.trans f3 (rs:=wt) (by simp) (by simp)).trans f4 (λ_ h=>h) (by simp)
 have n4:NI H4 (o3.up H3.length (-80)) H.length H3.length H1.length c0 [] aB:=⟨YU.fr f4 (by simp),⟨by rw[qt];exact az,aQ⟩,QK.fr f4 (by simp) (by simp),.inl ⟨rfl,rfl⟩,λi t ht=>by simp at ht⟩
 simp -implicitDefEqProofs only[LC,afT,bI,sS,Nat.reduceAdd];refine Ev.loop (k:=3) (λkk vs Hx=>∃(tl:List Nat) (Ts:Value) (ox:an) (x0 x2 x3 bW x4 dX:Value),vs=[x0,x2,x3,pv H.length,bW,x4,cv (tl.length:Nat),dX,pv H3.length]∧tl.length+kk=3∧NI Hx ox H.length H3.length H1.length c0 tl Ts∧Fr H o Hx ox wt)
  (λr=>r.1= .exit 0∧∃(tl:List Nat) (Ts:Value) (ox:an) (x0 x2 x3 bW x4 x7 dX:Value),r.2.1=[x0,x2,x3,pv H.length,bW,x4,x7,dX,pv H3.length]∧tl.length=3∧NI r.2.2 ox H.length H3.length H1.length c0 tl Ts∧Fr H o r.2.2 ox wt) ⟨[],aB,_,_,_,_,_,_,_,rfl,rfl,n4,fA4⟩ ?_ ?_
 ·rintro kk vs Hx ⟨tl,Ts,ox,x0,x2,x3,bW,x4,dX,rfl,YH,hn,hf⟩;have K1:au (.pointer (some ⟨H.length,1,none⟩)) Hx=some (cv 3):=ak _ 1 Hx hn.cfg.1;have K2:au (.pointer (some ⟨H.length,2,none⟩)) Hx=some (cv 2):=ak _ 2 Hx hn.cfg.1;have hw:IntKind.i64.wrap ((tl.length:Int)+1)=((tl.length+1:Nat):Int):=by rw[jE (by omega)];omega
  simp -implicitDefEqProofs only[RO,Fx,K1,sS,Nat.reduceAdd];refine Ev.lss (λhq=>?_) (λhq=>?_)<;>try simp -implicitDefEqProofs only[sS,Nat.reduceAdd]
  ·obtain⟨Ue,H5,H6,o6,e0,e1,e2,e3,e4,e5,hn6,f6⟩:=hn.grow (by omega)
   simp -implicitDefEqProofs only[e1,K2,ahW,afU,ahX,e2,e3,e4,e5,e0,hw,sS,Nat.reduceAdd];exact Ev.ret (.inl ⟨rfl,kk-1,by omega,tl++[Hx.length],Ue,o6,x0,x2,x3,bW,x4,.bool true,by simp,by simp;omega,hn6,hf.trans f6 (λ_ h=>h) (by simp)⟩)
  ·exact Ev.ret (.inr ⟨by simp,rfl,tl,Ts,ox,_,_,_,_,_,_,_,rfl,by omega,hn,hf⟩)
 ·rintro e vs Hx ⟨he,tl,Ts,ox,x0,x2,x3,bW,x4,x7,dX,rfl,YH,hn,hf⟩;simp only at he;subst he;simp -implicitDefEqProofs only[RQ,Fy,sS,Nat.reduceAdd];obtain⟨t0,t1,t2,rfl⟩: ∃t0 t1 t2,tl=[t0,t1,t2]:=by
   match tl,YH with
   | [t0,t1,t2],_=>exact⟨t0,t1,t2,rfl⟩
  obtain⟨_,⟨gx,hox⟩,hm,hts,qu⟩:=hn;rcases hts with⟨_,e⟩|⟨tb,ty,rfl,gt,mZ⟩
  ·cases e
  refine Ev.ret ⟨H3.length,H1.length,ox,λi=>⟨if i=0 then t0 else if i=1 then t1 else t2,false,false,[]⟩,rfl,hf,⟨c0,3,2,0,0,c0,tb,3,m7,aB,[],_,ty,gx,hox,gt,mZ,hm,λi hi=>?_,.inl ⟨rfl,rfl⟩⟩,hm,λi hi=>rfl⟩
  have:i=0∨i=1∨i=2:=by omega
  have key:([t0,t1,t2]:List Nat)[i]? =some (if i=0 then t0 else if i=1 then t1 else t2):=by
   rcases this with rfl|rfl|rfl<;>rfl
  obtain⟨a1,a2⟩:=qu i _ key;exact⟨2,0,0,0,0,0,.pointer none,_,a1,a2,λhb=>by cases hb⟩
theorem afW (a b c:Int):aI Tryz.prog 33 [(0,cv a),(1,cv b),(2,cv c)]=some (.agg #[cv a,cv b,cv c]):=by kernel_rfl
theorem afX (k:Int)(hk:0≤k):bN (run G) 20 [aB,cv k] H λv H'=>v=aB∧H'=H:=by
 refine Ev.up (t:=λn=>F20 (run G n) n aB (cv k) H) ?_ λn=>abR ..
 have Uo:cq aB=some (cv (0:Nat)):=rfl;simp -implicitDefEqProofs only[F20,Uo,sS,Nat.reduceAdd];refine Ev.gtr (λhq=>?_) (λhq=>?_)<;>try simp -implicitDefEqProofs only[sS,Nat.reduceAdd]
 ·simp at hq;omega
 ·exact Ev.ret ⟨rfl,rfl⟩
theorem XT:bN (run G) 19 [aB] H λv H'=>v=aB∧H'=H:=by
 refine Ev.up (t:=λn=>F19 (run G n) n aB H) ?_ λn=>abp ..
 have Uo:cq aB=some (cv (0:Nat)):=rfl;simp -implicitDefEqProofs only[F19,sS,Nat.reduceAdd];refine Ev.loop (k:=0) (λkk vs Hx=>∃x2 aR x5:Value,vs=[aB,x2,cv 0,aR,aB,x5]∧Hx=H) (λr=>r.1= .exit 0∧r.2.2=H∧∃x2 x4 aR x5:Value,r.2.1=[aB,x2,x4,aR,aB,x5]) ⟨_,_,_,rfl,rfl⟩ ?_ ?_
 ·rintro kk vs Hx ⟨x2,aR,x5,rfl,rfl⟩;simp -implicitDefEqProofs only[Sn,FV,Uo,sS,Nat.reduceAdd];refine Ev.lss (λhq=>?_) (λhq=>?_)<;>try simp -implicitDefEqProofs only[sS,Nat.reduceAdd]
  ·simp at hq
  ·exact Ev.ret (.inr ⟨by simp,rfl,rfl,_,_,_,_,rfl⟩)
 ·rintro e vs Hx ⟨he,hx,x2,x4,aR,x5,rfl⟩;simp only at he hx;subst he hx;simp -implicitDefEqProofs only[Sp,FW,sS,Nat.reduceAdd];exact Ev.ret ⟨rfl,rfl⟩
theorem XU (c:Int){x:Value}{zs:List Int}(hx:gj H o (-1) x zs)(hz:zs.length≤maxLen):bN (run G) 10 [cv c,cv 3,aB,x] H λv H'=>∃xp mp o' th L,v=pv xp∧Fr H o H' o' wt∧WR H' o' xp mp th L∧Inv th L 211 1680:=by
 refine Ev.up (t:=λn=>F10 (run G n) n (cv c) (cv 3) aB x H) ?_ λn=>aa2 ..
 simp -implicitDefEqProofs only[F10,sS,Nat.reduceAdd];refine Ev.call (kX c 650 (by omega)) ?_
 rintro v H1 ⟨z,rfl,IT,UP,rfl⟩;have hw0:IntKind.i64.wrap (150+z)=150+z:=jE (by omega)
 simp -implicitDefEqProofs only[hw0,afW,sS,Nat.reduceAdd];refine Ev.call (adx (c0:=150+z) (by omega) H1 o) ?_
 rintro v H2 ⟨xp,mp,o2,th,rfl,f2,h2,GI,qu⟩
 try simp -implicitDefEqProofs only[sS,Nat.reduceAdd]
 refine Ev.call (afX 20 (by omega)) ?_
 rintro v H3 ⟨rfl,rfl⟩;refine Ev.call XT ?_;rintro v H3 ⟨rfl,rfl⟩;have hI0:Inv th [] 0 0:=⟨by rw[qu 0 (by omega),qu 1 (by omega),qu 2 (by omega)];simp[xE],λe he=>by simp at he,λi hi=>by rw[qu i hi];simp⟩
 refine Ev.call (adr h2 GI (by omega) hI0 (by omega)) ?_
 rintro v H4 ⟨o4,L4,f4,h4,hI4⟩;have f24:Fr H1 o H4 o4 wt:=f2.trans f4 (λ_ h=>h) (λ_ h=>h)
 try simp -implicitDefEqProofs only[sS,Nat.reduceAdd]
 refine Ev.loop (k:=70) (λkk vs Hx=>∃(j:Nat) (ox:an) (yY:wR) (Lx:List iH) (x8 bW aP aR fO:Value),vs=[cv c,cv 3,aB,x,x8,pv xp,cv j,bW,aP,aR,fO]∧j+kk=70∧Fr H1 o Hx ox wt∧WR Hx ox xp mp yY Lx∧Inv yY Lx (1+3*j) (24*j))
  (λr=>r.1= .exit 0∧∃(ox:an) (yY:wR) (Lx:List iH) (x8 aU bW aP aR fO:Value),r.2.1=[cv c,cv 3,aB,x,x8,pv xp,aU,bW,aP,aR,fO]∧Fr H1 o r.2.2 ox wt∧WR r.2.2 ox xp mp yY Lx∧Inv yY Lx 211 1680) ⟨0,o4,th,L4,_,_,_,_,_,rfl,rfl,f24,h4,hI4⟩ ?_ ?_
 ·rintro kk vs Hx ⟨j,ox,yY,Lx,x8,bW,aP,aR,fO,rfl,Ek,hf,hw,hI⟩;have hxx:gj Hx ox (-1) x zs:=hx.fr hf (by simp)
  have hwj:IntKind.i64.wrap ((j:Int)+1)=((j+1:Nat):Int):=by rw[jE (by omega)];omega
  have hIe:Inv yY Lx 211 1680:=⟨by have:=hI.len;omega,hI.lists,λi hi=>by have:=hI.tape i hi;omega⟩
  have mf: ∀(x8 bW aP aR fO:Value) {Hy:ae} {oy:an} {thy:wR} {Ly:List iH},j<70→Fr Hx ox Hy oy wt→WR Hy oy xp mp thy Ly→Inv thy Ly (1+3*j+3) (24*j+24)→Ev (λn=>AW (run G n) n [cv c,cv 3,aB,x,x8,pv xp,cv j,bW,aP,aR,fO] Hy) λr=>(r.1= .normal∧∃k',k'<kk∧∃(j:Nat) (ox:an) (yY:wR) (Lx:List iH) (x8 bW aP aR fO:Value),r.2.1=[cv c,cv 3,aB,x,x8,pv xp,cv j,bW,aP,aR,fO]∧j+k'=70∧Fr H1 o r.2.2 ox wt∧WR r.2.2 ox xp mp yY Lx∧Inv yY Lx (1+3*j) (24*j))∨(r.1≠ .normal∧r.1= .exit 0∧∃(ox:an) (yY:wR) (Lx:List iH) (x8 aU bW aP aR fO:Value),r.2.1=[cv c,cv 3,aB,x,x8,pv xp,aU,bW,aP,aR,fO]∧Fr H1 o r.2.2 ox wt∧WR r.2.2 ox xp mp yY Lx∧Inv yY Lx 211 1680):=by
   intro x8 bW aP aR fO Hy oy thy Ly YI a1 a2 a3;simp -implicitDefEqProofs only[R6,FJ,hwj,sS,Nat.reduceAdd];exact Ev.ret (.inl ⟨rfl,kk-1,by omega,j+1,oy,thy,Ly,_,_,_,_,_,rfl,by omega,hf.trans a1 (λ_ h=>h) (λ_ h=>h),a2,⟨by have:=a3.len;omega,a3.lists,λi hi=>by have:=a3.tape i hi;omega⟩⟩)
  simp -implicitDefEqProofs only[R8,FK,hxx.1.len,sS,Nat.reduceAdd];refine Ev.lss (λhq=>?_) (λhq=>?_)<;>try simp -implicitDefEqProofs only[sS,Nat.reduceAdd]
  rotate_left
  ·exact Ev.ret (.inr ⟨by simp,rfl,ox,yY,Lx,_,_,_,_,_,_,rfl,hf,hw,hIe⟩)
  refine Ev.lss (λrB=>?_) (λrB=>?_)<;>try simp -implicitDefEqProofs only[sS,Nat.reduceAdd]
  rotate_left
  ·exact Ev.ret (.inr ⟨by simp,rfl,ox,yY,Lx,_,_,_,_,_,_,rfl,hf,hw,hIe⟩)
  have YI:j<70:=by omega
  obtain⟨qi,off,b,e1,e2,e3⟩:=hxx.1.idx (j:=j) (by omega)
  have e4:au (.pointer (some ⟨qi,off,none⟩)) Hx=some (cv (zs.getD j 0)):=(ak qi off Hx e2).trans e3;simp -implicitDefEqProofs only[e1,e4,sS,Nat.reduceAdd];refine Ev.call (kX _ 3 (by omega)) ?_
  rintro v H5 ⟨t,rfl,ht0,wP,rfl⟩;obtain⟨ti,rfl⟩: ∃k:Nat,t=k:=⟨t.toNat,by omega⟩
  have hti:ti<3:=by omega
  simp -implicitDefEqProofs only[ado,sS,Nat.reduceAdd];refine Ev.call (kX _ 3 (by omega)) ?_
  rintro v H5 ⟨y,rfl,_,_,rfl⟩;obtain⟨tb,cap,inv,fy,i3,i4,i6,i7,iT,_⟩:=hw.ql;obtain⟨iT1,iT2⟩:=iT ti hti;obtain⟨no,d1,d7,d8⟩:=hw.thr hti;have Nd: ∀(x8 bW aP fO:Value) (a:Int),Ev (λn=>af (run G n 23 [cv a] H5) λiO Hy=>af (run G n 22 [pv xp,cv ti,iO] Hy) λ_ Hy=>AW (run G n) n [cv c,cv 3,aB,x,x8,pv xp,cv j,bW,aP,cv ti,fO] Hy) λr=>(r.1= .normal∧∃k',k'<kk∧∃(j:Nat) (ox:an) (yY:wR) (Lx:List iH) (x8 bW aP aR fO:Value),r.2.1=[cv c,cv 3,aB,x,x8,pv xp,cv j,bW,aP,aR,fO]∧j+k'=70∧Fr H1 o r.2.2 ox wt∧WR r.2.2 ox xp mp yY Lx∧Inv yY Lx (1+3*j) (24*j))∨(r.1≠ .normal∧r.1= .exit 0∧∃(ox:an) (yY:wR) (Lx:List iH) (x8 aU bW aP aR fO:Value),r.2.1=[cv c,cv 3,aB,x,x8,pv xp,aU,bW,aP,aR,fO]∧Fr H1 o r.2.2 ox wt∧WR r.2.2 ox xp mp yY Lx∧Inv yY Lx 211 1680):=by
   intro x8 bW aP fO a;refine Ev.call (afQ a) ?_;rintro v H6 ⟨op,rfl,ex⟩;have f6:Fr H5 ox H6 (ox.from H5.length (-9)) []:=ex.fr ox (-9)
   have h6:=hw.GN f6 (by simp)
   refine Ev.call (T6 h6 hti hI (by omega) op) ?_
   rintro v H7 ⟨o7,th7,L7,f7,h7,PZ⟩;exact mf _ _ _ _ _ YI (f6.trans f7 (by simp) (λ_ h=>h)) h7 ⟨PZ.len,PZ.lists,λi hi=>by have:=PZ.tape i hi;omega⟩
  refine Ev.gtr (λhq3=>?_) (λhq3=>?_)<;>try simp -implicitDefEqProofs only[i4,iT1,iT2,d1,sS,Nat.reduceAdd]
  ·cases hb:(yY ti).busy<;>simp -implicitDefEqProofs only[ado,sS,Nat.reduceAdd]
   ·exact Nd _ _ _ _ _
   ·refine Ev.call (kX _ 24 (by omega)) ?_
    rintro v H6 ⟨u,rfl,Y5,Qr,rfl⟩;have hwu:IntKind.i64.wrap (1+u)=1+u:=jE (by omega)
    simp -implicitDefEqProofs only[hwu,afN,sS,Nat.reduceAdd];refine Ev.call (afO hw hti hI (by omega) (by omega) (k:=1+u) (by omega)) ?_
    rintro v H7 ⟨o7,th7,L7,f7,h7,PZ⟩;exact mf _ _ _ _ _ YI f7 h7 ⟨by have:=PZ.len;omega,PZ.lists,PZ.tape⟩
  ·try simp -implicitDefEqProofs only[ado,sS,Nat.reduceAdd]
   exact Nd _ _ _ _ _
 ·rintro e vs Hx ⟨he,ox,yY,Lx,x8,aU,bW,aP,aR,fO,rfl,hf,hw,hI⟩;simp only at he;subst he;simp -implicitDefEqProofs only[Sa,FL,sS,Nat.reduceAdd];exact Ev.ret ⟨xp,mp,ox,yY,Lx,rfl,hf,hw,hI⟩
end
theorem Nf {cs:List Value}{H:ae}{o:an}{q2:Int}: ∀(L:List iH) (off:Nat),(∀j e,L[j]? =some e→∃s,(cs.drop (off+13*j)).take 13=aT e s∧ee H o q2 s e.res.list)→
  ∃zs:List (iH×Value),L=zs.map (λz=>z.1)∧(cs.drop off).take (13*L.length)=jg zs∧∀z∈zs,ee H o q2 z.2 z.1.res.list
 | [],off,_=>⟨[],rfl,by simp[jg],λz hz=>by cases hz⟩
 |e::L,off,h=>by
  obtain⟨s,h1,h2⟩:=h 0 e rfl;obtain⟨zs,rfl,h3,h4⟩:=Nf L (off+13) (λj e' he=>by
   obtain⟨s',g1,g2⟩:=h (j+1) e' (by simpa using he)
   exact⟨s',by rw[show off+13+13*j=off+13*(j+1) by omega];exact g1,g2⟩)
  refine⟨(e,s)::zs,rfl,?_,λz hz=>(List.mem_cons.1 hz).elim (λe'=>e'▸h2) (h4 z)⟩
  rw[Nat.mul_zero,Nat.add_zero] at h1;simp only[List.length_cons,jg];rw[show 13*((zs.map λz=>z.1).length+1)=13+13*(zs.map λz=>z.1).length by omega,List.take_add,h1,List.drop_drop,h3]
theorem YV (H:ae):aw Tryz.prog 23 0 [] H=some (.slice (some ⟨H.length,0,none⟩) 0 0,H.new ⟨[],47,13,false⟩):=by kernel_rfl
section
variable {H H':ae} {o o':an} {q q2:Int} {x:Value} {L:List iH}
theorem oO.cut (h:oO H o q q2 x L){m n:Nat}(hm:m≤n)(hn:n≤L.length){lo hi:Option Value}(uj:cK 0 lo=some (m:Int))(Cw:cK L.length hi=some (n:Int)):
  ∃y,dD 13 H x lo hi=some y∧oO H o q q2 y ((L.take n).drop m):=by
 rcases h with⟨rfl,rfl⟩|⟨i,off,rfl,rfl⟩|⟨i,off,c,b,rfl,h1,h2,h3,h4,h5,h6⟩
 ·have e1:n=0:=by simpa using hn
  subst e1;have e2:m=0:=by omega
  subst e2;have EZ:cK 0 hi=some 0:=Cw;have E4:cK 0 lo=some 0:=uj;exact⟨.slice none 0 0,by simp[dD,E4,EZ],.inl ⟨rfl,rfl⟩⟩
 ·have e1:n=0:=by simpa using hn
  subst e1;have e2:m=0:=by omega
  subst e2;have EZ:cK 0 hi=some 0:=Cw;have E4:cK 0 lo=some 0:=uj;refine⟨.slice (some ⟨i,off,none⟩) 0 0,?_,.inr (.inl ⟨i,off,rfl,rfl⟩)⟩;cases hb:H.get i with
  |none=>simp[dD,hb,E4,EZ]
  |some b=>simp[dD,hb,E4,EZ]
 ·refine⟨.slice (some ⟨i,off+m*13,none⟩) (n-m) (c-m),?_,.inr (.inr ⟨i,off+m*13,c-m,b,?_,?_,h2,h3,h4,?_,λj e he=>?_⟩)⟩
  ·simp only[dD,uj,Cw];rw[if_pos (by omega)]
   simp only[h2,h3,if_true,Int.toNat_natCast]
  ·simp;omega
  ·simp;omega
  ·simp;omega
  ·have hj:L[m+j]? =some e:=by
    rw[List.getElem?_drop,List.getElem?_take] at he;split at he
    ·exact he
    ·cases he
   obtain⟨s,g1,g2⟩:=h6 (m+j) e hj;exact⟨s,by rw[show off+m*13+13*j=off+13*(m+j) by omega];exact g1,g2⟩
theorem oO.src (h:oO H o q q2 x L): ∃(a:Option Addr) (c:Nat) (zs:List (iH×Value)),x= .slice a L.length c∧bp H 13 L.length x=some (Fun.jg zs)∧L=zs.map (λz=>z.1)∧∀z∈zs,ee H o q2 z.2 z.1.res.list:=by
 rcases h with⟨rfl,rfl⟩|⟨i,off,rfl,rfl⟩|⟨i,off,c,b,rfl,h1,h2,h3,h4,h5,h6⟩
 ·exact⟨_,_,[],rfl,rfl,rfl,λz hz=>by cases hz⟩
 ·exact⟨_,_,[],rfl,rfl,rfl,λz hz=>by cases hz⟩
 ·obtain⟨zs,e1,e2,e3⟩:=Nf L off h6;refine⟨_,_,zs,rfl,?_,e1,e3⟩;by_cases h0:L.length=0
  ·have:L=[]:=List.length_eq_zero_iff.1 h0;subst this;have:zs=[]:=by simpa using e1.symm
   subst this;rfl
  ·simp only[bp,h0,if_false,aA,h2];rw[if_pos (by omega),show L.length*13=13*L.length by omega,e2]
theorem IQ {H:ae}{o:an}{q2:Int}: ∀zs:List (iH×Value),(∀z∈zs,ee H o q2 z.2 z.1.res.list)→(Fun.jg zs).all aD=true
 | [],_=>rfl
 |z::zs,h=>by
  obtain⟨a,c,e⟩:=(h z (List.mem_cons_self ..)).isSlice;simp only[Fun.jg,List.all_append,IQ zs (λy hy=>h y (List.mem_cons_of_mem _ hy)),Bool.and_true]
  exact Gq z _ _ _ e
theorem jD.GB {y:Value}{zs:List (iH×Value)}{a:Option Addr}{c:Nat}{tE:TypeId}(h:jD H o q q2 x L)(hy:y= .slice a zs.length c)(yg:bp H 13 zs.length y=some (Fun.jg zs))(hz: ∀z∈zs,ee H o q2 z.2 z.1.res.list)(hq:q2≠q)(hl:L.length+zs.length<4294967295):
  ∃x' H' o',cd tE 13 120 x y H=some (x',H')∧jD H' o' q q2 x' (L++zs.map λz=>z.1)∧Fr H o H' o' [q]:=by
 subst hy;have kA:=IQ zs hz;by_cases hzl:zs.length=0
 ·have:zs=[]:=List.length_eq_zero_iff.1 hzl;subst this;refine⟨x,H,o,?_,by simpa using h,Fr.refl _ _ _⟩
  rcases h with⟨rfl,rfl⟩|⟨i,cap,rest,ty,es,rfl,h2,rfl,h4,h5,h6⟩
  ·have vV:bp H 13 0 (.slice a 0 c)=some []:=yg;simp[cd,vV]
  ·simp only[cd,yg,Option.map_some];rw[if_pos (by simp;simp at h4;omega)]
   simp
 rcases h with⟨rfl,rfl⟩|⟨i,cap,rest,ty,es,rfl,h2,rfl,h4,h5,h6⟩
 ·have f:Fr H o (H.new ⟨Fun.jg zs,tE,13,false⟩) (o.up H.length q) [q]:=(Fr.refl _ _ _).new _ _;refine⟨.slice (some ⟨H.length,0,none⟩) zs.length zs.length,H.new ⟨Fun.jg zs,tE,13,false⟩,o.up H.length q,?_,.inr ⟨H.length,zs.length,[],tE,zs,by simp,by rw[az];simp,by simp,by simp,aQ,λz Eo=>(hz z Eo).fr f (by simpa using hq)⟩,f⟩
  simp only[cd,yg,Option.map_some];rw[if_neg (by omega),if_pos (by simp at hl;simp;omega)]
  simp
 ·have JI:=aq h2;have GJ:=pJ es;have afY:=pJ zs;simp only[List.length_map] at h4 hl ⊢;by_cases iN:es.length+zs.length≤cap
  ·have Qp:bO (Fun.jg es++rest) (13*es.length) (Fun.jg zs)=Fun.jg (es++zs)++rest.drop (13*zs.length):=by
    have h9:=jO (Fun.jg zs) (Fun.jg es) rest (by omega)
    rw[GJ] at h9;rw[h9,pK,afY]
   have ky:bG H i (0+es.length*13) (Fun.jg zs)=some (H.put i ⟨Fun.jg (es++zs)++rest.drop (13*zs.length),ty,13,false⟩):=by
    simp only[bG,h2,kA];rw[if_pos (by simp[GJ,afY];omega),show 0+es.length*13=13*es.length by omega,Qp]
   have f:Fr H o (H.put i ⟨Fun.jg (es++zs)++rest.drop (13*zs.length),ty,13,false⟩) o [q]:=(Fr.refl _ _ _).put λ_=>by simp[h5]
   refine⟨.slice (some ⟨i,0,none⟩) (es.length+zs.length) cap,_,o,?_,.inr ⟨i,cap,rest.drop (13*zs.length),ty,es++zs,by simp,aH h2,by simp,by simp;omega,h5,λz Eo=>?_⟩,f⟩
   ·simp only[cd,yg,Option.map_some];rw[if_pos iN,if_neg hzl];simp only[h2,if_true,ky,Option.map_some]
   ·rcases List.mem_append.1 Eo with Eo|Eo
    ·exact(h6 z Eo).fr f (by simpa using hq)
    ·exact(hz z Eo).fr f (by simpa using hq)
  ·have hold:aA H i 0 (es.length*13)=some (Fun.jg es):=by
    simp only[aA,h2];rw[if_pos (by simp[GJ];omega),List.drop_zero,List.take_left' (by omega)]
   have f:Fr H o ((H.kill i).new ⟨Fun.jg es++Fun.jg zs,tE,13,false⟩) (o.up H.length q) [q]:=by
    have:=((Fr.refl H o [q]).kill (i:=i) (λ_=>by simp[h5])).new ⟨Fun.jg es++Fun.jg zs,tE,13,false⟩ q
    rw[dt] at this;exact this
   refine⟨.slice (some ⟨H.length,0,none⟩) (es.length+zs.length) (es.length+zs.length),_,o.up H.length q,?_,.inr ⟨H.length,es.length+zs.length,[],tE,es++zs,by simp,?_,by simp,by simp,aQ,λz Eo=>?_⟩,f⟩
   ·simp only[cd,yg,Option.map_some];rw[if_neg iN,if_pos (by simp;omega)]
    simp only[h2];rw[if_pos (by simp[GJ];omega)]
    simp only[hold]
   ·have:=az (H:=H.kill i) (c:=⟨Fun.jg es++Fun.jg zs,tE,13,false⟩)
    rw[dt] at this;rw[pK];simpa using this
   ·rcases List.mem_append.1 Eo with Eo|Eo
    ·exact(h6 z Eo).fr f (by simpa using hq)
    ·exact(hz z Eo).fr f (by simpa using hq)
theorem XV: ∀{l:List (iH×Value)} {j:Nat} (y:iH×Value) (rest:List Value),j<l.length→bO (Fun.jg l++rest) (13*j) (aT y.1 y.2)=Fun.jg (l.set j y)++rest
 | [],j,y,rest,h=>by simp at h
 |z::l,j,y,rest,h=>by
  have e:z::l=(z::l).take j++(z::l).drop j:=(List.take_append_drop j _).symm;have e1:(z::l).drop j=(z::l)[j]::(z::l).drop (j+1):=List.drop_eq_getElem_cons h;have e2:Fun.jg (z::l)=Fun.jg ((z::l).take j)++(aT ((z::l)[j]).1 ((z::l)[j]).2++Fun.jg ((z::l).drop (j+1))):=by
   rw[←Fun.jg, ←e1, ←pK, ←e]
  have hl:(Fun.jg ((z::l).take j)).length=13*j:=by rw[pJ];simp;simp at h;omega
  have h9:=jO (aT y.1 y.2) (Fun.jg ((z::l).take j)) (aT ((z::l)[j]).1 ((z::l)[j]).2++Fun.jg ((z::l).drop (j+1))++rest) (by simp<;>omega)
  rw[hl] at h9;have e3:(z::l).set j y=(z::l).take j++y::(z::l).drop (j+1):=by
   rw[List.set_eq_take_append_cons_drop,if_pos h]
  rw[e2,List.append_assoc,List.append_assoc, ←List.append_assoc (aT ((z::l)[j]).1 ((z::l)[j]).2),h9,e3,pK];simp[Fun.jg,List.drop_append]
theorem jD.IS (h:jD H o q q2 x L){j:Nat}(hj:j<L.length)(hq:q2≠q): ∃ptr e' s',(∀H',bP 13 x (cv j) H'=some (ptr,H'))∧bV 13 ptr H=some (yT e' s')∧L[j]? =some e'∧ee H o q2 s' e'.res.list∧
  ∀(e:iH) (s:Value),ee H o q2 s e.res.list→∃H',bS 13 ptr (yT e s) H=some (undef,H')∧jD H' o q q2 x (L.set j e)∧Fr H o H' o [q]:=by
 obtain⟨ptr,s0,k1,k2,k3⟩:=h.jg.idx (j:=j) (e:=L[j]) (List.getElem?_eq_getElem hj);refine⟨ptr,L[j],s0,k1,k3,List.getElem?_eq_getElem hj,k2,λe s hs=>?_⟩
 rcases h with⟨rfl,rfl⟩|⟨i,cap,rest,ty,es,rfl,h2,rfl,h4,h5,h6⟩
 ·simp at hj
 ·have GJ:=pJ es;simp only[List.length_map] at h4 hj;obtain⟨sa,sc,esl⟩:=hs.isSlice;have hp:ptr= .pointer (some ⟨i,13*j,none⟩):=by
   have a:=k1 [];simp only[bP] at a;rw[if_pos (by constructor<;>simp<;>omega)] at a
   simp only[Option.some.injEq,Prod.mk.injEq,and_true,Nat.zero_add,Int.toNat_natCast] at a;rw[←a,Nat.mul_comm]
  subst hp;have f:Fr H o (H.put i ⟨Fun.jg (es.set j (e,s))++rest,ty,13,false⟩) o [q]:=(Fr.refl _ _ _).put λ_=>by simp[h5]
  refine⟨_,?_,.inr ⟨i,cap,rest,ty,es.set j (e,s),by simp,aH h2,by rw[List.map_set],by simp<;>omega,h5,λz hz=>?_⟩,f⟩
  ·have hk:known (yT e s)=true:=by rw[esl];rfl
   have ho:=Gq (e,s) _ _ _ esl;simp only[bS,bG,h2,hk];have hc:(yT e s).cells.toList=aT e s:=rfl;have oY:(yT e s).cells.size=13:=rfl;rw[if_pos (by simp[oY])]
   have jS:(!false&&decide (13*j+(aT e s).length≤(Fun.jg es++rest).length)&&(aT e s).all aD)=true:=by
    have hlen:13*j+(aT e s).length≤(Fun.jg es++rest).length:=by
     rw[List.length_append,GJ];show 13*j+13≤_
     omega
    rw[ho];simp only[hlen,decide_true,Bool.not_false,Bool.and_self]
   rw[hc,if_pos jS];simp only[Option.map_some,hc];rw[XV (e,s) rest hj]
  ·rcases List.mem_or_eq_of_mem_set hz with hz|rfl
   ·exact(h6 z hz).fr f (by simpa using hq)
   ·exact hs.fr f (by simpa using hq)
end
end Go.Proofs.YtjgmnoaalbbonaaGreat.Fun
end
