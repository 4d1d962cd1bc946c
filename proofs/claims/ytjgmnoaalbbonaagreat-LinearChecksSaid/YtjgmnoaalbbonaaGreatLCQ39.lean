/- Texts of the proof of linearChecks_holds, put together by a small program of ours (names shortened, spaces taken out). No condition beyond the given statement. -/
import Derived.Test.YtjgmnoaalbbonaaGreatLCQ16
import Derived.Test.YtjgmnoaalbbonaaGreatLCQ38
import Derived.Test.YtjgmnoaalbbonaaGreatLCQ18
import Derived.Test.YtjgmnoaalbbonaaGreatLCQ19
import Derived.Test.YtjgmnoaalbbonaaGreatLCQ21
import Derived.Test.YtjgmnoaalbbonaaGreatLCQ22
set_option linter.unusedVariables false
set_option linter.unusedSimpArgs false
set_option linter.unnecessarySimpa false
noncomputable section
section
namespace Go.Proofs.YtjgmnoaalbbonaaGreat.Fun
open Go Go.RowKit Go.Proofs.YtjgmnoaalbbonaaGreatA.Am
set_option maxRecDepth 10000
section
variable {G:ag} {H H':ae} {o o':an} {p m c mp f xp:Nat} {q:Int} {x:Value} {l:PL} {n i:Nat} {cs:List Int} {mx:Int} {T:List Int} {th:wR} {L:List iH} {N M:Nat}
theorem WR.fy (h:WR H o xp mp th L)(z:Int): ∃H1,bS 1 (.pointer (some ⟨xp,7,none⟩)) (cv z) H=some (undef,H1)∧WR H1 o xp mp th L∧Fr H o H1 o [-80]:=by
 obtain⟨c0,c1,c2,inv,fy,mx,tb,cap,cs,Lx,rest,ty,nL,g,ho,gt,mZ,hm,qu,hL⟩:=h;have S:=kF xp 7 z H g rfl (by simp)
 simp only[List.set_cons_succ,List.set_cons_zero] at S;have f:Fr H o (H.put xp ⟨[cv c0,cv c1,cv c2,pv mp,.slice (some ⟨tb,0,none⟩) 3 cap,Lx,cv inv,cv z],ty,1,false⟩) o [-80]:=(Fr.refl _ _ _).put λ_=>by simp[ho]
 refine⟨_,S,⟨c0,c1,c2,inv,z,mx,tb,cap,cs,Lx,rest,ty,nL,aH g,ho,?_,mZ,hm.fr f (by simp) (by simp),λj hj=>?_,hL.fr f (by simp) (by simp)⟩,f⟩
 ·rw[f.same tb (aq gt) (by rw[mZ];simp)];exact gt
 ·exact(qu j hj).fr f (by simp<;>omega) (by simp<;>omega) (by simp<;>omega) (by simp)
theorem WR.ahK (h:WR H o xp mp th L)(z:Int): ∃H1,bS 1 (.pointer (some ⟨xp,6,none⟩)) (cv z) H=some (undef,H1)∧WR H1 o xp mp th L∧Fr H o H1 o [-80]:=by
 obtain⟨c0,c1,c2,inv,fy,mx,tb,cap,cs,Lx,rest,ty,nL,g,ho,gt,mZ,hm,qu,hL⟩:=h;have S:=kF xp 6 z H g rfl (by simp)
 simp only[List.set_cons_succ,List.set_cons_zero] at S;have f:Fr H o (H.put xp ⟨[cv c0,cv c1,cv c2,pv mp,.slice (some ⟨tb,0,none⟩) 3 cap,Lx,cv z,cv fy],ty,1,false⟩) o [-80]:=(Fr.refl _ _ _).put λ_=>by simp[ho]
 refine⟨_,S,⟨c0,c1,c2,z,fy,mx,tb,cap,cs,Lx,rest,ty,nL,aH g,ho,?_,mZ,hm.fr f (by simp) (by simp),λj hj=>?_,hL.fr f (by simp) (by simp)⟩,f⟩
 ·rw[f.same tb (aq gt) (by rw[mZ];simp)];exact gt
 ·exact(qu j hj).fr f (by simp<;>omega) (by simp<;>omega) (by simp<;>omega) (by simp)
theorem adk (h:WR H o xp mp th L)(hi:i<3)(hI:Inv th L N M)(hN:N<4000000)(hM:M<1048576):bN (run G) 43 [pv xp,cv i] H λv H'=>∃o' sE L' r s e,
  v= .tuple #[c8 r s,.bool e]∧(∃a n c,s= .slice a n c)∧Fr H o H' o' wt∧WR H' o' xp mp sE L'∧Inv sE L' N (M+1):=by
 refine Ev.up (t:=λk=>F43 (run G k) k (pv xp) (cv i) H) ?_ λk=>aag ..
 obtain⟨H1,iI⟩: ∃z,z=H.new ⟨rc bZ,45,1,false⟩:=⟨_,rfl⟩;have l1:H1.length=H.length+1:=by rw[iI,bh]
 have n0:aO H 45 1 [cv 0,.bool false,cv 0,cv 0,cv 0,aB]=(pv H.length,H1):=by rw[iI];rfl
 obtain⟨oA,UJ⟩: ∃z,z=(o.up H.length (-9)).up H1.length (-9):=⟨_,rfl⟩;have f1:Fr H o H1 (o.up H.length (-9)) []:=by rw[iI];exact(Fr.refl H o []).new _ _
 have f1A:Fr H o H1 oA []:=⟨f1.slot,λj hj=>by rw[UJ,dc (by omega)];exact f1.own j hj,f1.size⟩
 have c1:Cl H.length (rc bZ) 45 H1 oA:=⟨by rw[iI];exact az,by rw[UJ,dc (by omega)];exact aQ⟩
 have h1:=h.GN f1A (by simp)
 obtain⟨tb,cap,inv,fy,e3,e4,e6,e7,eT,jm,hxo,YH,NY⟩:=h1.ql;obtain⟨eT1,eT2⟩:=eT i hi;obtain⟨no,b1,b7,b8⟩:=h1.thr hi;have hM1: ∀j,j<3→(th j).T.length≤M+1:=λj hj=>by have:=hI.tape j hj;omega
 have afJ: ∀{Hx:ae} {ox:an} {sE:wR} {L':List iH},Cl H.length (rc bZ) 45 Hx ox→Fr H o Hx ox wt→WR Hx ox xp mp sE L'→Inv sE L' N (M+1)→Ev (λk=>af (bS 6 (pv H.length) (c8 bZ aB) Hx) λ_ Hy=>af (pS (bV 6 (pv H.length) Hy) Hy) λr0 _=>some (Value.tuple #[r0,.bool false],Hy)) λrr=>∃o' sE L' r s e,rr.1= .tuple #[c8 r s,.bool e]∧(∃a n c,s= .slice a n c)∧Fr H o rr.2 o' wt∧WR rr.2 o' xp mp sE L'∧Inv sE L' N (M+1):=by
  intro Hx ox sE L' hc hf hw hI';have A:=tK H.length bZ (s:=aB) rfl Hx hc.1 rfl;have f4:Fr Hx ox (Hx.put H.length ⟨rc bZ,45,1,false⟩) ox [-9]:=(Fr.refl _ _ _).put λ_=>by simp[hc.2]
  have Lr:=jR H.length bZ (s:=aB) (t:=45) _ (aH hc.1);simp -implicitDefEqProofs only[A,Lr,sS,Nat.reduceAdd];exact Ev.ret ⟨ox,sE,L',bZ,aB,false,rfl,⟨_,_,_,rfl⟩,hf.put (λhh=>by omega),hw.GN f4 (by simp),hI'⟩
 simp -implicitDefEqProofs only[F43,n0,sS,Nat.reduceAdd];refine Ev.lss (λhq=>?_) (λhq=>?_)<;>try simp -implicitDefEqProofs only[e4,cq,sS,Nat.reduceAdd]
 ·omega
 refine Ev.geq (λhq=>?_) (λhq=>?_)<;>try simp -implicitDefEqProofs only[e4,eT1,eT2,b1,sS,Nat.reduceAdd]
 ·omega
 cases hb:(th i).busy<;>simp -implicitDefEqProofs only[yc,e7,sS,Nat.reduceAdd]
 ·exact afJ c1 (f1A.wk (by simp)) h1 ⟨hI.len,hI.lists,hM1⟩
 obtain⟨H2,S7,h2,f2⟩:=h1.fy (IntKind.i64.wrap (fy+1));obtain⟨YO,Er,inv2,adl,j3,j4,j6,j7,jT,jxl,jxo,jtl,jto⟩:=h2.ql;have l2:H2.length=H.length+1:=by
  have:=f2.size
  rw[l1] at this;have e2:H2.length=H1.length:=by
   have hh:=S7;obtain⟨_,_,_,_,_,_,_,_,_,_,_,_,_,g,_⟩:=id h1;rw[kF xp 7 _ H1 g rfl (by simp)] at hh
   injection hh with hh;injection hh with _ hh;rw[←hh,iw]
  omega
 obtain⟨H3,pX⟩: ∃z,z=H2.dy 1:=⟨_,rfl⟩;have f3:Fr H2 oA H3 oA []:=by rw[pX];exact(Fr.refl _ _ _).dy 1
 have h3:=h2.GN f3 (by simp)
 have afK:H3[H2.length]? =some .hole:=by rw[pX];exact rM
 have l3:H3.length=H2.length+1:=by rw[pX,ou]
 have m3: ∀{a:Nat} {k:Nat} {b:eY} {y:Value},au (.pointer (some ⟨a,k,none⟩)) H2=some y→a<H2.length→au (.pointer (some ⟨a,k,none⟩)) H3=some y:=λ{a k b y} e ha=>by
  have:H3.get a=H2.get a:=cT (f3.slot a ha (by simp))
  simp only[au,this] at e ⊢;exact e
 have k3:=m3 (b:=⟨[],0,1,false⟩) j3 jxl;have k4:=m3 (b:=⟨[],0,1,false⟩) j4 jxl;obtain⟨jT1,jT2⟩:=jT i hi;have kT:=m3 (b:=⟨[],0,1,false⟩) jT2 jtl;have ahL:H2.dy 1=H3:=pX.symm;simp -implicitDefEqProofs only[S7,ahL,k4,jT1,kT,k3,sS,Nat.reduceAdd];have hTl:(th i).T.length<1048576:=by have:=hI.tape i hi;omega
 refine Ev.call (XO h3 hi hb hTl) ?_;rintro v H4 ⟨o4,r,s,e,T',rfl,f4,h4,hT',hs4,hr4⟩;obtain⟨sa,sc,es⟩:=hs4.isSlice;have oA2:oA H2.length= -9:=by rw[UJ,l2, ←l1];exact aQ
 have afL:H4[H2.length]? =some .hole:=by rw[f4.slot H2.length (by omega) (by rw[oA2];simp<;>omega)];exact afK
 have o42:o4 H2.length= -9:=by rw[f4.own H2.length (by omega)];exact oA2
 have l4:=f4.size;obtain⟨H5,wQ⟩: ∃z:ae,z=H4.set H2.length (.hZ ⟨rc bZ,45,1,false⟩):=⟨_,rfl⟩;have lay:CL H2.length (some (λi=>Value.pointer (some ⟨i,0,none⟩),(⟨[cv 0,.bool false,cv 0,cv 0,cv 0,aB],45,1,false⟩:eY))) H4=some (pv H2.length,H5):=by rw[wQ];exact yw afL
 have f5:Fr H4 o4 H5 o4 [-9]:=by rw[wQ];exact(Fr.refl _ _ _).set _ λ_=>by simp[o42]
 have g5:H5.get H2.length=some ⟨rc bZ,45,1,false⟩:=by rw[wQ];exact mg (by omega)
 have A6:=tK H2.length r es H5 g5 rfl;obtain⟨H6,II⟩: ∃z,z=H5.put H2.length ⟨PW r s,45,1,false⟩:=⟨_,rfl⟩;have e6':(⟨[cv r.pH,.bool r.found,cv r.key,cv r.value,cv r.n,s],45,1,false⟩:eY)=⟨PW r s,45,1,false⟩:=rfl;rw[e6', ←II] at A6;have f6:Fr H5 o4 H6 o4 [-9]:=by rw[II];exact(Fr.refl _ _ _).put λ_=>by simp[o42]
 have f46:Fr H4 o4 H6 o4 [-9]:=f5.tr f6;have h6:=h4.GN f46 (by simp)
 have c6:Cl H2.length (PW r s) 45 H6 o4:=⟨by rw[II];exact aH g5,o42⟩
 have hs6:ee H6 o4 (-41) s r.list:=hs4.fr f46 (by simp)
 have kk: ∀{a:Nat} {k:Nat} {y:Value} {Hx:ae},au (.pointer (some ⟨a,k,none⟩)) H3=some y→(Hx.get a=H3.get a)→au (.pointer (some ⟨a,k,none⟩)) Hx=some y:=λ{a k y Hx} e hx=>by
  simp only[au,hx] at e ⊢;exact e
 have gx4:H4.get xp=H3.get xp:=f4.same xp (by omega) (by rw[jxo];simp<;>omega)
 have gt4:H4.get YO=H3.get YO:=f4.same YO (by omega) (by rw[jto];simp<;>omega)
 have gx5:H5.get xp=H3.get xp:=by rw[wQ,cT (hX (by omega))];exact gx4
 have gt5:H5.get YO=H3.get YO:=by rw[wQ,cT (hX (by omega))];exact gt4
 have ev4:jd (Value.slice (some ⟨YO,0,none⟩) 3 Er) (Value.slice (some ⟨YO,0,none⟩) 3 Er)=true:=jX ..;have eR:=kk k4 gx4;have dW:=kk k4 gx5;have di:=kk k3 gx4;have bW:=kk k3 gx5;have xT4:=kk kT gt4;have xT5:=kk kT gt5;simp -implicitDefEqProofs only[Nat.add_zero,lay,A6,k4,kT,k3,eR,dW,di,bW,xT4,xT5,ev4,qN,sS,Nat.reduceAdd];have hI4:Inv (tT th i ⟨(th i).ti, !e,(th i).fh,T'⟩) L (if e then N-1 else N) (M+1):=by
  refine⟨?_,hI.lists,λj hj=>?_⟩
  ·have hl:=hI.len;cases e with
   |false=>
    have hp:=Gz (th:=th) (s:=⟨(th i).ti, !false,(th i).fh,T'⟩) (d:=0) hi (by simp[xE,hb])
    simp only[Bool.false_eq_true,if_false];omega
   |true=>
    have hp:=Gz (th:=th) (s:=⟨(th i).ti, !true,(th i).fh,T'⟩) (d:=1) hi (by cases ht:(th i).fh<;>simp[xE,hb,ht])
    simp only[if_true];omega
  ·unfold tT;split
   ·have:=hI.tape i hi
    show T'.length≤M+1
    omega
   ·exact hM1 j hj
 refine Ev.call (XP h6 hI4 (by split<;>omega)) ?_
 rintro v H7 ⟨o7,th7,L7,f7,h7,PZ,qK⟩;have fA7:Fr H o H7 o7 wt:=((((f1A.trans f2 (rs:=wt) (by simp) (by simp)).trans f3 (rs:=wt) (λ_ h=>h) (by simp)).trans f4 (rs:=wt) (λ_ h=>h) (M9 hi)).trans f46 (rs:= -9::wt) (by simp) (by simp)).trans f7 (rs:= -9::wt) (λ_ h=>h) (by simp) |> λf=>by
  exact⟨λj hj hn=>by
   rw[f7.slot j (by have:=f46.size;omega) (by rw[(f46.own j (by omega)),f4.own j (by omega)];have:=f1A.own j hj;rw[this];exact hn)]
   have eC:j≠H2.length:=by omega
   rw[II,cU eC,wQ,hX eC,f4.slot j (by omega) (by rw[f1A.own j hj];exact λhh=>hn (M9 hi _ hh)),f3.slot j (by omega) (by simp),f2.slot j (by omega) (by rw[f1A.own j hj];exact λhh=>hn (by simp at hh;simp[hh]))]
   exact f1A.slot j hj (by simp),f.own,f.size⟩
 have c7:Cl H2.length (PW r s) 45 H7 o7:=c6.fr f7 (by simp)
 have afM:Cl H.length (rc bZ) 45 H7 o7:=by
  have a1:Cl H.length (rc bZ) 45 H4 o4:=((c1.fr f2 (by simp)).fr f3 (by simp)).fr f4 (by simp<;>omega)
  have a2:Cl H.length (rc bZ) 45 H6 o4:=⟨by rw[II,bt (by omega),wQ,cT (hX (by omega))];exact a1.1,a1.2⟩
  exact a2.fr f7 (by simp)
 have hs7:ee H7 o7 (-41) s r.list:=hs6.fr f7 (by simp)
 cases e<;>simp -implicitDefEqProofs only[yc,sS,Nat.reduceAdd]
 ·exact afJ afM fA7 h7 (by simpa using PZ)
 ·simp only[if_true] at PZ;have hN1:1≤N:=by
   have:=hI.len
   have hp:1≤xE (th i):=by cases ht:(th i).fh<;>simp[xE,hb,ht]
   have:i=0∨i=1∨i=2:=by omega
   rcases this with rfl|rfl|rfl<;>omega
  obtain⟨tb7,ain,aio,Lj,i3,i4,i6,i7,iT,ixl,ixo,itl,ito⟩:=h7.ql;obtain⟨iT1,iT2⟩:=iT i hi;obtain⟨no7,d1,d7,d8⟩:=h7.thr hi;have Lr:=jR H2.length r (s:=s) H7 c7.1;have aip:=PZ.len;obtain⟨Lx,q1,q2,q3,x',H8,H9,o9,q4,q5,h9,f9⟩:=h7.app ⟨3,i,no7,⟨0,0,0⟩,r,Lj⟩ (s:=s) hs7 (by omega)
  have c9:Cl H2.length (PW r s) 45 H9 o9:=c7.fr f9 (by simp)
  have T4:Cl H.length (rc bZ) 45 H9 o9:=afM.fr f9 (by simp)
  have Lr9:=jR H2.length r (s:=s) H9 c9.1;have A10:=tK H.length r es H9 T4.1 rfl;have ahM:=jR H.length r (s:=s) (t:=45) _ (aH (c:=⟨PW r s,45,1,false⟩) T4.1);have e10:(⟨[cv r.pH,.bool r.found,cv r.key,cv r.value,cv r.n,s],45,1,false⟩:eY)=⟨PW r s,45,1,false⟩:=rfl;rw[e10] at A10;have f10:Fr H9 o9 (H9.put H.length ⟨PW r s,45,1,false⟩) o9 [-9]:=(Fr.refl _ _ _).put λ_=>by simp[T4.2]
  simp -implicitDefEqProofs only[q1,i4,iT1,iT2,d8,Lr,i7,afF _ _ _ r es,TZ _ es,q2,q4,q5,q3,Lr9,A10,ahM,sS,Nat.reduceAdd];refine Ev.ret ⟨o9,th7,L7++[⟨3,i,no7,⟨0,0,0⟩,r,Lj⟩],r,s,true,rfl,⟨_,_,_,es⟩,(fA7.trans f9 (rs:=wt) (λ_ h=>h) (by simp)).put (λhh=>by omega),h9.GN f10 (by simp),⟨?_,?_,PZ.tape⟩⟩
  ·simp only[List.length_append,List.length_singleton];omega
  ·intro z hz;rcases List.mem_append.1 hz with hz|hz
   ·exact PZ.lists z hz
   ·have:z=⟨3,i,no7,⟨0,0,0⟩,r,Lj⟩:=by simpa using hz
    subst this;exact hr4
end
section
variable {G:ag} {H H':ae} {o o':an} {p m c mp f xp:Nat} {q:Int} {x:Value} {l:PL} {n i:Nat} {cs:List Int} {mx:Int} {T:List Int} {th:wR} {L:List iH} {N M:Nat}
theorem adm (dG:Int)(op:jZ):aI Tryz.prog 140 [(1,cv dG),(10,iG op)]=some (.agg (ac dG op).toArray):=by kernel_rfl
theorem ahN (t:Nat)(op:jZ)(a b k key val:Int)(F:Value)(st no:Int)(bu tk:Bool){T:TypeId}(H:ae)(h:H.get t=some ⟨[cv a,.bool bu,cv k,cv key,cv val,F,cv st,.bool tk,cv no],T,1,false⟩):bS 3 (.pointer (some ⟨t,2,none⟩)) (iG op) H=some (undef,H.put t ⟨[cv a,.bool bu,cv op.kind,cv op.key,cv op.value,F,cv st,.bool tk,cv no],T,1,false⟩):=by
 simp[bS,bG,h,Value.cells,known,aD,bO]
theorem XQ (h:WR H o xp mp th L)(hi:i<3)(op:jZ):bN (run G) 45 [pv (th i).ti,iG op] H λv H'=>∃o' e sE,v=cv e∧Fr H o H' o' [-200-i, -210-i, -220-i, -70, -71]∧WR H' o' xp mp sE L∧((e=0∧sE=tT th i ⟨(th i).ti,true,false,[]⟩)∨(e≠0∧sE=th)):=by
 refine Ev.up (t:=λk=>F45 (run G k) k (pv (th i).ti) (iG op) H) ?_ λk=>aaM ..
 obtain⟨H1,iI⟩: ∃z,z=H.new ⟨qj op,39,1,false⟩:=⟨_,rfl⟩;have bx:=tJ op H;rw[←iI] at bx;have f1:Fr H o H1 (o.up H.length (-9)) []:=by rw[iI];exact(Fr.refl H o []).new _ _
 have c1:Cl H.length (qj op) 39 H1 (o.up H.length (-9)):=by rw[iI];exact Cl.made
 have h1:=h.GN f1 (by simp)
 obtain⟨c0',_,_,_,_,mx,_,_,cs,_,_,_,_,_,_,_,_,hm,qu,_⟩:=id h1;obtain⟨dG,k,key,val,steps,no,F,ty,g,mZ,hF⟩:=qu i hi;have L1:au (.pointer (some ⟨(th i).ti,1,none⟩)) H1=some (.bool (th i).busy):=ak _ 1 H1 g;have L0:au (pv (th i).ti) H1=some (cv dG):=ak _ 0 H1 g;have K0:au (pv H.length) H1=some (cv op.kind):=ak _ 0 H1 c1.1;have KO:bV 3 (pv H.length) H1=some (iG op):=Qj c1.1;have XR: ∀(e:Int),e≠0→Ev (λ_=>some (cv e,H1)) λr=>∃o' e sE,r.1=cv e∧Fr H o r.2 o' [-200-i, -210-i, -220-i, -70, -71]∧WR r.2 o' xp mp sE L∧((e=0∧sE=tT th i ⟨(th i).ti,true,false,[]⟩)∨(e≠0∧sE=th)):=λe he=>Ev.ret ⟨_,e,th,rfl,f1.wk (by simp),h1,.inr ⟨he,rfl⟩⟩
 simp -implicitDefEqProofs only[F45,bx,L1,sS,Nat.reduceAdd];cases hb:(th i).busy<;>simp -implicitDefEqProofs only[K0,Nat.add_zero,sS,Nat.reduceAdd]
 rotate_left
 ·exact XR 4 (by simp)
 refine Ev.lss (λhq=>?_) (λhq=>?_)<;>try simp -implicitDefEqProofs only[K0,Nat.add_zero,sS,Nat.reduceAdd]
 ·exact XR 5 (by simp)
 refine Ev.gtr (λhq=>?_) (λhq=>?_)<;>try simp -implicitDefEqProofs only[L0,Nat.add_zero,sS,Nat.reduceAdd]
 ·exact XR 5 (by simp)
 refine Ev.lss (λhq=>?_) (λhq=>?_)<;>try simp -implicitDefEqProofs only[L0,Nat.add_zero,sS,Nat.reduceAdd]
 ·exact XR 2 (by simp)
 refine Ev.gtr (λhq=>?_) (λhq=>?_)<;>try simp -implicitDefEqProofs only[sS,Nat.reduceAdd]
 ·exact XR 2 (by simp)
 have eC:(th i).ti≠H.length:=by
  intro e;have a:=c1.2;have b:=mZ;rw[e] at b;omega
 rw[hb] at g;have S1:=jA (th i).ti 1 (.bool true) H1 g rfl (by simp) rfl rfl rfl
 simp only[List.set_cons_succ,List.set_cons_zero] at S1;obtain⟨H2,jt⟩: ∃z,z=H1.put (th i).ti ⟨[cv dG,.bool true,cv k,cv key,cv val,F,cv steps,.bool (th i).fh,cv no],ty,1,false⟩:=⟨_,rfl⟩;rw[←jt] at S1;have g2:H2.get (th i).ti=some ⟨[cv dG,.bool true,cv k,cv key,cv val,F,cv steps,.bool (th i).fh,cv no],ty,1,false⟩:=by rw[jt];exact aH g
 have b2:H2.get H.length=some ⟨qj op,39,1,false⟩:=by rw[jt,bt (Ne.symm eC)];exact c1.1
 have KO2:bV 3 (pv H.length) H2=some (iG op):=Qj b2;have S2:=ahN (th i).ti op dG 0 k key val F steps no true (th i).fh H2 g2;obtain⟨H3,pX⟩: ∃z,z=H2.put (th i).ti ⟨[cv dG,.bool true,cv op.kind,cv op.key,cv op.value,F,cv steps,.bool (th i).fh,cv no],ty,1,false⟩:=⟨_,rfl⟩;rw[←pX] at S2;have g3:H3.get (th i).ti=some ⟨[cv dG,.bool true,cv op.kind,cv op.key,cv op.value,F,cv steps,.bool (th i).fh,cv no],ty,1,false⟩:=by rw[pX];exact aH g2
 have S3:=kF (th i).ti 6 0 H3 g3 rfl (by simp)
 simp only[List.set_cons_succ,List.set_cons_zero] at S3;obtain⟨H4,qt⟩: ∃z,z=H3.put (th i).ti ⟨[cv dG,.bool true,cv op.kind,cv op.key,cv op.value,F,cv 0,.bool (th i).fh,cv no],ty,1,false⟩:=⟨_,rfl⟩;rw[←qt] at S3;have g4:H4.get (th i).ti=some ⟨[cv dG,.bool true,cv op.kind,cv op.key,cv op.value,F,cv 0,.bool (th i).fh,cv no],ty,1,false⟩:=by rw[qt];exact aH g3
 have S4:=jA (th i).ti 7 (.bool false) H4 g4 rfl (by simp) rfl rfl rfl
 simp only[List.set_cons_succ,List.set_cons_zero] at S4;obtain⟨H5,wQ⟩: ∃z,z=H4.put (th i).ti ⟨[cv dG,.bool true,cv op.kind,cv op.key,cv op.value,F,cv 0,.bool false,cv no],ty,1,false⟩:=⟨_,rfl⟩;rw[←wQ] at S4;have g5:H5.get (th i).ti=some ⟨[cv dG,.bool true,cv op.kind,cv op.key,cv op.value,F,cv 0,.bool false,cv no],ty,1,false⟩:=by rw[wQ];exact aH g4
 have b5:H5.get H.length=some ⟨qj op,39,1,false⟩:=by rw[wQ,bt (Ne.symm eC),qt,bt (Ne.symm eC),pX,bt (Ne.symm eC)];exact b2
 have f5:Fr H1 (o.up H.length (-9)) H5 (o.up H.length (-9)) [-200-i]:=by
  rw[wQ,qt,pX,jt];exact((((Fr.refl _ _ _).put λ_=>by simp[mZ]).put λ_=>by simp[mZ]).put λ_=>by simp[mZ]).put λ_=>by simp[mZ]
 have KO5:bV 3 (pv H.length) H5=some (iG op):=Qj b5;have K5:au (pv H.length) H5=some (cv op.kind):=ak _ 0 H5 b5;have L05:au (pv (th i).ti) H5=some (cv dG):=ak _ 0 H5 g5;have J0: ∀(proc:Int) (x4 x6 aU bT dS:Value),(proc=24∨proc=25)→Ev (λk=>FG (run G k) k [pv (th i).ti,iG op,x4,x6,pv H.length,aU,bT,dS,cv proc] H5) λr=>∃o' e sE,r.1=cv e∧Fr H o r.2 o' [-200-i, -210-i, -220-i, -70, -71]∧WR r.2 o' xp mp sE L∧((e=0∧sE=tT th i ⟨(th i).ti,true,false,[]⟩)∨(e≠0∧sE=th)):=by
  intro proc x4 x6 aU bT dS hp;simp -implicitDefEqProofs only[RX,FF,L05,KO5,adm,Nat.add_zero,sS,Nat.reduceAdd];refine Ev.call (adh (ftI i) hp dG op H5 (o.up H.length (-9))) ?_;rintro v H6 ⟨f,o6,rfl,f6,hf6⟩;have yl:(o.up H.length (-9)) (th i).ti= -200-i:=mZ;have g6:H6.get (th i).ti=some ⟨[cv dG,.bool true,cv op.kind,cv op.key,cv op.value,F,cv 0,.bool false,cv no],ty,1,false⟩:=by rw[f6.same _ (aq g5) (by rw[yl];simp<;>omega)];exact g5
  have ho6:o6 (th i).ti= -200-i:=by rw[f6.own _ (aq g5)];exact yl
  have S5:=agl (th i).ti 5 (some ⟨f,0,none⟩) H6 g6 rfl (by simp)
  simp only[List.set_cons_succ,List.set_cons_zero] at S5;obtain⟨H7,UH⟩: ∃z,z=H6.put (th i).ti ⟨[cv dG,.bool true,cv op.kind,cv op.key,cv op.value,pv f,cv 0,.bool false,cv no],ty,1,false⟩:=⟨_,rfl⟩;rw[←UH] at S5;have f7:Fr H6 o6 H7 o6 [-200-i]:=by rw[UH];exact(Fr.refl _ _ _).put λ_=>by simp[ho6]
  have fB:Fr H1 (o.up H.length (-9)) H7 o6 [-200-i, -210-i, -220-i, -70, -71]:=(f5.trans f6 (rs:=[-200-i, -210-i, -220-i, -70, -71]) (by simp) (by simp)).trans f7 (by simp) (by simp)
  have ht7:YL H7 o6 i ⟨(th i).ti,true,false,[]⟩:=⟨dG,op.kind,op.key,op.value,0,no,pv f,ty,by rw[UH];exact aH g6,ho6,λ_=>⟨f,rfl,hf6.fr f7 (by simp<;>omega) (by simp<;>omega) (by simp<;>omega)⟩⟩
  have hm7:=(((hm.fr f5 (by simp<;>omega) (by simp<;>omega)).fr f6 (by simp<;>omega) (by simp<;>omega)).fr f7 (by simp<;>omega) (by simp<;>omega))
  simp -implicitDefEqProofs only[S5,sS,Nat.reduceAdd];exact Ev.ret ⟨o6,0,_,rfl,f1.trans fB (by simp) (λ_ h=>h),h1.PX hi fB ht7 rfl ⟨_,_,hm7⟩,.inl ⟨rfl,rfl⟩⟩
 simp -implicitDefEqProofs only[S1,KO2,S2,S3,S4,K5,Nat.add_zero,sS,Nat.reduceAdd];refine Ev.gtr (λhq=>?_) (λhq=>?_)<;>try simp -implicitDefEqProofs only[sS,Nat.reduceAdd]
 ·exact J0 25 _ _ _ _ _ (.inr rfl)
 ·exact J0 24 _ _ _ _ _ (.inl rfl)
theorem WR.no (h:WR H o xp mp th L)(hi:i<3)(z:Int): ∃H1,bS 1 (.pointer (some ⟨(th i).ti,8,none⟩)) (cv z) H=some (undef,H1)∧WR H1 o xp mp th L∧Fr H o H1 o [-200-i]:=by
 obtain⟨c0,c1,c2,inv,fy,mx,tb,cap,cs,Lx,rest,ty,nL,g,ho,gt,mZ,hm,qu,hL⟩:=id h;obtain⟨dG,k,key,val,steps,no,F,ty,g,mZ,hF⟩:=qu i hi;have S:=kF (th i).ti 8 z H g rfl (by simp)
 simp only[List.set_cons_succ,List.set_cons_zero] at S;have f:Fr H o (H.put (th i).ti ⟨[cv dG,.bool (th i).busy,cv k,cv key,cv val,F,cv steps,.bool (th i).fh,cv z],ty,1,false⟩) o [-200-i]:=(Fr.refl _ _ _).put λ_=>by simp[mZ]
 have hw:=h.PX hi (s':=th i) (f.wk (by simp)) ⟨dG,k,key,val,steps,z,F,ty,aH g,mZ,λhb=>by
  obtain⟨f',e,hf⟩:=hF hb;exact⟨f',e,hf.fr f (by simp<;>omega) (by simp<;>omega) (by simp<;>omega)⟩⟩ rfl ⟨mx,cs,hm.fr f (by simp<;>omega) (by simp<;>omega)⟩
 have e:Fun.tT th i (th i)=th:=by
  funext j
  unfold Fun.tT;split
  ·rename_i e;rw[e]
  ·rfl
 rw[e] at hw;exact⟨_,S,hw,f⟩
theorem T6 (h:WR H o xp mp th L)(hi:i<3)(hI:Inv th L N M)(hN:N<4000000)(op:jZ):bN (run G) 22 [pv xp,cv i,iG op] H λv H'=>∃o' sE L',Fr H o H' o' wt∧WR H' o' xp mp sE L'∧Inv sE L' (N+3) M:=by
 refine Ev.up (t:=λk=>F22 (run G k) k (pv xp) (cv i) (iG op) H) ?_ λk=>abb ..
 obtain⟨H1,iI⟩: ∃z,z=H.new ⟨qj op,39,1,false⟩:=⟨_,rfl⟩;have bx:=tJ op H;rw[←iI] at bx;have f1:Fr H o H1 (o.up H.length (-9)) []:=by rw[iI];exact(Fr.refl H o []).new _ _
 have c1:Cl H.length (qj op) 39 H1 (o.up H.length (-9)):=by rw[iI];exact Cl.made
 have h1:=h.GN f1 (by simp)
 obtain⟨tb,cap,inv,fy,e3,e4,e6,e7,eT,_⟩:=h1.ql;obtain⟨eT1,eT2⟩:=eT i hi;have KO:bV 3 (pv H.length) H1=some (iG op):=Qj c1.1;have hI3:Inv th L (N+3) M:=⟨by have:=hI.len;omega,hI.lists,hI.tape⟩
 simp -implicitDefEqProofs only[F22,bx,sS,Nat.reduceAdd];refine Ev.lss (λhq=>?_) (λhq=>?_)<;>try simp -implicitDefEqProofs only[e4,cq,sS,Nat.reduceAdd]
 ·omega
 refine Ev.geq (λhq=>?_) (λhq=>?_)<;>try simp -implicitDefEqProofs only[e4,eT1,eT2,KO,sS,Nat.reduceAdd]
 ·omega
 refine Ev.call (XQ h1 hi op) ?_;rintro v H2 ⟨o2,e,PY,rfl,f2,h2,he⟩;have f2w:Fr H o H2 o2 wt:=f1.trans f2 (by simp) (M9 hi)
 try simp -implicitDefEqProofs only[sS,Nat.reduceAdd]
 rcases he with⟨rfl,rfl⟩|⟨he,rfl⟩
 rotate_left
 ·refine Ev.neq (λhq=>?_) (λhq=>?_)<;>try simp -implicitDefEqProofs only[sS,Nat.reduceAdd]
  ·exact Ev.ret ⟨o2,_,L,f2w,h2,hI3⟩
  ·exact absurd hq he
 refine Ev.neq (λhq=>?_) (λhq=>?_)<;>try simp -implicitDefEqProofs only[sS,Nat.reduceAdd]
 ·exact absurd rfl hq
 obtain⟨PY,eth⟩: ∃z,z=tT th i ⟨(th i).ti,true,false,[]⟩:=⟨_,rfl⟩;rw[←eth] at h2;have eti:(PY i).ti=(th i).ti:=by rw[eth];simp[tT]
 have c2:Cl H.length (qj op) 39 H2 o2:=c1.fr f2 (by simp<;>omega)
 obtain⟨YO,Er,inv2,adl,j3,j4,j6,j7,jT,_⟩:=h2.ql;obtain⟨jT1,jT2⟩:=jT i hi;obtain⟨H3,S8,h3,f3⟩:=h2.no hi inv2;obtain⟨tb3,aiq,ahO,ahP,k3,k4,k6,k7,kT,_⟩:=h3.ql;obtain⟨H4,S6,h4,f4⟩:=h3.ahK (IntKind.i64.wrap (ahO+1));obtain⟨tb4,air,ais,Lk,i3,i4,i6,i7,iT,_⟩:=h4.ql;obtain⟨iT1,iT2⟩:=iT i hi;obtain⟨XR,d1,d7,d8⟩:=h4.thr hi;have c4:Cl H.length (qj op) 39 H4 o2:=(c2.fr f3 (by simp<;>omega)).fr f4 (by simp)
 have KO4:bV 3 (pv H.length) H4=some (iG op):=Qj c4.1;have hl:=hI.len;obtain⟨Lx,q1,q2,q3,x',H5,H6,o6,q4,q5,h6,f6⟩:=h4.app ⟨1,i,XR,op,bZ,Lk⟩ (s:=aB) .nil (by omega)
 simp -implicitDefEqProofs only[j4,jT1,jT2,j6,S8,k6,S6,q1,i4,iT1,iT2,d8,KO4,i7,afE,TZ _ rfl,q2,q4,q5,q3,sS,Nat.reduceAdd];refine Ev.ret ⟨o6,PY,L++[⟨1,i,XR,op,bZ,Lk⟩],((f2w.trans f3 (rs:=wt) (λ_ h=>h) (Na hi)).trans f4 (rs:=wt) (λ_ h=>h) (by simp)).trans f6 (λ_ h=>h) (by simp),h6,⟨?_,?_,?_⟩⟩
 ·have hp:=adj (th:=th) (s:=⟨(th i).ti,true,false,[]⟩) (d:=2) hi (by simp[xE])
  rw[←eth] at hp;simp only[List.length_append,List.length_singleton];omega
 ·intro e he;rcases List.mem_append.1 he with he|he
  ·exact hI.lists e he
  ·have:e=⟨1,i,XR,op,bZ,Lk⟩:=by simpa using he
   subst this;simp[bZ]
 ·intro j hj;rw[eth];unfold tT;split
  ·simp
  ·exact hI.tape j hj
theorem afN (t n:Int):aI Tryz.prog 76 [(0,cv 2),(1,cv t),(2,cv n)]=some (.agg #[cv 2,cv t,cv n,cv 0,cv 0,cv 0]):=by kernel_rfl
theorem adn (t n:Int)(H:ae):cB 76 (.agg #[cv 2,cv t,cv n,cv 0,cv 0,cv 0]) H=some (pv H.length,H.new ⟨[cv 2,cv t,cv n,cv 0,cv 0,cv 0],76,1,false⟩):=by
 simp[cB,Value.cells,aD,aO]
theorem afO (h:WR H o xp mp th L)(hi:i<3)(hI:Inv th L N M)(hN:N<4000000)(hM:M+24<1048576){k:Int}(hk:1≤k∧k≤24):bN (run G) 21 [pv xp,.agg #[cv 2,cv i,cv k,cv 0,cv 0,cv 0]] H λv H'=>∃o' sE L',Fr H o H' o' wt∧WR H' o' xp mp sE L'∧Inv sE L' N (M+24):=by
 refine Ev.up (t:=λk'=>F21 (run G k') k' (pv xp) (.agg #[cv 2,cv i,cv k,cv 0,cv 0,cv 0]) H) ?_ λk'=>aba ..
 obtain⟨H1,iI⟩: ∃z,z=H.new ⟨[cv 2,cv i,cv k,cv 0,cv 0,cv 0],76,1,false⟩:=⟨_,rfl⟩;have bx:=adn i k H;rw[←iI] at bx;have f1:Fr H o H1 (o.up H.length (-9)) []:=by rw[iI];exact(Fr.refl H o []).new _ _
 have c1:Cl H.length [cv 2,cv i,cv k,cv 0,cv 0,cv 0] 76 H1 (o.up H.length (-9)):=by rw[iI];exact Cl.made
 have h1:=h.GN f1 (by simp)
 have K0:au (pv H.length) H1=some (cv 2):=ak _ 0 H1 c1.1;simp -implicitDefEqProofs only[F21,bx,K0,Nat.add_zero,sS,Nat.reduceAdd];refine Ev.eql (λhq=>?_) (λhq=>?_)<;>try simp -implicitDefEqProofs only[sS,Nat.reduceAdd]
 ·omega
 refine Ev.eql (λhq=>?_) (λhq=>?_)<;>try simp -implicitDefEqProofs only[sS,Nat.reduceAdd]
 rotate_left
 ·omega
 refine Ev.loop (k:=24) (λkk vs Hx=>∃(j:Nat) (o1:an) (nf:wR) (L1:List iH) (x4 aU aP bT cy x7 dE cZ x8 dQ x9 fI jY:Value),j+kk=24∧vs=[pv xp,.agg #[cv 2,cv i,cv k,cv 0,cv 0,cv 0],x4,pv H.length,aU,aP,bT,cv j,cy,x7,dE,cZ,x8,dQ,x9,fI,jY]∧Fr H o Hx o1 wt∧Cl H.length [cv 2,cv i,cv k,cv 0,cv 0,cv 0] 76 Hx o1∧WR Hx o1 xp mp nf L1∧Inv nf L1 N (M+j))
  (λr=>r.1= .exit 1∧∃(o1:an) (nf:wR) (L1:List iH) (x4 aU aP bT x5 cy x7 dE cZ x8 dQ x9 fI jY:Value),r.2.1=[pv xp,.agg #[cv 2,cv i,cv k,cv 0,cv 0,cv 0],x4,pv H.length,aU,aP,bT,x5,cy,x7,dE,cZ,x8,dQ,x9,fI,jY]∧Fr H o r.2.2 o1 wt∧WR r.2.2 o1 xp mp nf L1∧Inv nf L1 N (M+24)) ?_ ?_ ?_
 ·exact⟨0,_,th,L,_,_,_,_,_,_,_,_,_,_,_,_,_,rfl,rfl,f1.wk (by simp),c1,h1,hI⟩
 ·rintro kk vs Hx ⟨j,o1,nf,L1,x4,aU,aP,bT,cy,x7,dE,cZ,x8,dQ,x9,fI,jY,Ek,rfl,nN,hc,hw,IN⟩;have K1:au (.pointer (some ⟨H.length,1,none⟩)) Hx=some (cv i):=ak _ 1 Hx hc.1;have K2:au (.pointer (some ⟨H.length,2,none⟩)) Hx=some (cv k):=ak _ 2 Hx hc.1;have GH:IntKind.i64.wrap ((j:Int)+1)=((j+1:Nat):Int):=by rw[jE (by omega)];omega
  have ahQ:Inv nf L1 N (M+24):=⟨IN.len,IN.lists,λa ha=>by have:=IN.tape a ha;omega⟩
  simp -implicitDefEqProofs only[Sg,FP,K2,sS,Nat.reduceAdd];refine Ev.lss (λhq=>?_) (λhq=>?_)<;>try simp -implicitDefEqProofs only[sS,Nat.reduceAdd]
  rotate_left
  ·exact Ev.ret (.inr ⟨by simp,rfl,o1,nf,L1,_,_,_,_,_,_,_,_,_,_,_,_,_,_,rfl,nN,hw,ahQ⟩)
  refine Ev.lss (λrB=>?_) (λrB=>?_)<;>try simp -implicitDefEqProofs only[K1,sS,Nat.reduceAdd]
  rotate_left
  ·omega
  refine Ev.call (adk hw hi IN hN (by omega)) ?_
  rintro v H2 ⟨o2,PY,L2,r,s,e,rfl,⟨sa,sn,sc,es⟩,f2,h2,hI2⟩;obtain⟨H3,pX⟩: ∃z,z=H2.new ⟨rc bZ,45,1,false⟩:=⟨_,rfl⟩;have n0:aO H2 45 1 [cv 0,.bool false,cv 0,cv 0,cv 0,aB]=(pv H2.length,H3):=by rw[pX];rfl
  have g3:H3.get H2.length=some ⟨rc bZ,45,1,false⟩:=by rw[pX];exact az
  have A:=tK H2.length r es H3 g3 rfl;obtain⟨H4,qt⟩: ∃z,z=H3.put H2.length ⟨[cv r.pH,.bool r.found,cv r.key,cv r.value,cv r.n,s],45,1,false⟩:=⟨_,rfl⟩;rw[←qt] at A;have f4:Fr H2 o2 H4 (o2.up H2.length (-9)) []:=by rw[qt,pX];exact((Fr.refl _ _ _).new _ _).put λhh=>by omega
  have h4:=h2.GN f4 (by simp)
  have hc4:=(hc.fr f2 (by simp)).fr f4 (by simp)
  have hf4:Fr H o H4 (o2.up H2.length (-9)) wt:=(nN.trans f2 (rs:=wt) (λ_ h=>h) (λ_ h=>h)).trans f4 (λ_ h=>h) (by simp)
  simp -implicitDefEqProofs only[n0,A,sS,Nat.reduceAdd];cases e<;>simp -implicitDefEqProofs only[GH,sS,Nat.reduceAdd]
  ·exact Ev.ret (.inl ⟨rfl,kk-1,by omega,j+1,_,PY,L2,_,_,_,_,_,_,_,_,_,_,_,_,_,by omega,rfl,hf4,hc4,h4,hI2⟩)
  ·exact Ev.ret (.inr ⟨by simp,rfl,_,PY,L2,_,_,_,_,_,_,_,_,_,_,_,_,_,_,rfl,hf4,h4,⟨hI2.len,hI2.lists,λa ha=>by have:=hI2.tape a ha;omega⟩⟩)
 ·rintro e vs Hx ⟨he,o1,nf,L1,x4,aU,aP,bT,x5,cy,x7,dE,cZ,x8,dQ,x9,fI,jY,rfl,nN,hw,IN⟩;simp only at he;subst he;simp -implicitDefEqProofs only[Se,FN,sS,Nat.reduceAdd];exact Ev.ret ⟨o1,nf,L1,nN,hw,IN⟩
theorem kX (a k:Int)(hk:0<k∧k≤1000):bN (run G) 9 [cv a,cv k] H λv H'=>∃z,v=cv z∧0≤z∧z<k∧H'=H:=by
 refine Ev.up (t:=λn=>F9 (run G n) n (cv a) (cv k) H) ?_ λn=>ael ..
 have h1:=Int.tmod_lt_of_pos a hk.1;have h2: -k<a.tmod k:=by
  have h3:=Int.tmod_lt_of_pos (-a) hk.1;rw[Int.neg_tmod] at h3;omega
 simp -implicitDefEqProofs only[F9,EV _ a k (by omega),sS,Nat.reduceAdd]
 refine Ev.lss (λhq=>?_) (λhq=>?_)<;>try simp -implicitDefEqProofs only[Wt,Ku,sS,Nat.reduceAdd]
 ·refine Ev.ret ⟨_,rfl,?_,?_,rfl⟩
  ·rw[jE (by omega)];omega
  ·rw[jE (by omega)];omega
 ·exact Ev.ret ⟨_,rfl,by omega,by omega,rfl⟩
theorem ado (t:TypeId)(a:Int):aj Tryz.prog .quo t (cv a) (cv 3)=some (cv (IntKind.i64.wrap (a.tdiv 3))):=kZ _ a 3 (by decide)
theorem YP (t:TypeId)(a:Int):aj Tryz.prog .quo t (cv a) (cv 14)=some (cv (IntKind.i64.wrap (a.tdiv 14))):=kZ _ a 14 (by decide)
theorem YQ (t:TypeId)(a:Int):aj Tryz.prog .quo t (cv a) (cv 41)=some (cv (IntKind.i64.wrap (a.tdiv 41))):=kZ _ a 41 (by decide)
theorem afP (a b c:Int):aI Tryz.prog 39 [(0,cv a),(1,cv b),(2,cv c)]=some (iG ⟨a,b,c⟩):=by kernel_rfl
theorem afQ (a:Int):bN (run G) 23 [cv a] H λv H'=>∃op,v=iG op∧Ext H H':=by
 refine Ev.up (t:=λn=>F23 (run G n) n (cv a) H) ?_ λn=>ab8 ..
 obtain⟨H1,iI⟩: ∃z,z=H.new ⟨[cv 0,cv 0,cv 0],39,1,false⟩:=⟨_,rfl⟩;have n0:aO H 39 1 [cv 0,cv 0,cv 0]=(pv H.length,H1):=by rw[iI];rfl
 have g1:H1.get H.length=some ⟨[cv 0,cv 0,cv 0],39,1,false⟩:=by rw[iI];exact az
 have J0: ∀(k:Int) (x8:Value),Ev (λn=>Gd (run G n) n [cv a,pv H.length,cv k,x8] H1) λr=>∃op,r.1=iG op∧Ext H r.2:=by
  intro k x8;simp -implicitDefEqProofs only[SF,Gc,YP,YQ,sS,Nat.reduceAdd];refine Ev.call (kX _ 41 (by omega)) ?_
  rintro v H' ⟨z1,rfl,_,_,rfl⟩
  try simp -implicitDefEqProofs only[YP,YQ,sS,Nat.reduceAdd]
  refine Ev.call (kX _ 50 (by omega)) ?_
  rintro v H' ⟨z2,rfl,_,_,rfl⟩;have A: ∀(op:jZ),bS 3 (pv H.length) (iG op) H'=some (undef,H'.put H.length ⟨qj op,39,1,false⟩):=λop=>by simp[bS,bG,g1,Value.cells,known,aD,bO]
  have B: ∀(op:jZ),bV 3 (pv H.length) (H'.put H.length ⟨qj op,39,1,false⟩)=some (iG op):=λop=>Qj (t:=39) (aH g1)
  simp -implicitDefEqProofs only[afP,A,B,sS,Nat.reduceAdd];refine Ev.ret ⟨_,rfl,?_⟩;show Ext H (H'.put H.length _)
  rw[iI];exact((Ext.refl H).new _).put (Nat.le_refl _)
 simp -implicitDefEqProofs only[F23,n0,sS,Nat.reduceAdd];refine Ev.call (kX _ 14 (by omega)) ?_
 rintro v H' ⟨z,rfl,_,_,rfl⟩
 try simp -implicitDefEqProofs only[sS,Nat.reduceAdd]
 refine Ev.gtr (λhq=>?_) (λhq=>?_)<;>try simp -implicitDefEqProofs only[sS,Nat.reduceAdd]
 ·refine Ev.call (kX _ 3 (by omega)) ?_
  rintro v H' ⟨z,rfl,_,_,rfl⟩
  try simp -implicitDefEqProofs only[sS,Nat.reduceAdd]
  exact J0 _ _
 ·exact J0 _ _
end
end Go.Proofs.YtjgmnoaalbbonaaGreat.Fun
end
